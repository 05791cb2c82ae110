/- Part 10. -/
import Derived.Test.YtmpgkalgfmnpjaaGreatPart09
set_option linter.unusedVariables false
set_option linter.unusedSimpArgs false
section
namespace Go.Px
set_option maxRecDepth 100000
structure Lens (s t : Inn) : Prop where
 bt : t.batters.length = s.batters.length
 bd : t.bowled.length = s.bowled.length
 sb : t.subs.length = s.subs.length
 bw : t.bowlers.length ≤ s.bowlers.length + 1
 bf : t.before.length ≤ s.before.length + s.bowlers.length + 1
theorem Lens.refl (s : Inn) : Lens s s := ⟨rfl, rfl, rfl, by omega, by omega⟩
theorem P_c {α : Type} {P : α → Prop} (b : Bool) (x y : α) (hx : P x) (hy : P y) : P (cond b x y) := by cases b <;> assumption
theorem bO (s : Inn) (d : Del) : Lens s (Ad s d) := by
 have hb : ∀ (b : Bool), (cond b (MY s.batters s.striker 2) s.batters).length = s.batters.length := fun b => by cases b <;> simp [KM]
 have hc : ∀ (b : Bool), (cond b (MY s.batters s.other 2) s.batters).length = s.batters.length := fun b => by cases b <;> simp [KM]
 unfold Ad
 cases (!(d.runs.tmod 2 == 0) != d.crossed) <;> refine P_c _ _ _ ⟨hb _, rfl, rfl, ?_, ?_⟩ (P_c _ _ _ ⟨hc _, rfl, rfl, ?_, ?_⟩ ⟨rfl, rfl, rfl, ?_, ?_⟩) <;> simp <;> omega
theorem Zt (r : Rul) (s : Inn) (c : Bool) : Lens s (Ai r s c).1 := by
 have hl : (cond (JP s.bowlers s.bowlers.length s.bowler) s.bowlers (s.bowlers ++ [[.int s.bowler]])).length ≤ s.bowlers.length + 1 := by
  cases JP s.bowlers s.bowlers.length s.bowler <;> simp
 have hd : (cond c (MY s.bowled s.bowler (inc (atI s.bowled (ix s.bowler) 0))) s.bowled).length = s.bowled.length := by cases c <;> simp [KM]
 unfold Ai
 refine P_c (P := fun x : Inn × Bool => Lens s x.1) _ _ _ (Lens.refl s) (P_c (P := fun x : Inn × Bool => Lens s x.1) _ _ _ ⟨rfl, hd, rfl, hl, by simp; omega⟩ ⟨rfl, hd, rfl, by simp, ?_⟩)
 simp only
 omega
def YC (a b c d : Int) : Int := cond (!(a == 0)) a (cond (!(b == 0)) b (cond (!(c == 0)) c (cond (!(d == 0)) d 0)))
def HZ (r : Rul) (s : Inn) (d : Del) : Int :=
 cond (F6 s.batters s.striker s.other) 6 (cond (s.bowler == 0) 7 (YC (P2 r s) (Fi d) (O5 d s.freehit) (Py s d)))
theorem Vj {N : Nat} {r1 r2 r3 r4 r5 r6 r7 r9 r10 r11 r12 : Int} {r8 : Bool} {r0 : ByteArray} {r13 : Rows} {s0 s1 s2 s3 s4 s5 s6 s7 s8 s9 s10 s11 s12 s13 s15 s21 s22 s23 s25 s26 s27 : Int} {s18 s20 : Bool} {s14 s16 s17 s19 s24 : Rows} {d0 d1 d2 d3 d4 d6 d7 d8 d9 d11 : Int} {d5 d10 : Bool} (h : Fit s14 s16 s17 s19 s24) (hN : 2097152 < N) (h13 : r13.length ≤ 1048576) : Du N [.str r0, .int r1, .int r2, .int r3, .int r4, .int r5, .int r6, .int r7, .bool r8, .int r9, .int r10, .int r11, .int r12, .rows r13, .int s0, .int s1, .int s2, .int s3, .int s4, .int s5, .int s6, .int s7, .int s8, .int s9, .int s10, .int s11, .int s12, .int s13, .rows s14, .int s15, .rows s16, .rows s17, .bool s18, .rows s19, .bool s20, .int s21, .int s22, .int s23, .rows s24, .int s25, .int s26, .int s27, .int d0, .int d1, .int d2, .int d3, .int d4, .bool d5, .int d6, .int d7, .int d8, .int d9, .bool d10, .int d11] = some [.int (HZ (⟨r0, r1, r2, r3, r4, r5, r6, r7, r8, r9, r10, r11, r12, r13⟩ : Rul) (⟨s0, s1, s2, s3, s4, s5, s6, s7, s8, s9, s10, s11, s12, s13, s14, s15, s16, s17, s18, s19, s20, s21, s22, s23, s24, s25, s26, s27⟩ : Inn) (⟨d0, d1, d2, d3, d4, d5, d6, d7, d8, d9, d10, d11⟩ : Del))] := by
 show F2 (std (Bw N) N) (xOf _) = _
 generalize hres : (some [.int (HZ (⟨r0, r1, r2, r3, r4, r5, r6, r7, r8, r9, r10, r11, r12, r13⟩ : Rul) (⟨s0, s1, s2, s3, s4, s5, s6, s7, s8, s9, s10, s11, s12, s13, s14, s15, s16, s17, s18, s19, s20, s21, s22, s23, s24, s25, s26, s27⟩ : Inn) (⟨d0, d1, d2, d3, d4, d5, d6, d7, d8, d9, d10, d11⟩ : Del))] : Option (List PV)) = RR
 simp only [F2, KU, K1, MH, Ik, MC, std, xOf, PXb, Qd h.bt hN, aO h hN h13, QE, Sm hN, aN h]
 subst hres; simp only [HZ]
 cases F6 s14 s12 s13 <;> try rfl
 cases s15 == 0 <;> try rfl
 simp only [PXb]
 generalize P2 (⟨r0, r1, r2, r3, r4, r5, r6, r7, r8, r9, r10, r11, r12, r13⟩ : Rul) (⟨s0, s1, s2, s3, s4, s5, s6, s7, s8, s9, s10, s11, s12, s13, s14, s15, s16, s17, s18, s19, s20, s21, s22, s23, s24, s25, s26, s27⟩ : Inn) = a
 generalize Fi (⟨d0, d1, d2, d3, d4, d5, d6, d7, d8, d9, d10, d11⟩ : Del) = b
 generalize O5 (⟨d0, d1, d2, d3, d4, d5, d6, d7, d8, d9, d10, d11⟩ : Del) s20 = c
 generalize Py (⟨s0, s1, s2, s3, s4, s5, s6, s7, s8, s9, s10, s11, s12, s13, s14, s15, s16, s17, s18, s19, s20, s21, s22, s23, s24, s25, s26, s27⟩ : Inn) (⟨d0, d1, d2, d3, d4, d5, d6, d7, d8, d9, d10, d11⟩ : Del) = e
 refine AP (CF (len := 4) (fun i => cond (!(atI [[.int a], [.int b], [.int c], [.int e]] i 0 == 0)) (some [.int (atI [[.int a], [.int b], [.int c], [.int e]] i 0)]) none) ?_ ?_ 4 0 N (by omega) (by omega)) ?_
 ·intro self
  rfl
 ·intro i self hi
  simp only [PXb, Ap (show i ≤ 1099511627776 by omega), List.length_cons, List.length_nil, Nat.reduceAdd, Az hi, AX hi, Bc]
  cases atI [[.int a], [.int b], [.int c], [.int e]] i 0 == 0 <;> rfl
 ·refine (Yl _).trans (congrArg (fun z => some [PV.int z]) ?_)
  unfold YC
  simp only [BA]
  rw [show atI [[.int a], [.int b], [.int c], [.int e]] 0 0 = a from rfl, show atI [[.int a], [.int b], [.int c], [.int e]] (0 + 1) 0 = b from rfl, show atI [[.int a], [.int b], [.int c], [.int e]] (0 + 1 + 1) 0 = c from rfl, show atI [[.int a], [.int b], [.int c], [.int e]] (0 + 1 + 1 + 1) 0 = e from rfl]
  cases a == 0 <;> try rfl
  cases b == 0 <;> try rfl
  cases c == 0 <;> try rfl
  cases e == 0 <;> rfl
theorem Pz {s t : Inn} (l : Lens s t) (h : s.Fit) (hw : s.before.length + s.bowlers.length ≤ 1048575) : t.Fit := ⟨l.bt ▸ h.bt, by have := l.bw; omega, by have := l.bf; omega, l.bd ▸ h.bd, l.sb ▸ h.sb⟩
theorem iT (s : Inn) (d : Del) : (Ad s d).bowlers = s.bowlers := by
 unfold Ad
 cases (!(d.runs.tmod 2 == 0) != d.crossed) <;> exact P_c (P := fun x : Inn => x.bowlers = s.bowlers) _ _ _ rfl (P_c (P := fun x : Inn => x.bowlers = s.bowlers) _ _ _ rfl rfl)
theorem iG (s : Inn) (d : Del) : (Ad s d).before = s.before := by
 unfold Ad
 cases (!(d.runs.tmod 2 == 0) != d.crossed) <;> exact P_c (P := fun x : Inn => x.before = s.before) _ _ _ rfl (P_c (P := fun x : Inn => x.before = s.before) _ _ _ rfl rfl)
@[reducible] def T8 (t : Inn) (a b e f g : Int) : Inn := ⟨t.side, t.target, t.overs, a, t.wickets, b, e, f, g, t.pens, t.complete, t.inover, t.striker, t.other, t.batters, t.bowler, t.bowlers, t.before, t.fresh, t.bowled, t.freehit, t.ballage, t.keeper, t.outside, t.subs, t.rev1, t.rev2, t.ending⟩
def LN (r : Rul) (s : Inn) (d : Del) : Inn × Int :=
  cond (!(HZ r s d == 0)) (s, HZ r s d)
    (let c := AB r d
     let t := Ad s d
     let o := Ai r (T8 t (IntKind.i64.wrap (t.runs + C6 c)) (IntKind.i64.wrap (t.wides + c.wides)) (IntKind.i64.wrap (t.noballs + c.noballs)) (IntKind.i64.wrap (t.byes + c.byes)) (IntKind.i64.wrap (t.legbyes + c.legbyes))) c.counts
     let t : Inn := cond o.2 (Hb o.1) o.1
     ({ t with freehit := cond (d.type == 1) false (cond (d.type == 3 && r.freehit) true o.1.freehit) }, 0))
theorem Yo {N : Nat} {r1 r2 r3 r4 r5 r6 r7 r9 r10 r11 r12 : Int} {r8 : Bool} {r0 : ByteArray} {r13 : Rows} {s0 s1 s2 s3 s4 s5 s6 s7 s8 s9 s10 s11 s12 s13 s15 s21 s22 s23 s25 s26 s27 : Int} {s18 s20 : Bool} {s14 s16 s17 s19 s24 : Rows} {d0 d1 d2 d3 d4 d6 d7 d8 d9 d11 : Int} {d5 d10 : Bool} (h : Fit s14 s16 s17 s19 s24) (hw : s17.length + s16.length ≤ 1000000) (hN : 2097152 < N) (hs : r0.size ≤ 1048576) (h13 : r13.length ≤ 1048576) : GT N [.str r0, .int r1, .int r2, .int r3, .int r4, .int r5, .int r6, .int r7, .bool r8, .int r9, .int r10, .int r11, .int r12, .rows r13, .int s0, .int s1, .int s2, .int s3, .int s4, .int s5, .int s6, .int s7, .int s8, .int s9, .int s10, .int s11, .int s12, .int s13, .rows s14, .int s15, .rows s16, .rows s17, .bool s18, .rows s19, .bool s20, .int s21, .int s22, .int s23, .rows s24, .int s25, .int s26, .int s27, .int d0, .int d1, .int d2, .int d3, .int d4, .bool d5, .int d6, .int d7, .int d8, .int d9, .bool d10, .int d11] = some (BH (LN (⟨r0, r1, r2, r3, r4, r5, r6, r7, r8, r9, r10, r11, r12, r13⟩ : Rul) (⟨s0, s1, s2, s3, s4, s5, s6, s7, s8, s9, s10, s11, s12, s13, s14, s15, s16, s17, s18, s19, s20, s21, s22, s23, s24, s25, s26, s27⟩ : Inn) (⟨d0, d1, d2, d3, d4, d5, d6, d7, d8, d9, d10, d11⟩ : Del))) := by
 show Ix (std (Bi N) N) (xOf _) = _
 generalize hres : (some (BH (LN (⟨r0, r1, r2, r3, r4, r5, r6, r7, r8, r9, r10, r11, r12, r13⟩ : Rul) (⟨s0, s1, s2, s3, s4, s5, s6, s7, s8, s9, s10, s11, s12, s13, s14, s15, s16, s17, s18, s19, s20, s21, s22, s23, s24, s25, s26, s27⟩ : Inn) (⟨d0, d1, d2, d3, d4, d5, d6, d7, d8, d9, d10, d11⟩ : Del))) : Option (List PV)) = RR
 have l1 := bO (⟨s0, s1, s2, s3, s4, s5, s6, s7, s8, s9, s10, s11, s12, s13, s14, s15, s16, s17, s18, s19, s20, s21, s22, s23, s24, s25, s26, s27⟩ : Inn) (⟨d0, d1, d2, d3, d4, d5, d6, d7, d8, d9, d10, d11⟩ : Del)
 have f1 := Pz l1 h (by simp only; omega)
 have w1 : (Ad (⟨s0, s1, s2, s3, s4, s5, s6, s7, s8, s9, s10, s11, s12, s13, s14, s15, s16, s17, s18, s19, s20, s21, s22, s23, s24, s25, s26, s27⟩ : Inn) (⟨d0, d1, d2, d3, d4, d5, d6, d7, d8, d9, d10, d11⟩ : Del)).bowlers.length = s16.length := congrArg List.length (iT _ _)
 have w2 : (Ad (⟨s0, s1, s2, s3, s4, s5, s6, s7, s8, s9, s10, s11, s12, s13, s14, s15, s16, s17, s18, s19, s20, s21, s22, s23, s24, s25, s26, s27⟩ : Inn) (⟨d0, d1, d2, d3, d4, d5, d6, d7, d8, d9, d10, d11⟩ : Del)).before.length = s17.length := congrArg List.length (iG _ _)
 have l2 := fun (x : Rul) (c : Bool) (a b e f g : Int) => Zt x (T8 (Ad (⟨s0, s1, s2, s3, s4, s5, s6, s7, s8, s9, s10, s11, s12, s13, s14, s15, s16, s17, s18, s19, s20, s21, s22, s23, s24, s25, s26, s27⟩ : Inn) (⟨d0, d1, d2, d3, d4, d5, d6, d7, d8, d9, d10, d11⟩ : Del)) a b e f g) c
 have f2 := fun (x : Rul) (c : Bool) (a b e f g : Int) => Pz (l2 x c a b e f g) f1 (show (Ad (⟨s0, s1, s2, s3, s4, s5, s6, s7, s8, s9, s10, s11, s12, s13, s14, s15, s16, s17, s18, s19, s20, s21, s22, s23, s24, s25, s26, s27⟩ : Inn) (⟨d0, d1, d2, d3, d4, d5, d6, d7, d8, d9, d10, d11⟩ : Del)).before.length + (Ad (⟨s0, s1, s2, s3, s4, s5, s6, s7, s8, s9, s10, s11, s12, s13, s14, s15, s16, s17, s18, s19, s20, s21, s22, s23, s24, s25, s26, s27⟩ : Inn) (⟨d0, d1, d2, d3, d4, d5, d6, d7, d8, d9, d10, d11⟩ : Del)).bowlers.length ≤ 1048575 by omega)
 simp only [Ix, Lq, MF, M8, LW, O6, O1, Mu, std, xOf, PXb, PXc, PXn, PXm, Nat.reduceAdd, Int.reduceBEq, Vj h hN h13, Bz h, F1, dB h, QG, Cre.ls, dK f1 (show (Ad (⟨s0, s1, s2, s3, s4, s5, s6, s7, s8, s9, s10, s11, s12, s13, s14, s15, s16, s17, s18, s19, s20, s21, s22, s23, s24, s25, s26, s27⟩ : Inn) (⟨d0, d1, d2, d3, d4, d5, d6, d7, d8, d9, d10, d11⟩ : Del)).bowlers.length ≤ 1048575 by omega) hN hs, jA, XZ (f2 _ _ _ _ _ _ _)]
 subst hres; simp only [LN, T8]
 cases HZ (⟨r0, r1, r2, r3, r4, r5, r6, r7, r8, r9, r10, r11, r12, r13⟩ : Rul) (⟨s0, s1, s2, s3, s4, s5, s6, s7, s8, s9, s10, s11, s12, s13, s14, s15, s16, s17, s18, s19, s20, s21, s22, s23, s24, s25, s26, s27⟩ : Inn) (⟨d0, d1, d2, d3, d4, d5, d6, d7, d8, d9, d10, d11⟩ : Del) == 0 with
 | false => rfl
 | true =>
  obtain ⟨o, ho⟩ : ∃ o, o = Ai (⟨r0, r1, r2, r3, r4, r5, r6, r7, r8, r9, r10, r11, r12, r13⟩ : Rul) (T8 (Ad (⟨s0, s1, s2, s3, s4, s5, s6, s7, s8, s9, s10, s11, s12, s13, s14, s15, s16, s17, s18, s19, s20, s21, s22, s23, s24, s25, s26, s27⟩ : Inn) (⟨d0, d1, d2, d3, d4, d5, d6, d7, d8, d9, d10, d11⟩ : Del)) (IntKind.i64.wrap ((Ad (⟨s0, s1, s2, s3, s4, s5, s6, s7, s8, s9, s10, s11, s12, s13, s14, s15, s16, s17, s18, s19, s20, s21, s22, s23, s24, s25, s26, s27⟩ : Inn) (⟨d0, d1, d2, d3, d4, d5, d6, d7, d8, d9, d10, d11⟩ : Del)).runs + C6 (AB (⟨r0, r1, r2, r3, r4, r5, r6, r7, r8, r9, r10, r11, r12, r13⟩ : Rul) (⟨d0, d1, d2, d3, d4, d5, d6, d7, d8, d9, d10, d11⟩ : Del)))) (IntKind.i64.wrap ((Ad (⟨s0, s1, s2, s3, s4, s5, s6, s7, s8, s9, s10, s11, s12, s13, s14, s15, s16, s17, s18, s19, s20, s21, s22, s23, s24, s25, s26, s27⟩ : Inn) (⟨d0, d1, d2, d3, d4, d5, d6, d7, d8, d9, d10, d11⟩ : Del)).wides + (AB (⟨r0, r1, r2, r3, r4, r5, r6, r7, r8, r9, r10, r11, r12, r13⟩ : Rul) (⟨d0, d1, d2, d3, d4, d5, d6, d7, d8, d9, d10, d11⟩ : Del)).wides)) (IntKind.i64.wrap ((Ad (⟨s0, s1, s2, s3, s4, s5, s6, s7, s8, s9, s10, s11, s12, s13, s14, s15, s16, s17, s18, s19, s20, s21, s22, s23, s24, s25, s26, s27⟩ : Inn) (⟨d0, d1, d2, d3, d4, d5, d6, d7, d8, d9, d10, d11⟩ : Del)).noballs + (AB (⟨r0, r1, r2, r3, r4, r5, r6, r7, r8, r9, r10, r11, r12, r13⟩ : Rul) (⟨d0, d1, d2, d3, d4, d5, d6, d7, d8, d9, d10, d11⟩ : Del)).noballs)) (IntKind.i64.wrap ((Ad (⟨s0, s1, s2, s3, s4, s5, s6, s7, s8, s9, s10, s11, s12, s13, s14, s15, s16, s17, s18, s19, s20, s21, s22, s23, s24, s25, s26, s27⟩ : Inn) (⟨d0, d1, d2, d3, d4, d5, d6, d7, d8, d9, d10, d11⟩ : Del)).byes + (AB (⟨r0, r1, r2, r3, r4, r5, r6, r7, r8, r9, r10, r11, r12, r13⟩ : Rul) (⟨d0, d1, d2, d3, d4, d5, d6, d7, d8, d9, d10, d11⟩ : Del)).byes)) (IntKind.i64.wrap ((Ad (⟨s0, s1, s2, s3, s4, s5, s6, s7, s8, s9, s10, s11, s12, s13, s14, s15, s16, s17, s18, s19, s20, s21, s22, s23, s24, s25, s26, s27⟩ : Inn) (⟨d0, d1, d2, d3, d4, d5, d6, d7, d8, d9, d10, d11⟩ : Del)).legbyes + (AB (⟨r0, r1, r2, r3, r4, r5, r6, r7, r8, r9, r10, r11, r12, r13⟩ : Rul) (⟨d0, d1, d2, d3, d4, d5, d6, d7, d8, d9, d10, d11⟩ : Del)).legbyes))) (AB (⟨r0, r1, r2, r3, r4, r5, r6, r7, r8, r9, r10, r11, r12, r13⟩ : Rul) (⟨d0, d1, d2, d3, d4, d5, d6, d7, d8, d9, d10, d11⟩ : Del)).counts := ⟨_, rfl⟩
  simp only [T8, C6] at ho ⊢
  simp only [← ho]
  obtain ⟨o1, o2⟩ := o
  cases o2 <;> cases d0 == 1 <;> cases d0 == 3 <;> cases r8 <;> rfl
theorem dY (r : Rul) (s : Inn) (b : Bool) (a c d e f : Int) : Ai r (T8 s a c d e f) b = (T8 (Ai r s b).1 a c d e f, (Ai r s b).2) := by
 unfold Ai T8
 simp only
 cases (!inR s.bowler s.bowled.length || !(BD r == 0)) with
 | true => rfl
 | false =>
  simp only [cond_false]
  cases iLt (cond b (inc s.inover) s.inover) r.balls <;> rfl
def KX (r : Rul) (s : Inn) (side : Int) : Inn × Int := cond (!(side == s.side)) (s, 2) (cond (!(r.overs == 0)) (s, 20) ({ s with ending := 4 }, 0))
theorem Ve {N : Nat} {r1 r2 r3 r4 r5 r6 r7 r9 r10 r11 r12 : Int} {r8 : Bool} {r0 : ByteArray} {r13 : Rows} {s0 s1 s2 s3 s4 s5 s6 s7 s8 s9 s10 s11 s12 s13 s15 s21 s22 s23 s25 s26 s27 : Int} {s18 s20 : Bool} {s14 s16 s17 s19 s24 : Rows} {e0 e1 e2 e3 e5 e6 e7 e8 e9 e10 e11 e13 e14 e15 e16 e18 : Int} {e4 e12 e17 : Bool} (h : Fit s14 s16 s17 s19 s24) : D3 N [.str r0, .int r1, .int r2, .int r3, .int r4, .int r5, .int r6, .int r7, .bool r8, .int r9, .int r10, .int r11, .int r12, .rows r13, .int s0, .int s1, .int s2, .int s3, .int s4, .int s5, .int s6, .int s7, .int s8, .int s9, .int s10, .int s11, .int s12, .int s13, .rows s14, .int s15, .rows s16, .rows s17, .bool s18, .rows s19, .bool s20, .int s21, .int s22, .int s23, .rows s24, .int s25, .int s26, .int s27, .int e0, .int e1, .int e2, .int e3, .bool e4, .int e5, .int e6, .int e7, .int e8, .int e9, .int e10, .int e11, .bool e12, .int e13, .int e14, .int e15, .int e16, .bool e17, .int e18] = some (BH (KX (⟨r0, r1, r2, r3, r4, r5, r6, r7, r8, r9, r10, r11, r12, r13⟩ : Rul) (⟨s0, s1, s2, s3, s4, s5, s6, s7, s8, s9, s10, s11, s12, s13, s14, s15, s16, s17, s18, s19, s20, s21, s22, s23, s24, s25, s26, s27⟩ : Inn) e1)) := by
 show Fv (std (Hl N) N) (xOf _) = _
 generalize hres : (some (BH (KX (⟨r0, r1, r2, r3, r4, r5, r6, r7, r8, r9, r10, r11, r12, r13⟩ : Rul) (⟨s0, s1, s2, s3, s4, s5, s6, s7, s8, s9, s10, s11, s12, s13, s14, s15, s16, s17, s18, s19, s20, s21, s22, s23, s24, s25, s26, s27⟩ : Inn) e1)) : Option (List PV)) = RR
 simp only [Fv, K5, std, xOf, PXb, PXc, PXn, PXm, Nat.reduceAdd, Int.reduceBEq, Bz h]
 subst hres; simp only [KX]
 cases e1 == s0 <;> cases r3 == 0 <;> rfl
def OL (s : Inn) : Inn := { s with runs := IntKind.i64.wrap (s.runs + 5), pens := IntKind.i64.wrap (s.pens + 5) }
theorem OX {N : Nat} {s0 s1 s2 s3 s4 s5 s6 s7 s8 s9 s10 s11 s12 s13 s15 s21 s22 s23 s25 s26 s27 : Int} {s18 s20 : Bool} {s14 s16 s17 s19 s24 : Rows} (h : Fit s14 s16 s17 s19 s24) : Bv N [.int s0, .int s1, .int s2, .int s3, .int s4, .int s5, .int s6, .int s7, .int s8, .int s9, .int s10, .int s11, .int s12, .int s13, .rows s14, .int s15, .rows s16, .rows s17, .bool s18, .rows s19, .bool s20, .int s21, .int s22, .int s23, .rows s24, .int s25, .int s26, .int s27] = some (OL (⟨s0, s1, s2, s3, s4, s5, s6, s7, s8, s9, s10, s11, s12, s13, s14, s15, s16, s17, s18, s19, s20, s21, s22, s23, s24, s25, s26, s27⟩ : Inn)).ls := by
 show Fx (std (Hf N) N) (xOf _) = _
 generalize hres : (some (OL (⟨s0, s1, s2, s3, s4, s5, s6, s7, s8, s9, s10, s11, s12, s13, s14, s15, s16, s17, s18, s19, s20, s21, s22, s23, s24, s25, s26, s27⟩ : Inn)).ls : Option (List PV)) = RR
 simp only [Fx, K6, std, xOf, PXb, PXc, PXn, PXm, Nat.reduceAdd, Int.reduceBEq, Bz h]
 subst hres; simp only [OL]
 rfl
def G7 (s : Inn) (side runs : Int) : Inn × Int :=
 cond (!(runs == 5)) (s, 23) (cond (side == s.side) (OL s, 0) ({ s with target := cond (iLt 0 s.target) (IntKind.i64.wrap (s.target + 5)) s.target }, 0))
theorem Vu {N : Nat} {s0 s1 s2 s3 s4 s5 s6 s7 s8 s9 s10 s11 s12 s13 s15 s21 s22 s23 s25 s26 s27 : Int} {s18 s20 : Bool} {s14 s16 s17 s19 s24 : Rows} {e0 e1 e2 e3 e5 e6 e7 e8 e9 e10 e11 e13 e14 e15 e16 e18 : Int} {e4 e12 e17 : Bool} (h : Fit s14 s16 s17 s19 s24) : Dx N [.int s0, .int s1, .int s2, .int s3, .int s4, .int s5, .int s6, .int s7, .int s8, .int s9, .int s10, .int s11, .int s12, .int s13, .rows s14, .int s15, .rows s16, .rows s17, .bool s18, .rows s19, .bool s20, .int s21, .int s22, .int s23, .rows s24, .int s25, .int s26, .int s27, .int e0, .int e1, .int e2, .int e3, .bool e4, .int e5, .int e6, .int e7, .int e8, .int e9, .int e10, .int e11, .bool e12, .int e13, .int e14, .int e15, .int e16, .bool e17, .int e18] = some (BH (G7 (⟨s0, s1, s2, s3, s4, s5, s6, s7, s8, s9, s10, s11, s12, s13, s14, s15, s16, s17, s18, s19, s20, s21, s22, s23, s24, s25, s26, s27⟩ : Inn) e1 e5)) := by
 show Fu (std (El N) N) (xOf _) = _
 generalize hres : (some (BH (G7 (⟨s0, s1, s2, s3, s4, s5, s6, s7, s8, s9, s10, s11, s12, s13, s14, s15, s16, s17, s18, s19, s20, s21, s22, s23, s24, s25, s26, s27⟩ : Inn) e1 e5)) : Option (List PV)) = RR
 simp only [Fu, K0, JT, std, xOf, PXb, PXc, PXn, PXm, Nat.reduceAdd, Int.reduceBEq, Bz h, OX h]
 subst hres; simp only [G7]
 cases e5 == 5 <;> cases e1 == s0 <;> cases iLt 0 s1 <;> rfl
def Kp (r : Rul) (s : Inn) (side : Int) (yes : Bool) : Inn × Int :=
 cond (!s.fresh || iLe r.reviews (cond (side == 2) s.rev2 s.rev1)) (s, 24) (cond (!yes) ({ s with rev1 := cond (side == 1) (inc s.rev1) s.rev1, rev2 := cond (side == 2) (inc s.rev2) s.rev2 }, 0) (s, 0))
theorem wr1 : IntKind.i64.wrap (1 - 1) = 0 := rfl
theorem wr2 : IntKind.i64.wrap (2 - 1) = 1 := rfl
theorem aq : iIn 0 2 = true := rfl
theorem dR : iIn 1 2 = true := rfl
theorem We {N : Nat} {r1 r2 r3 r4 r5 r6 r7 r9 r10 r11 r12 : Int} {r8 : Bool} {r0 : ByteArray} {r13 : Rows} {s0 s1 s2 s3 s4 s5 s6 s7 s8 s9 s10 s11 s12 s13 s15 s21 s22 s23 s25 s26 s27 : Int} {s18 s20 : Bool} {s14 s16 s17 s19 s24 : Rows} {e0 e1 e2 e3 e5 e6 e7 e8 e9 e10 e11 e13 e14 e15 e16 e18 : Int} {e4 e12 e17 : Bool} (h : Fit s14 s16 s17 s19 s24) (he : e1 = 1 ∨ e1 = 2) : EP N [.str r0, .int r1, .int r2, .int r3, .int r4, .int r5, .int r6, .int r7, .bool r8, .int r9, .int r10, .int r11, .int r12, .rows r13, .int s0, .int s1, .int s2, .int s3, .int s4, .int s5, .int s6, .int s7, .int s8, .int s9, .int s10, .int s11, .int s12, .int s13, .rows s14, .int s15, .rows s16, .rows s17, .bool s18, .rows s19, .bool s20, .int s21, .int s22, .int s23, .rows s24, .int s25, .int s26, .int s27, .int e0, .int e1, .int e2, .int e3, .bool e4, .int e5, .int e6, .int e7, .int e8, .int e9, .int e10, .int e11, .bool e12, .int e13, .int e14, .int e15, .int e16, .bool e17, .int e18] = some (BH (Kp (⟨r0, r1, r2, r3, r4, r5, r6, r7, r8, r9, r10, r11, r12, r13⟩ : Rul) (⟨s0, s1, s2, s3, s4, s5, s6, s7, s8, s9, s10, s11, s12, s13, s14, s15, s16, s17, s18, s19, s20, s21, s22, s23, s24, s25, s26, s27⟩ : Inn) e1 e4)) := by
 show ES (std (Ih N) N) (xOf _) = _
 generalize hres : (some (BH (Kp (⟨r0, r1, r2, r3, r4, r5, r6, r7, r8, r9, r10, r11, r12, r13⟩ : Rul) (⟨s0, s1, s2, s3, s4, s5, s6, s7, s8, s9, s10, s11, s12, s13, s14, s15, s16, s17, s18, s19, s20, s21, s22, s23, s24, s25, s26, s27⟩ : Inn) e1 e4)) : Option (List PV)) = RR
 rcases he with he | he <;> subst he
 ·simp only [ES, FR, std, xOf, PXb, PXc, PXn, PXm, Nat.reduceAdd, Int.reduceBEq, Bz h, wr1, wr2, aq, dR]
  subst hres; simp only [Kp, Int.reduceBEq, beq_self_eq_true, cond_true, cond_false]
  cases s18 <;> cases e4 <;> first | rfl | (cases iLe r11 s25 <;> rfl)
 ·simp only [ES, FR, std, xOf, PXb, PXc, PXn, PXm, Nat.reduceAdd, Int.reduceBEq, Bz h, wr1, wr2, aq, dR]
  subst hres; simp only [Kp, Int.reduceBEq, beq_self_eq_true, cond_true, cond_false]
  cases s18 <;> cases e4 <;> first | rfl | (cases iLe r11 s26 <;> rfl)
theorem YZ {N : Nat} {r1 r2 r3 r4 r5 r6 r7 r9 r10 r11 r12 : Int} {r8 : Bool} {r0 : ByteArray} {r13 : Rows} {s0 s1 s2 s3 s4 s5 s6 s7 s8 s9 s10 s11 s12 s13 s15 s21 s22 s23 s25 s26 s27 : Int} {s18 s20 : Bool} {s14 s16 s17 s19 s24 : Rows}  : FE N [.str r0, .int r1, .int r2, .int r3, .int r4, .int r5, .int r6, .int r7, .bool r8, .int r9, .int r10, .int r11, .int r12, .rows r13, .int s0, .int s1, .int s2, .int s3, .int s4, .int s5, .int s6, .int s7, .int s8, .int s9, .int s10, .int s11, .int s12, .int s13, .rows s14, .int s15, .rows s16, .rows s17, .bool s18, .rows s19, .bool s20, .int s21, .int s22, .int s23, .rows s24, .int s25, .int s26, .int s27] = some [.int (Cb r4 s10 s11)] := by
 rfl
def Mf (r : Rul) (s : Inn) (runs overs : Int) : Inn × Int :=
  cond (r.overs == 0 || (runs == 0 && overs == 0)) (s, 25) (cond (iLt 0 runs && (s.target == 0 || iLe runs s.runs)) (s, 25)
    (cond (iLt 0 overs && (iLt r.overs overs || iLt (IntKind.i64.wrap (overs * r.balls)) (Cb r.balls s.complete s.inover))) (s, 25)
      ({ s with target := cond (iLt 0 runs) runs s.target, overs := cond (iLt 0 overs) overs s.overs }, 0)))
theorem XC {N : Nat} {r1 r2 r3 r4 r5 r6 r7 r9 r10 r11 r12 : Int} {r8 : Bool} {r0 : ByteArray} {r13 : Rows} {s0 s1 s2 s3 s4 s5 s6 s7 s8 s9 s10 s11 s12 s13 s15 s21 s22 s23 s25 s26 s27 : Int} {s18 s20 : Bool} {s14 s16 s17 s19 s24 : Rows} {e0 e1 e2 e3 e5 e6 e7 e8 e9 e10 e11 e13 e14 e15 e16 e18 : Int} {e4 e12 e17 : Bool} (h : Fit s14 s16 s17 s19 s24) : EW N [.str r0, .int r1, .int r2, .int r3, .int r4, .int r5, .int r6, .int r7, .bool r8, .int r9, .int r10, .int r11, .int r12, .rows r13, .int s0, .int s1, .int s2, .int s3, .int s4, .int s5, .int s6, .int s7, .int s8, .int s9, .int s10, .int s11, .int s12, .int s13, .rows s14, .int s15, .rows s16, .rows s17, .bool s18, .rows s19, .bool s20, .int s21, .int s22, .int s23, .rows s24, .int s25, .int s26, .int s27, .int e0, .int e1, .int e2, .int e3, .bool e4, .int e5, .int e6, .int e7, .int e8, .int e9, .int e10, .int e11, .bool e12, .int e13, .int e14, .int e15, .int e16, .bool e17, .int e18] = some (BH (Mf (⟨r0, r1, r2, r3, r4, r5, r6, r7, r8, r9, r10, r11, r12, r13⟩ : Rul) (⟨s0, s1, s2, s3, s4, s5, s6, s7, s8, s9, s10, s11, s12, s13, s14, s15, s16, s17, s18, s19, s20, s21, s22, s23, s24, s25, s26, s27⟩ : Inn) e5 e6)) := by
 show Gn (std (FP N) N) (xOf _) = _
 generalize hres : (some (BH (Mf (⟨r0, r1, r2, r3, r4, r5, r6, r7, r8, r9, r10, r11, r12, r13⟩ : Rul) (⟨s0, s1, s2, s3, s4, s5, s6, s7, s8, s9, s10, s11, s12, s13, s14, s15, s16, s17, s18, s19, s20, s21, s22, s23, s24, s25, s26, s27⟩ : Inn) e5 e6)) : Option (List PV)) = RR
 simp only [Gn, LQ, LY, std, xOf, PXb, PXc, PXn, PXm, Nat.reduceAdd, Int.reduceBEq, Bz h, YZ]
 subst hres; simp only [Mf]
 cases (r3 == 0 || e5 == 0 && e6 == 0) <;> try rfl
 cases (iLt 0 e5 && (s1 == 0 || iLe e5 s3)) <;> try rfl
 cases iLt 0 e6 <;> cases iLt r3 e6 <;> try rfl
 simp only [PXb, PXc, PXn, PXm, Nat.reduceAdd, Int.reduceBEq]
 cases iLt (IntKind.i64.wrap (e6 * r4)) (Cb r4 s10 s11) <;> rfl
end Go.Px
end
section
namespace Go.Px
set_option maxRecDepth 100000
def B4 (r : Rul) (s : Inn) (e : Ev) : Inn × Int :=
  cond (e.kind == 2) (Sv s e.player e.other) (cond (e.kind == 3) (S5 r s e.player) (cond (e.kind == 4) (LN r s e.ball)
    (cond (e.kind == 5) (cond e.yes (Gp s e.player) (Nv s e.player)) (cond (e.kind == 6) (I9 s e.player e.yes) (cond (e.kind == 7) (KP s e.runs)
      (cond (e.kind == 8) (Mi s e.player) (cond (e.kind == 9) (Pb s e.player e.yes) (cond (e.kind == 10) (Kg r s) (cond (e.kind == 11) (KX r s e.side)
        (cond (e.kind == 13) (G7 s e.side e.runs) (cond (e.kind == 14) (Kp r s e.side e.yes) (Mf r s e.runs e.overs))))))))))))
theorem ZM {e : Ev} (h : (evS e == 0) = true) : (iLt e.kind 1 || iLt 16 e.kind) = false := by
 unfold evS at h
 cases hk : (iLt e.kind 1 || iLt 16 e.kind) with
 | false => rfl
 | true => rw [hk] at h; cases h
theorem lQ {e : Ev} (h : (evS e == 0) = true) (hk : e.kind = 14) : e.side = 1 ∨ e.side = 2 := by
 have h0 := ZM h
 unfold evS at h
 rw [h0] at h
 cases h1 : bG e with
 | true => rw [h1] at h; cases h
 | false =>
  cases h2 : Wy e with
  | true => rw [h1, h2] at h; cases h
  | false =>
   unfold Wy at h2
   rw [Bool.or_eq_false_iff] at h2
   have h3 := h2.1
   rw [hk, show uS 14 = true from rfl, Bool.and_true] at h3
   simp only [btw, iLe, Bool.not_eq_false', Bool.and_eq_true, decide_eq_true_eq] at h3
   omega
set_option maxHeartbeats 4000000 in
theorem Vs {N : Nat} {r1 r2 r3 r4 r5 r6 r7 r9 r10 r11 r12 : Int} {r8 : Bool} {r0 : ByteArray} {r13 : Rows} {s0 s1 s2 s3 s4 s5 s6 s7 s8 s9 s10 s11 s12 s13 s15 s21 s22 s23 s25 s26 s27 : Int} {s18 s20 : Bool} {s14 s16 s17 s19 s24 : Rows} {e0 e1 e2 e3 e5 e6 e7 e8 e9 e10 e11 e13 e14 e15 e16 e18 : Int} {e4 e12 e17 : Bool} (h : Fit s14 s16 s17 s19 s24) (hw : s17.length + s16.length ≤ 1000000) (hN : 2097152 < N) (hs : r0.size ≤ 1048576) (h13 : r13.length ≤ 1048576) (he : (evS (⟨e0, e1, e2, e3, e4, e5, e6, ⟨e7, e8, e9, e10, e11, e12, e13, e14, e15, e16, e17, e18⟩⟩ : Ev) == 0) = true) : Dw N [.str r0, .int r1, .int r2, .int r3, .int r4, .int r5, .int r6, .int r7, .bool r8, .int r9, .int r10, .int r11, .int r12, .rows r13, .int s0, .int s1, .int s2, .int s3, .int s4, .int s5, .int s6, .int s7, .int s8, .int s9, .int s10, .int s11, .int s12, .int s13, .rows s14, .int s15, .rows s16, .rows s17, .bool s18, .rows s19, .bool s20, .int s21, .int s22, .int s23, .rows s24, .int s25, .int s26, .int s27, .int e0, .int e1, .int e2, .int e3, .bool e4, .int e5, .int e6, .int e7, .int e8, .int e9, .int e10, .int e11, .bool e12, .int e13, .int e14, .int e15, .int e16, .bool e17, .int e18] = some (BH (B4 (⟨r0, r1, r2, r3, r4, r5, r6, r7, r8, r9, r10, r11, r12, r13⟩ : Rul) (⟨s0, s1, s2, s3, s4, s5, s6, s7, s8, s9, s10, s11, s12, s13, s14, s15, s16, s17, s18, s19, s20, s21, s22, s23, s24, s25, s26, s27⟩ : Inn) (⟨e0, e1, e2, e3, e4, e5, e6, ⟨e7, e8, e9, e10, e11, e12, e13, e14, e15, e16, e17, e18⟩⟩ : Ev))) := by
  show Ds (std (Ab N) N) (xOf _) = _
  generalize hres : (some (BH (B4 (⟨r0, r1, r2, r3, r4, r5, r6, r7, r8, r9, r10, r11, r12, r13⟩ : Rul) (⟨s0, s1, s2, s3, s4, s5, s6, s7, s8, s9, s10, s11, s12, s13, s14, s15, s16, s17, s18, s19, s20, s21, s22, s23, s24, s25, s26, s27⟩ : Inn) (⟨e0, e1, e2, e3, e4, e5, e6, ⟨e7, e8, e9, e10, e11, e12, e13, e14, e15, e16, e17, e18⟩⟩ : Ev))) : Option (List PV)) = RR
  have hsd : e0 = 14 → e1 = 1 ∨ e1 = 2 := lQ (e := (⟨e0, e1, e2, e3, e4, e5, e6, ⟨e7, e8, e9, e10, e11, e12, e13, e14, e15, e16, e17, e18⟩⟩ : Ev)) he
  rcases ZK (ZM he) with hk | hk | hk | hk | hk | hk | hk | hk | hk | hk | hk | hk | hk | hk | hk | hk <;> simp only at hk <;> subst hk <;> clear he
  all_goals (first
    | (have hsd := hsd rfl
       simp only [Ds, Fn, GO, Fc, EK, Fg, Eo, Ep, FU, D2, Er, EE, ED, ER, Eb, std, xOf, PXb, PXc, PXn, PXm, Nat.reduceAdd, Int.reduceBEq, We h hsd]
       subst hres
       rfl)
    | (simp only [Ds, Fn, GO, Fc, EK, Fg, Eo, Ep, FU, D2, Er, EE, ED, ER, Eb, std, xOf, PXb, PXc, PXn, PXm, Nat.reduceAdd, Int.reduceBEq, aS h hN, cG h hN hs, Yo h hw hN hs h13, Wf h hN, Y5 h hN, YQ h hN, X7 h, Yw h, Uy h, Xh h hN hs, Ve h, Vu h, XC h]
       subst hres
       first
       | rfl
       | (cases e4 <;> rfl)))
end Go.Px
end
section
namespace Go.Px
set_option maxRecDepth 100000
theorem Lens.of {s t : Inn} (h1 : t.batters.length = s.batters.length) (h2 : t.bowled.length = s.bowled.length) (h3 : t.subs.length = s.subs.length) (h4 : t.bowlers = s.bowlers) (h5 : t.before = s.before) : Lens s t := ⟨h1, h2, h3, by rw [h4]; omega, by rw [h5]; omega⟩
theorem L_c {s : Inn} (b : Bool) (x y : Inn × Int) (hx : Lens s x.1) (hy : Lens s y.1) : Lens s (cond b x y).1 := by cases b <;> assumption
theorem gh (s : Inn) (p q : Int) : Lens s (Sv s p q).1 := by
 unfold Sv
 exact L_c _ _ _ (Lens.refl s) (L_c _ _ _ (Lens.refl s) (L_c _ _ _ (Lens.refl s) (Lens.of (by simp [KM]) rfl rfl rfl rfl)))
theorem iu (r : Rul) (s : Inn) (p : Int) : Lens s (S5 r s p).1 := by
 unfold S5
 exact P_c (P := fun x : Inn => Lens s x) _ _ _ (Lens.of rfl rfl rfl rfl rfl) (Lens.refl s)
theorem gw (r : Rul) (s : Inn) (d : Del) : Lens s (LN r s d).1 := by
 unfold LN
 refine L_c _ _ _ (Lens.refl s) ?_
 have l1 := bO s d
 have w1 := iT s d
 have w2 := iG s d
 simp only [dY]
 have l2 := Zt r (Ad s d) (AB r d).counts
 cases (Ai r (Ad s d) (AB r d).counts).2
 ·exact ⟨l2.bt.trans l1.bt, l2.bd.trans l1.bd, l2.sb.trans l1.sb, by have := l2.bw; rw [w1] at this; exact this, by have := l2.bf; rw [w1, w2] at this; exact this⟩
 ·exact ⟨l2.bt.trans l1.bt, l2.bd.trans l1.bd, l2.sb.trans l1.sb, by have := l2.bw; rw [w1] at this; exact this, by have := l2.bf; rw [w1, w2] at this; exact this⟩
theorem bv (s : Inn) (p : Int) : Lens s (Gp s p).1 := by
 unfold Gp
 exact L_c _ _ _ (Lens.of (by simp [KM]) rfl rfl rfl rfl) (Lens.refl s)
theorem f6 (s : Inn) (p : Int) : Lens s (Nv s p).1 := by
 unfold Nv
 exact L_c _ _ _ (Lens.of (by simp [KM]) rfl rfl rfl rfl) (Lens.refl s)
theorem eI (s : Inn) (p : Int) (b : Bool) : Lens s (I9 s p b).1 := by
 unfold I9
 exact L_c _ _ _ (Lens.refl s) (L_c _ _ _ (Lens.refl s) (L_c _ _ _ (Lens.refl s) (L_c _ _ _ (Lens.refl s) (Lens.of (by simp [KM]) rfl rfl rfl rfl))))
theorem cT (s : Inn) (n : Int) : Lens s (KP s n).1 := by
 unfold KP
 exact L_c _ _ _ (Lens.refl s) (Lens.of rfl rfl rfl rfl rfl)
theorem eJ (s : Inn) (n : Int) : Lens s (Mi s n).1 := by
 unfold Mi
 exact L_c _ _ _ (Lens.refl s) (L_c _ _ _ (Lens.refl s) (L_c _ _ _ (Lens.refl s) (Lens.of rfl rfl rfl rfl rfl)))
theorem f8 (s : Inn) (n : Int) (b : Bool) : Lens s (Pb s n b).1 := by
 unfold Pb
 exact L_c _ _ _ (Lens.refl s) (L_c _ _ _ (Lens.refl s) (Lens.of rfl rfl (by simp [jJ]) rfl rfl))
theorem ck (r : Rul) (s : Inn) : Lens s (Kg r s).1 := by
 unfold Kg
 exact L_c _ _ _ (Lens.refl s) (Lens.of rfl rfl rfl rfl rfl)
theorem cf (r : Rul) (s : Inn) (n : Int) : Lens s (KX r s n).1 := by
 unfold KX
 exact L_c _ _ _ (Lens.refl s) (L_c _ _ _ (Lens.refl s) (Lens.of rfl rfl rfl rfl rfl))
theorem cd (s : Inn) (n m : Int) : Lens s (G7 s n m).1 := by
 unfold G7
 exact L_c _ _ _ (Lens.refl s) (L_c _ _ _ (Lens.of rfl rfl rfl rfl rfl) (Lens.of rfl rfl rfl rfl rfl))
theorem eG (r : Rul) (s : Inn) (n : Int) (b : Bool) : Lens s (Kp r s n b).1 := by
 unfold Kp
 exact L_c _ _ _ (Lens.refl s) (L_c _ _ _ (Lens.of rfl rfl rfl rfl rfl) (Lens.refl s))
theorem eK (r : Rul) (s : Inn) (n m : Int) : Lens s (Mf r s n m).1 := by
 unfold Mf
 exact L_c _ _ _ (Lens.refl s) (L_c _ _ _ (Lens.refl s) (L_c _ _ _ (Lens.refl s) (Lens.of rfl rfl rfl rfl rfl)))
theorem Uw (r : Rul) (s : Inn) (e : Ev) : Lens s (B4 r s e).1 := by
  unfold B4
  exact L_c _ _ _ (gh ..) (L_c _ _ _ (iu ..) (L_c _ _ _ (gw ..) (L_c _ _ _ (L_c _ _ _ (bv ..) (f6 ..)) (L_c _ _ _ (eI ..) (L_c _ _ _ (cT ..)
    (L_c _ _ _ (eJ ..) (L_c _ _ _ (f8 ..) (L_c _ _ _ (ck ..) (L_c _ _ _ (cf ..) (L_c _ _ _ (cd ..) (L_c _ _ _ (eG ..) (eK ..))))))))))))
def GE (r : Rul) (s : Inn) : Bool := R4 r.name r.side r.innings r.overs r.balls r.quota r.wide r.noball r.newball r.followon r.reviews r.outside r.power s.batters s.bowlers s.before s.bowled s.subs s.side s.target s.overs s.runs s.wickets s.wides s.noballs s.byes s.legbyes s.pens s.complete s.inover s.striker s.other s.bowler s.ballage s.keeper s.outside s.rev1 s.rev2 s.ending
def mU (r : Rul) (s : Inn) : Int := jq (GE r s) s.batters s.striker s.other s.target s.overs s.runs s.complete
theorem Qr {N : Nat} {r1 r2 r3 r4 r5 r6 r7 r9 r10 r11 r12 : Int} {r8 : Bool} {r0 : ByteArray} {r13 : Rows} {s0 s1 s2 s3 s4 s5 s6 s7 s8 s9 s10 s11 s12 s13 s15 s21 s22 s23 s25 s26 s27 : Int} {s18 s20 : Bool} {s14 s16 s17 s19 s24 : Rows} (h : Fit s14 s16 s17 s19 s24) (hN : 2097152 < N) (hs : r0.size ≤ 1048576) : BJ N [.str r0, .int r1, .int r2, .int r3, .int r4, .int r5, .int r6, .int r7, .bool r8, .int r9, .int r10, .int r11, .int r12, .rows r13, .int s0, .int s1, .int s2, .int s3, .int s4, .int s5, .int s6, .int s7, .int s8, .int s9, .int s10, .int s11, .int s12, .int s13, .rows s14, .int s15, .rows s16, .rows s17, .bool s18, .rows s19, .bool s20, .int s21, .int s22, .int s23, .rows s24, .int s25, .int s26, .int s27] = some [.bool (GE (⟨r0, r1, r2, r3, r4, r5, r6, r7, r8, r9, r10, r11, r12, r13⟩ : Rul) (⟨s0, s1, s2, s3, s4, s5, s6, s7, s8, s9, s10, s11, s12, s13, s14, s15, s16, s17, s18, s19, s20, s21, s22, s23, s24, s25, s26, s27⟩ : Inn))] := by
 exact Ps N _ _ _ _ _ _ _ _ _ _ _ _ _ _ _ _ _ _ _ _ _ _ _ _ _ _ _ _ _ _ _ _ _ _ _ _ _ _ _ _ _ _ hN hs h.bt h.bw h.bf h.bd
theorem Wg {N : Nat} {r1 r2 r3 r4 r5 r6 r7 r9 r10 r11 r12 : Int} {r8 : Bool} {r0 : ByteArray} {r13 : Rows} {s0 s1 s2 s3 s4 s5 s6 s7 s8 s9 s10 s11 s12 s13 s15 s21 s22 s23 s25 s26 s27 : Int} {s18 s20 : Bool} {s14 s16 s17 s19 s24 : Rows} (h : Fit s14 s16 s17 s19 s24) (hN : 2097152 < N) (hs : r0.size ≤ 1048576) : DB N [.str r0, .int r1, .int r2, .int r3, .int r4, .int r5, .int r6, .int r7, .bool r8, .int r9, .int r10, .int r11, .int r12, .rows r13, .int s0, .int s1, .int s2, .int s3, .int s4, .int s5, .int s6, .int s7, .int s8, .int s9, .int s10, .int s11, .int s12, .int s13, .rows s14, .int s15, .rows s16, .rows s17, .bool s18, .rows s19, .bool s20, .int s21, .int s22, .int s23, .rows s24, .int s25, .int s26, .int s27] = some [.int (mU (⟨r0, r1, r2, r3, r4, r5, r6, r7, r8, r9, r10, r11, r12, r13⟩ : Rul) (⟨s0, s1, s2, s3, s4, s5, s6, s7, s8, s9, s10, s11, s12, s13, s14, s15, s16, s17, s18, s19, s20, s21, s22, s23, s24, s25, s26, s27⟩ : Inn))] := by
 exact Vc N _ _ _ _ _ _ _ _ _ _ _ _ _ _ _ _ _ _ _ _ _ _ _ _ _ _ _ _ _ _ _ _ _ _ _ _ _ _ _ _ _ _ hN hs h.bt h.bw h.bf h.bd
def da (t : Inn) (b : Bool) : Inn := ⟨t.side, t.target, t.overs, t.runs, t.wickets, t.wides, t.noballs, t.byes, t.legbyes, t.pens, t.complete, t.inover, t.striker, t.other, t.batters, t.bowler, t.bowlers, t.before, b, t.bowled, t.freehit, t.ballage, t.keeper, t.outside, t.subs, t.rev1, t.rev2, t.ending⟩
def Bh (r : Rul) (t : Inn) (b : Bool) : Inn := { da t b with ending := cond (t.ending == 0) (mU r (da t b)) t.ending }
def VK (s : Inn) (e : Ev) : Bool := e.kind == 1 || e.kind == 12 || e.kind == 16 || (!Cf s.batters && !(e.kind == 2))
def Al (r : Rul) (s : Inn) (e : Ev) : Inn × Int :=
  cond (!GE r s || !(evS e == 0)) (s, 1) (cond (!(s.ending == 0)) (s, 26) (cond (VK s e) (s, 1)
    (cond (!((B4 r s e).2 == 0)) (s, (B4 r s e).2) (Bh r (B4 r s e).1 (e.kind == 4), 0))))
set_option maxHeartbeats 4000000 in
theorem MZ {N : Nat} {r1 r2 r3 r4 r5 r6 r7 r9 r10 r11 r12 : Int} {r8 : Bool} {r0 : ByteArray} {r13 : Rows} {s0 s1 s2 s3 s4 s5 s6 s7 s8 s9 s10 s11 s12 s13 s15 s21 s22 s23 s25 s26 s27 : Int} {s18 s20 : Bool} {s14 s16 s17 s19 s24 : Rows} {e0 e1 e2 e3 e5 e6 e7 e8 e9 e10 e11 e13 e14 e15 e16 e18 : Int} {e4 e12 e17 : Bool} (h : Fit s14 s16 s17 s19 s24) (hw : s17.length + s16.length ≤ 1000000) (hN : 2097152 < N) (hs : r0.size ≤ 1048576) (h13 : r13.length ≤ 1048576) : GX N [.str r0, .int r1, .int r2, .int r3, .int r4, .int r5, .int r6, .int r7, .bool r8, .int r9, .int r10, .int r11, .int r12, .rows r13, .int s0, .int s1, .int s2, .int s3, .int s4, .int s5, .int s6, .int s7, .int s8, .int s9, .int s10, .int s11, .int s12, .int s13, .rows s14, .int s15, .rows s16, .rows s17, .bool s18, .rows s19, .bool s20, .int s21, .int s22, .int s23, .rows s24, .int s25, .int s26, .int s27, .int e0, .int e1, .int e2, .int e3, .bool e4, .int e5, .int e6, .int e7, .int e8, .int e9, .int e10, .int e11, .bool e12, .int e13, .int e14, .int e15, .int e16, .bool e17, .int e18] = some (BH (Al (⟨r0, r1, r2, r3, r4, r5, r6, r7, r8, r9, r10, r11, r12, r13⟩ : Rul) (⟨s0, s1, s2, s3, s4, s5, s6, s7, s8, s9, s10, s11, s12, s13, s14, s15, s16, s17, s18, s19, s20, s21, s22, s23, s24, s25, s26, s27⟩ : Inn) (⟨e0, e1, e2, e3, e4, e5, e6, ⟨e7, e8, e9, e10, e11, e12, e13, e14, e15, e16, e17, e18⟩⟩ : Ev))) := by
 show Is (std (B8 N) N) (xOf _) = _
 generalize hres : (some (BH (Al (⟨r0, r1, r2, r3, r4, r5, r6, r7, r8, r9, r10, r11, r12, r13⟩ : Rul) (⟨s0, s1, s2, s3, s4, s5, s6, s7, s8, s9, s10, s11, s12, s13, s14, s15, s16, s17, s18, s19, s20, s21, s22, s23, s24, s25, s26, s27⟩ : Inn) (⟨e0, e1, e2, e3, e4, e5, e6, ⟨e7, e8, e9, e10, e11, e12, e13, e14, e15, e16, e17, e18⟩⟩ : Ev))) : Option (List PV)) = RR
 have l1 := Uw (⟨r0, r1, r2, r3, r4, r5, r6, r7, r8, r9, r10, r11, r12, r13⟩ : Rul) (⟨s0, s1, s2, s3, s4, s5, s6, s7, s8, s9, s10, s11, s12, s13, s14, s15, s16, s17, s18, s19, s20, s21, s22, s23, s24, s25, s26, s27⟩ : Inn) (⟨e0, e1, e2, e3, e4, e5, e6, ⟨e7, e8, e9, e10, e11, e12, e13, e14, e15, e16, e17, e18⟩⟩ : Ev)
 have f1 := Pz l1 h (by simp only; omega)
 simp only [Is, OQ, Mn, Mo, Mk, FC, Fp, std, xOf, PXb, Qr h hN hs, TY hN, Bz h, Xf h.bt hN]
 subst hres; simp only [Al, VK]
 cases GE (⟨r0, r1, r2, r3, r4, r5, r6, r7, r8, r9, r10, r11, r12, r13⟩ : Rul) (⟨s0, s1, s2, s3, s4, s5, s6, s7, s8, s9, s10, s11, s12, s13, s14, s15, s16, s17, s18, s19, s20, s21, s22, s23, s24, s25, s26, s27⟩ : Inn)
 ·rfl
 cases he : evS (⟨e0, e1, e2, e3, e4, e5, e6, ⟨e7, e8, e9, e10, e11, e12, e13, e14, e15, e16, e17, e18⟩⟩ : Ev) == 0
 ·simp only [PXb, PXc, PXn, PXm, Nat.reduceAdd, Int.reduceBEq, he]
 simp only [PXb, PXc, PXn, PXm, Nat.reduceAdd, Int.reduceBEq, he]
 cases s27 == 0 <;> try rfl
 cases (e0 == 1 || e0 == 12 || e0 == 16) <;> cases Cf s14 <;> cases e0 == 2 <;> try rfl
 all_goals (simp only [PXb, PXc, PXn, PXm, Nat.reduceAdd, Int.reduceBEq, FC, Fp, Vs h hw hN hs h13 he, Wg f1 hN hs])
 all_goals (unfold Bh da; cases (B4 (⟨r0, r1, r2, r3, r4, r5, r6, r7, r8, r9, r10, r11, r12, r13⟩ : Rul) (⟨s0, s1, s2, s3, s4, s5, s6, s7, s8, s9, s10, s11, s12, s13, s14, s15, s16, s17, s18, s19, s20, s21, s22, s23, s24, s25, s26, s27⟩ : Inn) (⟨e0, e1, e2, e3, e4, e5, e6, ⟨e7, e8, e9, e10, e11, e12, e13, e14, e15, e16, e17, e18⟩⟩ : Ev)).2 == 0 <;> cases (B4 (⟨r0, r1, r2, r3, r4, r5, r6, r7, r8, r9, r10, r11, r12, r13⟩ : Rul) (⟨s0, s1, s2, s3, s4, s5, s6, s7, s8, s9, s10, s11, s12, s13, s14, s15, s16, s17, s18, s19, s20, s21, s22, s23, s24, s25, s26, s27⟩ : Inn) (⟨e0, e1, e2, e3, e4, e5, e6, ⟨e7, e8, e9, e10, e11, e12, e13, e14, e15, e16, e17, e18⟩⟩ : Ev)).1.ending == 0 <;> rfl)
end Go.Px
end
section
namespace Go.Px
set_option maxRecDepth 100000
def eqL (L M : Rows) : Bool := ((L.length : Int) == (M.length : Int)) && !BR (fun i => !(atI L i 0 == atI M i 0)) L.length 0
theorem lJ {i len : Nat} {m : Nat} (h : ((len : Int) == (m : Int)) = true) (hi : i < len) : iIn (i : Int) (m : Int) = true := by
 have := beq_iff_eq.1 h
 exact AX (by omega)
theorem mM (L : Rows) (c : Nat) : (cut L c).length ≤ c := by
 unfold cut
 rw [List.length_drop, List.length_take]
 cases h : iLt (c : Int) (L.length : Int) with
 | true => simp only [cond_true]; omega
 | false => simp only [iLt, decide_eq_false_iff_not] at h; simp only [cond_false]; omega
theorem eT {s t : Inn} (r : Rul) (b : Bool) (h : Lens s t) : Lens s (Bh r t b) := ⟨h.bt, h.bd, h.sb, h.bw, h.bf⟩
theorem Qp (r : Rul) (s : Inn) (e : Ev) : Lens s (Al r s e).1 := by
 unfold Al
 exact L_c _ _ _ (Lens.refl s) (L_c _ _ _ (Lens.refl s) (L_c _ _ _ (Lens.refl s) (L_c _ _ _ (Lens.refl s) (eT r _ (Uw r s e)))))
end Go.Px
end
section
namespace Go.Px
set_option maxRecDepth 100000
theorem ZS {r : Rul} {s : Inn} {e : Ev} (h : ((Al r s e).2 == 0) = true) :
    GE r s = true ∧ (evS e == 0) = true ∧ (s.ending == 0) = true ∧ VK s e = false ∧ ((B4 r s e).2 == 0) = true ∧ (Al r s e).1 = Bh r (B4 r s e).1 (e.kind == 4) := by
  unfold Al at h ⊢
  cases hv : GE r s with
  | false => rw [hv] at h; cases h
  | true =>
    cases he : evS e == 0 with
    | false => rw [hv, he] at h; cases h
    | true =>
      cases hn : s.ending == 0 with
      | false => rw [hv, he, hn] at h; cases h
      | true =>
        cases hw : VK s e with
        | true => rw [hv, he, hn, hw] at h; cases h
        | false =>
          cases hp : (B4 r s e).2 == 0 with
          | false => rw [hv, he, hn, hw, hp] at h; exact absurd (hp ▸ h) (by decide)
          | true => exact ⟨rfl, rfl, rfl, rfl, rfl, rfl⟩
end Go.Px
end
section
namespace Go.Px
set_option maxRecDepth 100000
theorem Rw {x a b : Int} : btw x a b = true ↔ a ≤ x ∧ x ≤ b := by simp [btw, iLe]
structure RulOk (r : Rul) : Prop where
 side : 2 ≤ r.side ∧ r.side ≤ 11
 innings : 1 ≤ r.innings ∧ r.innings ≤ 2
 overs : 0 ≤ r.overs ∧ r.overs ≤ 90
 balls : 4 ≤ r.balls ∧ r.balls ≤ 8
 quota : 0 ≤ r.quota ∧ r.quota ≤ 90
 wide : 1 ≤ r.wide ∧ r.wide ≤ 5
 noball : 1 ≤ r.noball ∧ r.noball ≤ 5
 newball : 0 ≤ r.newball ∧ r.newball ≤ 200
 followon : 0 ≤ r.followon ∧ r.followon ≤ 1000
 reviews : 0 ≤ r.reviews ∧ r.reviews ≤ 9
 outside : 0 ≤ r.outside ∧ r.outside ≤ 11
theorem Ez {r : Rul} (h : BD r = 0) : RulOk r := by
 unfold BD Ks at h
 cases hn : Uq r.name with
 | false => rw [hn] at h; cases h
 | true =>
  cases hr : M1 r.side r.innings r.overs r.balls r.quota r.wide r.noball r.newball r.followon r.reviews r.outside with
  | false => rw [hn, hr] at h; cases h
  | true =>
   unfold M1 at hr
   simp only [Bool.and_eq_true, Rw] at hr
   obtain ⟨⟨⟨⟨⟨⟨⟨⟨⟨⟨h1, h2⟩, h3⟩, h4⟩, h5⟩, h6⟩, h7⟩, h8⟩, h9⟩, h10⟩, h11⟩ := hr
   exact ⟨h1, h2, h3, h4, h5, h6, h7, h8, h9, h10, h11⟩
def Bj (x : Int) : Prop := 0 ≤ x ∧ x ≤ 1000000000
structure InnOk (r : Rul) (s : Inn) : Prop where
 code : BD r = 0
 side : 1 ≤ s.side ∧ s.side ≤ 2
 lb : (s.batters.length : Int) = r.side
 ld : (s.bowled.length : Int) = r.side
 lz : (s.subs.length : Int) = r.side
 ending : s.ending ≤ 5
 st : 0 ≤ s.striker ∧ s.striker ≤ r.side
 ot : 0 ≤ s.other ∧ s.other ≤ r.side
 bat : VR s.batters s.striker s.other s.wickets = true
 bow : 0 ≤ s.bowler ∧ s.bowler ≤ r.side
 kee : 0 ≤ s.keeper ∧ s.keeper ≤ r.side
 dw : Jq s.bowlers r.side = true
 df : Jq s.before r.side = true
 ov : Yr r.overs s.overs = true
 io : 0 ≤ s.inover ∧ s.inover ≤ r.balls - 1
 target : Bj s.target
 runs : Bj s.runs
 wides : Bj s.wides
 noballs : Bj s.noballs
 byes : Bj s.byes
 legbyes : Bj s.legbyes
 pens : Bj s.pens
 complete : Bj s.complete
 ballage : Bj s.ballage
 outside : Bj s.outside
 rev1 : Bj s.rev1
 rev2 : Bj s.rev2
 bowled : JO IZ s.bowled = false
theorem kz {x : Int} : IZ x = false ↔ Bj x := by
 unfold IZ Bj
 rw [Bool.not_eq_false', Rw]
theorem jx (a b c d e f g h i j k l : Int) : JO IZ (ay a b c d e f g h i j k l) = false ↔ Bj a ∧ Bj b ∧ Bj c ∧ Bj d ∧ Bj e ∧ Bj f ∧ Bj g ∧ Bj h ∧ Bj i ∧ Bj j ∧ Bj k ∧ Bj l := by
 rw [Mp]
 simp only [ay, List.any_cons, List.any_nil, Bool.or_false, Zl, kV, Bool.or_eq_false_iff, kz]
theorem X8 {r : Rul} (h : RulOk r) : IntKind.i64.wrap (r.balls - 1) = r.balls - 1 := by
 have := h.balls
 exact C2 (by omega) (by omega)
theorem ei {x : Int} : (!iLt 5 x) = true ↔ x ≤ 5 := by
 rw [Bool.not_eq_true']
 simp only [iLt, decide_eq_false_iff_not]
 omega
theorem NV {r : Rul} {s : Inn} : GE r s = true ↔ InnOk r s := by
 unfold GE R4
 simp only [Bool.and_eq_true, Bool.not_eq_true', jx, Rw]
 constructor
 ·intro ⟨h1, h2, h3, h4, h5, h6, h7, h8, h9, h10, h11, h12, h13, h14, h15, ⟨n1, n2, n3, n4, n5, n6, n7, n8, n9, n10, n11, n12⟩, h17⟩
  have hc : BD r = 0 := beq_iff_eq.1 h1
  exact ⟨hc, h2, beq_iff_eq.1 h3, beq_iff_eq.1 h4, beq_iff_eq.1 h5, ei.1 (by rw [h6]; rfl), h7, h8, h9, h10, h11, h12, h13, h14, by rw [X8 (Ez hc)] at h15; exact h15, n1, n2, n3, n4, n5, n6, n7, n8, n9, n10, n11, n12, h17⟩
 ·intro h
  have h6 := ei.2 h.ending
  rw [Bool.not_eq_true'] at h6
  exact ⟨beq_iff_eq.2 h.code, h.side, beq_iff_eq.2 h.lb, beq_iff_eq.2 h.ld, beq_iff_eq.2 h.lz, h6, h.st, h.ot, h.bat, h.bow, h.kee, h.dw, h.df, h.ov, by rw [X8 (Ez h.code)]; exact h.io,
   ⟨h.target, h.runs, h.wides, h.noballs, h.byes, h.legbyes, h.pens, h.complete, h.ballage, h.outside, h.rev1, h.rev2⟩, h.bowled⟩
theorem Kw (n : Int) : IntKind.i64.wrap n = (n + 9223372036854775808) % 18446744073709551616 - 9223372036854775808 := by
 unfold IntKind.wrap
 simp only [IntKind.signed, IntKind.bits]
 simp
 split <;> omega
theorem Fd (n : Int) : IntKind.i64.wrap (IntKind.i64.wrap n) = IntKind.i64.wrap n := by
 simp only [Kw]; omega
theorem Kv (a b : Int) : IntKind.i64.wrap (IntKind.i64.wrap (a + b) - a) = IntKind.i64.wrap b := by
 simp only [Kw]; omega
theorem TQ (a : Int) : IntKind.i64.wrap (a - a) = 0 := by rw [Int.sub_self]; rfl
theorem XB (s : Inn) (d : Del) : (Ad s d).runs = s.runs ∧ (Ad s d).wides = s.wides ∧ (Ad s d).noballs = s.noballs ∧ (Ad s d).byes = s.byes ∧ (Ad s d).legbyes = s.legbyes ∧ (Ad s d).pens = s.pens ∧ (Ad s d).complete = s.complete ∧ (Ad s d).inover = s.inover ∧ (Ad s d).bowler = s.bowler ∧ (Ad s d).bowled = s.bowled := by
  unfold Ad
  cases (!(d.runs.tmod 2 == 0) != d.crossed) <;> exact P_c (P := fun x : Inn => x.runs = s.runs ∧ x.wides = s.wides ∧ x.noballs = s.noballs ∧ x.byes = s.byes ∧ x.legbyes = s.legbyes ∧ x.pens = s.pens ∧ x.complete = s.complete ∧ x.inover = s.inover ∧ x.bowler = s.bowler ∧ x.bowled = s.bowled) _ _ _ ⟨rfl, rfl, rfl, rfl, rfl, rfl, rfl, rfl, rfl, rfl⟩
    (P_c (P := fun x : Inn => x.runs = s.runs ∧ x.wides = s.wides ∧ x.noballs = s.noballs ∧ x.byes = s.byes ∧ x.legbyes = s.legbyes ∧ x.pens = s.pens ∧ x.complete = s.complete ∧ x.inover = s.inover ∧ x.bowler = s.bowler ∧ x.bowled = s.bowled) _ _ _ ⟨rfl, rfl, rfl, rfl, rfl, rfl, rfl, rfl, rfl, rfl⟩ ⟨rfl, rfl, rfl, rfl, rfl, rfl, rfl, rfl, rfl, rfl⟩)
def Hk (r : Rul) (s : Inn) (d : Del) : Inn :=
 let o := Ai r (Ad s d) (AB r d).counts
 let t : Inn := cond o.2 (Hb o.1) o.1
 { t with runs := IntKind.i64.wrap (s.runs + C6 (AB r d)), wides := IntKind.i64.wrap (s.wides + (AB r d).wides), noballs := IntKind.i64.wrap (s.noballs + (AB r d).noballs), byes := IntKind.i64.wrap (s.byes + (AB r d).byes), legbyes := IntKind.i64.wrap (s.legbyes + (AB r d).legbyes), freehit := cond (d.type == 1) false (cond (d.type == 3 && r.freehit) true o.1.freehit) }
theorem ee {r : Rul} {s : Inn} {d : Del} (h : ((LN r s d).2 == 0) = true) : (HZ r s d == 0) = true ∧ (LN r s d).1 = Hk r s d := by
 unfold LN at h ⊢
 cases hr : HZ r s d == 0 with
 | false => rw [hr] at h; exact absurd (hr ▸ h) (by decide)
 | true =>
  refine ⟨rfl, ?_⟩
  obtain ⟨k1, k2, k3, k4, k5, _⟩ := XB s d
  simp only [Bool.not_true, cond_false, dY, k1, k2, k3, k4, k5, Hk]
  generalize Ai r (Ad s d) (AB r d).counts = o
  obtain ⟨o1, o2⟩ := o
  cases o2 <;> rfl
theorem Zh {r : Rul} {s : Inn} {d : Del} (h : (HZ r s d == 0) = true) : F6 s.batters s.striker s.other = false ∧ (s.bowler == 0) = false ∧ (P2 r s == 0) = true ∧ (Fi d == 0) = true ∧ (O5 d s.freehit == 0) = true ∧ (Py s d == 0) = true := by
 unfold HZ at h
 cases h1 : F6 s.batters s.striker s.other with
 | true => rw [h1] at h; cases h
 | false =>
  cases h2 : s.bowler == 0 with
  | true => rw [h1, h2] at h; cases h
  | false =>
   rw [h1, h2] at h
   change (YC _ _ _ _ == 0) = true at h
   unfold YC at h
   cases h3 : P2 r s == 0 with
   | false => rw [h3] at h; exact absurd (h3 ▸ h) (by decide)
   | true =>
    cases h4 : Fi d == 0 with
    | false => rw [h3, h4] at h; exact absurd (h4 ▸ h) (by decide)
    | true =>
     cases h5 : O5 d s.freehit == 0 with
     | false => rw [h3, h4, h5] at h; exact absurd (h5 ▸ h) (by decide)
     | true =>
      cases h6 : Py s d == 0 with
      | false => rw [h3, h4, h5, h6] at h; exact absurd (h6 ▸ h) (by decide)
      | true => exact ⟨rfl, rfl, rfl, rfl, rfl, rfl⟩
theorem WS {d : Del} {f : Bool} (h : (O5 d f == 0) = true) (hd : (d.how == 0) = false) : (d.victim == 1) = true ∨ (d.victim == 2) = true := by
 unfold O5 at h
 rw [hd] at h
 cases h1 : d.victim == 1 with
 | true => exact .inl rfl
 | false =>
  cases h2 : d.victim == 2 with
  | true => exact .inr rfl
  | false =>
   rw [h1, h2] at h
   exfalso
   revert h
   cases (!onS d.how d.type || f && !aX d.how) <;> cases (!Ml d.how && (!(d.source == 0) || !(d.runs == 0))) <;> intro h <;> cases h
theorem bP {s : Inn} {e : Ev} (h : VK s e = false) (hk : (e.kind == 2) = false) : Cf s.batters = true := by
 unfold VK at h
 rw [hk] at h
 cases hb : Cf s.batters with
 | true => rfl
 | false => rw [hb] at h; simp at h
theorem ez {s : Inn} {d : Del} (h1 : (s.striker == 0) = false) (h2 : (s.other == 0) = false) (hv : (d.how == 0) = false → (d.victim == 1) = true ∨ (d.victim == 2) = true) :
    (Ad s d).wickets = cond (d.how == 0) s.wickets (inc s.wickets) := by
  unfold Ad
  rw [h1, h2]
  cases hd : d.how == 0 with
  | true => cases (!(d.runs.tmod 2 == 0) != d.crossed) <;> rfl
  | false =>
    rcases hv hd with h | h <;> rw [h] <;> cases (!(d.runs.tmod 2 == 0) != d.crossed) <;> cases d.victim == 1 <;> rfl
theorem eZ (r : Rul) (s : Inn) (b : Bool) : (Ai r s b).1.wickets = s.wickets ∧ (Ai r s b).1.pens = s.pens := by
 unfold Ai
 exact P_c (P := fun x : Inn × Bool => x.1.wickets = s.wickets ∧ x.1.pens = s.pens) _ _ _ ⟨rfl, rfl⟩ (P_c (P := fun x : Inn × Bool => x.1.wickets = s.wickets ∧ x.1.pens = s.pens) _ _ _ ⟨rfl, rfl⟩ ⟨rfl, rfl⟩)
theorem gP {r : Rul} {s : Inn} {b : Bool} (hr : RulOk r) (hc : BD r = 0) (hb : inR s.bowler s.bowled.length = true) (hi : 0 ≤ s.inover ∧ s.inover ≤ r.balls - 1) (hn : Bj s.complete) :
    IntKind.i64.wrap (Cb r.balls (Ai r s b).1.complete (Ai r s b).1.inover - Cb r.balls s.complete s.inover) = cond b 1 0 := by
  have hk : ∃ k : Nat, r.balls = k := ⟨r.balls.toNat, by have := hr.balls; omega⟩
  have hz := hr.balls
  unfold Bj at hn
  unfold Ai Cb
  rw [hb, hc]
  cases b with
  | false =>
    have h1 : iLt s.inover r.balls = true := by simp only [iLt, decide_eq_true_eq]; omega
    simp only [cond_false, h1, beq_self_eq_true, Bool.not_true, Bool.or_false, cond_true]
    exact TQ _
  | true =>
    have h2 : inc s.inover = s.inover + 1 := C2 (by omega) (by omega)
    simp only [cond_true, h2, beq_self_eq_true, Bool.not_true, Bool.or_false, cond_false]
    have h3 : inc s.complete = s.complete + 1 := C2 (by omega) (by omega)
    have hb5 : r.balls = 4 ∨ r.balls = 5 ∨ r.balls = 6 ∨ r.balls = 7 ∨ r.balls = 8 := by omega
    cases h1 : iLt (s.inover + 1) r.balls with
    | true =>
      simp only [cond_true]
      rcases hb5 with e | e | e | e | e <;> rw [e] at hi ⊢ <;> simp only [Kw] <;> omega
    | false =>
      simp only [iLt, decide_eq_false_iff_not] at h1
      simp only [cond_false, h3]
      rcases hb5 with e | e | e | e | e <;> rw [e] at hi h1 ⊢ <;> simp only [Kw] <;> omega
end Go.Px
end
section
namespace Go.Px
set_option maxRecDepth 100000
theorem cc {L : Rows} {s n : Int} (h : F6 L s n = false) (hb : Cf L = true) : (s == 0) = false ∧ (n == 0) = false := by
 unfold F6 at h
 rw [hb, Bool.true_and, Bool.or_eq_false_iff] at h
 exact h
theorem gp {r : Rul} {s : Inn} (h : InnOk r s) (hb : (s.bowler == 0) = false) : inR s.bowler s.bowled.length = true := by
 have h1 := h.bow
 have h2 := h.ld
 rw [beq_eq_false_iff_ne] at hb
 simp only [inR, iLe, Bool.and_eq_true, decide_eq_true_eq]
 omega
theorem iL {r : Rul} {s : Inn} {e : Ev} (hk : (e.kind == 4) = true) (h : ((Al r s e).2 == 0) = true) :
    IntKind.i64.wrap ((Al r s e).1.runs - s.runs) = C6 (AB r e.ball) ∧ IntKind.i64.wrap ((Al r s e).1.wides - s.wides) = (AB r e.ball).wides ∧ IntKind.i64.wrap ((Al r s e).1.noballs - s.noballs) = (AB r e.ball).noballs ∧
    IntKind.i64.wrap ((Al r s e).1.byes - s.byes) = (AB r e.ball).byes ∧ IntKind.i64.wrap ((Al r s e).1.legbyes - s.legbyes) = (AB r e.ball).legbyes ∧ (Al r s e).1.pens = s.pens ∧
    IntKind.i64.wrap (Cb r.balls (Al r s e).1.complete (Al r s e).1.inover - Cb r.balls s.complete s.inover) = cond (AB r e.ball).counts 1 0 ∧
    IntKind.i64.wrap ((Al r s e).1.wickets - s.wickets) = cond (e.ball.how == 0) 0 1 ∧ (Al r s e).1.fresh = true ∧ IntKind.i64.wrap (Al r s e).1.runs = (Al r s e).1.runs := by
  obtain ⟨hv, he, hn, hw, hp, hs⟩ := ZS h
  have k4 := beq_iff_eq.1 hk
  have hpb : B4 r s e = LN r s e.ball := by unfold B4; rw [k4]; rfl
  obtain ⟨d, hd0⟩ : ∃ d, d = e.ball := ⟨_, rfl⟩
  rw [← hd0] at hpb ⊢
  rw [hpb] at hp hs
  obtain ⟨hr, hb⟩ := ee hp
  obtain ⟨q1, q2, q3, q4, q5, q6⟩ := Zh hr
  have ok := NV.1 hv
  have rk := Ez ok.code
  have hbeg : Cf s.batters = true := bP hw (by rw [k4]; rfl)
  obtain ⟨z1, z2⟩ := cc q1 hbeg
  have hin := gp ok q2
  have hout := ez (d := d) z1 z2 (fun hd => WS q5 hd)
  obtain ⟨k1, k2, k3, k4, k5, k6, k7, k8, k9, k10⟩ := XB s d
  have hbl := gP (b := (AB r d).counts) (s := Ad s d) rk ok.code (by rw [k9, k10]; exact hin) (by rw [k8]; exact ok.io) (by rw [k7]; exact ok.complete)
  rw [k7, k8] at hbl
  obtain ⟨w1, w2⟩ := eZ r (Ad s d) (AB r d).counts
  rw [hs, hb]
  have hc : AB r d = QV r d := by unfold AB; rw [q4]; rfl
  have ht : IntKind.i64.wrap (C6 (AB r d)) = C6 (AB r d) := Fd _
  have c1 : IntKind.i64.wrap (AB r d).wides = (AB r d).wides := by rw [hc]; unfold QV; simp only; cases d.type == 2 <;> first | rfl | exact Fd _
  have c2 : IntKind.i64.wrap (AB r d).noballs = (AB r d).noballs := by
    have := rk.noball
    rw [hc]; unfold QV; simp only; cases d.type == 3 <;> first | rfl | exact C2 (n := r.noball) (by omega) (by omega)
  have c3 : IntKind.i64.wrap (AB r d).byes = (AB r d).byes := by rw [hc]; unfold QV; simp only; cases (!(d.type == 2) && d.source == 2) <;> first | rfl | exact Fd _
  have c4 : IntKind.i64.wrap (AB r d).legbyes = (AB r d).legbyes := by rw [hc]; unfold QV; simp only; cases (!(d.type == 2) && d.source == 3) <;> first | rfl | exact Fd _
  refine ⟨(Kv _ _).trans ht, (Kv _ _).trans c1, (Kv _ _).trans c2, (Kv _ _).trans c3, (Kv _ _).trans c4, ?_, ?_, ?_, hk, Fd _⟩
  · have : (Bh r (Hk r s d) (e.kind == 4)).pens = (Ai r (Ad s d) (AB r d).counts).1.pens := by
      show (cond (Ai r (Ad s d) (AB r d).counts).2 (Hb (Ai r (Ad s d) (AB r d).counts).1) (Ai r (Ad s d) (AB r d).counts).1).pens = _
      cases (Ai r (Ad s d) (AB r d).counts).2 <;> rfl
    rw [this, w2, k6]
  · have e1 : (Bh r (Hk r s d) (e.kind == 4)).complete = (Ai r (Ad s d) (AB r d).counts).1.complete := by
      show (cond (Ai r (Ad s d) (AB r d).counts).2 (Hb (Ai r (Ad s d) (AB r d).counts).1) (Ai r (Ad s d) (AB r d).counts).1).complete = _
      cases (Ai r (Ad s d) (AB r d).counts).2 <;> rfl
    have e2 : (Bh r (Hk r s d) (e.kind == 4)).inover = (Ai r (Ad s d) (AB r d).counts).1.inover := by
      show (cond (Ai r (Ad s d) (AB r d).counts).2 (Hb (Ai r (Ad s d) (AB r d).counts).1) (Ai r (Ad s d) (AB r d).counts).1).inover = _
      cases (Ai r (Ad s d) (AB r d).counts).2 <;> rfl
    rw [e1, e2, hbl]
  · have : (Bh r (Hk r s d) (e.kind == 4)).wickets = (Ai r (Ad s d) (AB r d).counts).1.wickets := by
      show (cond (Ai r (Ad s d) (AB r d).counts).2 (Hb (Ai r (Ad s d) (AB r d).counts).1) (Ai r (Ad s d) (AB r d).counts).1).wickets = _
      cases (Ai r (Ad s d) (AB r d).counts).2 <;> rfl
    rw [this, w1, hout]
    unfold inc
    cases d.how == 0 with
    | true => exact TQ _
    | false => exact (Kv s.wickets 1).trans rfl
end Go.Px
end
section
namespace Go.Px
set_option maxRecDepth 100000
def kO : Inn := ⟨0, 0, 0, 0, 0, 0, 0, 0, 0, 0, 0, 0, 0, 0, [], 0, [], [], false, [], false, 0, 0, 0, [], 0, 0, 0⟩
def mX (n : Nat) (overs side t p : Int) : Inn := ⟨side, t, overs, p, 0, 0, 0, 0, 0, p, 0, 0, 0, 0, List.replicate n [.int 0], 0, [], [], false, List.replicate n [.int 0], false, 0, 0, 0, List.replicate n [.bool false], 0, 0, 0⟩
def CM (r : Rul) (side t p : Int) : Inn × Int :=
 cond (!(BD r == 0)) (kO, BD r) (cond (!btw side 1 2 || !btw t 0 1000000 || !btw p 0 1000000) (kO, 2) (mX r.side.toNat r.overs side t p, 0))
theorem Q3 {N : Nat} {r1 r2 r3 r4 r5 r6 r7 r9 r10 r11 r12 : Int} {r8 : Bool} {r0 : ByteArray} {r13 : Rows} {a : Int} {b : Int} {c : Int} (hN : 2097152 < N) (hs : r0.size ≤ 1048576) : FJ N [.str r0, .int r1, .int r2, .int r3, .int r4, .int r5, .int r6, .int r7, .bool r8, .int r9, .int r10, .int r11, .int r12, .rows r13, .int a, .int b, .int c] = some (BH (CM (⟨r0, r1, r2, r3, r4, r5, r6, r7, r8, r9, r10, r11, r12, r13⟩ : Rul) a b c)) := by
 show H5 (std (F3 N) N) (xOf _) = _
 generalize hres : (some (BH (CM (⟨r0, r1, r2, r3, r4, r5, r6, r7, r8, r9, r10, r11, r12, r13⟩ : Rul) a b c)) : Option (List PV)) = RR
 simp only [H5, NX, Ky, std, xOf, PXb, Cq hN hs, DQ]
 subst hres; simp only [CM]
 cases hc : BD (⟨r0, r1, r2, r3, r4, r5, r6, r7, r8, r9, r10, r11, r12, r13⟩ : Rul) == 0 with
 | false => rfl
 | true =>
  have rk := (Ez (beq_iff_eq.1 hc)).side
  obtain ⟨k, hk⟩ : ∃ k : Nat, r1 = k := ⟨r1.toNat, by simp only at rk; omega⟩
  subst hk
  simp only at rk
  have h1 : iSm (k : Int) 1 = true := Eh (by omega) (by omega)
  have h8 : iSm (k : Int) 8 = true := Eh (by omega) (by omega)
  simp only [PXb, PXc, PXn, PXm, Nat.reduceAdd, Int.reduceBEq, h1, h8]
  cases btw a 1 2 <;> cases btw b 0 1000000 <;> cases btw c 0 1000000 <;> rfl
theorem Uz {N : Nat} {L : Rows} {M : Rows} (hN : 2097152 < N) (hl : L.length ≤ 1048576) : FG N [.rows L, .rows M] = some [.bool (eqL L M)] := by
 show FF (std (K8 N) N) (xOf _) = _
 simp only [FF, std, xOf, PXb, PXc, PXn, AF]
 unfold eqL
 cases hm : (L.length : Int) == (M.length : Int) with
 | false => rfl
 | true =>
  simp only [PXb, PXc, PXn, AF]
  refine AP (IP (len := L.length) (fun i => !(atI L i 0 == atI M i 0)) [.bool false] ?_ ?_ N (by omega)) ?_
  ·intro self
   simp only [PXb, PXc, PXn, AF, A4]
  ·intro i self hi
   simp only [PXb, PXc, PXn, AF, Ap (show i ≤ 1099511627776 by omega), Az hi, AX hi, lJ hm hi, Bc]
  ·cases BR (fun i => !(atI L i 0 == atI M i 0)) L.length 0 <;> rfl
theorem O9 (r : Rul) (side t p : Int) : (CM r side t p).1.Fit ∧ (CM r side t p).1.before = [] ∧ (CM r side t p).1.bowlers = [] := by
 unfold CM
 cases hc : BD r == 0 with
 | false => exact ⟨⟨by show 0 ≤ 1048576; omega, by show 0 ≤ 1048576; omega, by show 0 ≤ 1048576; omega, by show 0 ≤ 1048576; omega, by show 0 ≤ 1048576; omega⟩, rfl, rfl⟩
 | true =>
  have hs := (Ez (beq_iff_eq.1 hc)).side
  have hl : ∀ x : List PV, (List.replicate r.side.toNat x).length ≤ 1048576 := fun x => by rw [List.length_replicate]; omega
  cases (!btw side 1 2 || !btw t 0 1000000 || !btw p 0 1000000) with
  | true => exact ⟨⟨by show 0 ≤ 1048576; omega, by show 0 ≤ 1048576; omega, by show 0 ≤ 1048576; omega, by show 0 ≤ 1048576; omega, by show 0 ≤ 1048576; omega⟩, rfl, rfl⟩
  | false => exact ⟨⟨hl _, by show 0 ≤ 1048576; omega, by show 0 ≤ 1048576; omega, hl _, hl _⟩, rfl, rfl⟩
theorem lV {s : Inn} (h : s.Fit) : (OL s).Fit := ⟨h.bt, h.bw, h.bf, h.bd, h.sb⟩
end Go.Px
end
section
namespace Go.Px
set_option maxRecDepth 100000
structure BatOk (L : Rows) (s n wk : Int) : Prop where
 le : ∀ i, i < L.length → atI L i 0 ≤ 3
 at1 : ∀ i, i < L.length → (atI L i 0 = 1 ↔ (s = (i : Int) + 1 ∨ n = (i : Int) + 1))
 here : Cf L = true → s ≠ 0 ∨ n ≠ 0
 ne : s ≠ 0 → s ≠ n
 wk : wk = W5 L
end Go.Px
end
section
namespace Go.Px
set_option maxRecDepth 100000
theorem ko {r : Rul} {s : Inn} (h : InnOk r s) : 2 ≤ r.side ∧ r.side ≤ 11 := (Ez h.code).side
end Go.Px
end
section
namespace Go.Px
set_option maxRecDepth 100000
structure Small (s : Inn) : Prop where
 target : s.target ≤ 999999900
 runs : s.runs ≤ 999999900
 wides : s.wides ≤ 999999900
 noballs : s.noballs ≤ 999999900
 byes : s.byes ≤ 999999900
 legbyes : s.legbyes ≤ 999999900
 pens : s.pens ≤ 999999900
 complete : s.complete ≤ 999999900
 ballage : s.ballage ≤ 999999900
 rev1 : s.rev1 ≤ 999999900
 rev2 : s.rev2 ≤ 999999900
 bowled : ∀ j, j < s.bowled.length → atI s.bowled j 0 ≤ 999999900
end Go.Px
end
