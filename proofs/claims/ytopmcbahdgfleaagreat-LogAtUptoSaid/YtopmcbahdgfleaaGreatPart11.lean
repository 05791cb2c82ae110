/- Part 11. -/
import Derived.Test.YtopmcbahdgfleaaGreatPart10
set_option linter.unusedVariables false
set_option linter.unusedSimpArgs false
section
namespace Go.Px
set_option maxRecDepth 100000
def aF (r : Rul) (over : Int) : Int :=
 match B4 (fun i => cond (iLe (atI r.power i 0) (inc over) && iLe (inc over) (atI r.power i 1)) (some [.int (atI r.power i 2)]) none) r.power.length 0 with
 | some x => pvI (AH x 0)
 | none => r.outside
theorem fX {N : Nat} {r1 r2 r3 r4 r5 r6 r7 r9 r10 r11 r12 : Int} {r8 : Bool} {r0 : ByteArray} {r13 : Rows} {o : Int} (hN : 2097152 < N) (h13 : r13.length ≤ 1048576) : Fb N [.str r0, .int r1, .int r2, .int r3, .int r4, .int r5, .int r6, .int r7, .bool r8, .int r9, .int r10, .int r11, .int r12, .rows r13, .int o] = some [.int (aF (⟨r0, r1, r2, r3, r4, r5, r6, r7, r8, r9, r10, r11, r12, r13⟩ : Rul) o)] := by
 show IX (std (RG N) N) (xOf _) = _
 simp only [IX, std, xOf, PXb, PXc, PXn, AB]
 refine AN (CO (len := r13.length) (fun i => cond (iLe (atI r13 i 0) (inc o) && iLe (inc o) (atI r13 i 1)) (some [.int (atI r13 i 2)]) none) ?_ ?_ r13.length 0 N (by omega) (by omega)) ?_
 ·intro self
  simp only [PXb, PXc, PXn, AB, Ao]
 ·intro i self hi
  simp only [PXb, PXc, PXn, AB, AR (show i ≤ 1099511627776 by omega), Ai hi, AQ hi]
  cases hq : iLe (atI r13 i 0) (inc o) && iLe (inc o) (atI r13 i 1) <;> unfold inc atI at hq <;> rw [hq] <;> rfl
 ·unfold aF
  cases B4 (fun i => cond (iLe (atI r13 i 0) (inc o) && iLe (inc o) (atI r13 i 1)) (some [.int (atI r13 i 2)]) none) r13.length 0 <;> rfl
theorem jz {N : Nat} {r1 r2 r3 r4 r5 r6 r7 r9 r10 r11 r12 : Int} {r8 : Bool} {r0 : ByteArray} {r13 : Rows} {o : Int} (hN : 2097152 < N) (h13 : r13.length ≤ 1048576) : Hp N [.str r0, .int r1, .int r2, .int r3, .int r4, .int r5, .int r6, .int r7, .bool r8, .int r9, .int r10, .int r11, .int r12, .rows r13, .int o] = some [.int (aF (⟨r0, r1, r2, r3, r4, r5, r6, r7, r8, r9, r10, r11, r12, r13⟩ : Rul) o)] := by
 show K6 (std (T6 N) N) (xOf _) = _
 simp only [K6, std, xOf, PXb, PXc, PXn, AB]
 refine AN (CO (len := r13.length) (fun i => cond (iLe (atI r13 i 0) (inc o) && iLe (inc o) (atI r13 i 1)) (some [.int (atI r13 i 2)]) none) ?_ ?_ r13.length 0 N (by omega) (by omega)) ?_
 ·intro self
  simp only [PXb, PXc, PXn, AB, Ao]
 ·intro i self hi
  simp only [PXb, PXc, PXn, AB, AR (show i ≤ 1099511627776 by omega), Ai hi, AQ hi]
  cases hq : iLe (atI r13 i 0) (inc o) && iLe (inc o) (atI r13 i 1) <;> unfold inc atI at hq <;> rw [hq] <;> rfl
 ·unfold aF
  cases B4 (fun i => cond (iLe (atI r13 i 0) (inc o) && iLe (inc o) (atI r13 i 1)) (some [.int (atI r13 i 2)]) none) r13.length 0 <;> rfl
def J7 (s : Inn) (p : Int) : Inn × Int :=
 cond (!inR p s.subs.length) (s, 3) (cond (Cm s p) (s, 18) (cond (p == s.bowler || p == s.keeper) (s, 17) ({ s with keeper := p }, 0)))
theorem iR {N : Nat} {s0 s1 s2 s3 s4 s5 s6 s7 s8 s9 s10 s11 s12 s13 s15 s21 s22 s23 s25 s26 s27 : Int} {s18 s20 : Bool} {s14 s16 s17 s19 s24 : Rows} {p : Int} (h : Fit s14 s16 s17 s19 s24) : G0 N [.int s0, .int s1, .int s2, .int s3, .int s4, .int s5, .int s6, .int s7, .int s8, .int s9, .int s10, .int s11, .int s12, .int s13, .rows s14, .int s15, .rows s16, .rows s17, .bool s18, .rows s19, .bool s20, .int s21, .int s22, .int s23, .rows s24, .int s25, .int s26, .int s27, .int p] = some (AW (J7 (⟨s0, s1, s2, s3, s4, s5, s6, s7, s8, s9, s10, s11, s12, s13, s14, s15, s16, s17, s18, s19, s20, s21, s22, s23, s24, s25, s26, s27⟩ : Inn) p)) := by
 show J5 (std (EX N) N) (xOf _) = _
 generalize hres : (some (AW (J7 (⟨s0, s1, s2, s3, s4, s5, s6, s7, s8, s9, s10, s11, s12, s13, s14, s15, s16, s17, s18, s19, s20, s21, s22, s23, s24, s25, s26, s27⟩ : Inn) p)) : Option (List PV)) = RR
 simp only [J5, Sl, QV, OE, std, xOf, PXb, PXc, PXn, PXm, Nat.reduceAdd, Int.reduceBEq, Uo h, Hx, HO h.sb]
 subst hres; simp only [J7]
 cases inR p s24.length <;> cases Cm (⟨s0, s1, s2, s3, s4, s5, s6, s7, s8, s9, s10, s11, s12, s13, s14, s15, s16, s17, s18, s19, s20, s21, s22, s23, s24, s25, s26, s27⟩ : Inn) p <;> cases p == s15 <;> cases p == s22 <;> rfl
theorem lh {N : Nat} {s0 s1 s2 s3 s4 s5 s6 s7 s8 s9 s10 s11 s12 s13 s15 s21 s22 s23 s25 s26 s27 : Int} {s18 s20 : Bool} {s14 s16 s17 s19 s24 : Rows} {p : Int} (h : Fit s14 s16 s17 s19 s24) : M7 N [.int s0, .int s1, .int s2, .int s3, .int s4, .int s5, .int s6, .int s7, .int s8, .int s9, .int s10, .int s11, .int s12, .int s13, .rows s14, .int s15, .rows s16, .rows s17, .bool s18, .rows s19, .bool s20, .int s21, .int s22, .int s23, .rows s24, .int s25, .int s26, .int s27, .int p] = some (AW (J7 (⟨s0, s1, s2, s3, s4, s5, s6, s7, s8, s9, s10, s11, s12, s13, s14, s15, s16, s17, s18, s19, s20, s21, s22, s23, s24, s25, s26, s27⟩ : Inn) p)) := by
 show NV (std (GS N) N) (xOf _) = _
 generalize hres : (some (AW (J7 (⟨s0, s1, s2, s3, s4, s5, s6, s7, s8, s9, s10, s11, s12, s13, s14, s15, s16, s17, s18, s19, s20, s21, s22, s23, s24, s25, s26, s27⟩ : Inn) p)) : Option (List PV)) = RR
 simp only [NV, Uk, TY, RN, std, xOf, PXb, PXc, PXn, PXm, Nat.reduceAdd, Int.reduceBEq, Bs h, Nw, GY h.sb]
 subst hres; simp only [J7]
 cases inR p s24.length <;> cases Cm (⟨s0, s1, s2, s3, s4, s5, s6, s7, s8, s9, s10, s11, s12, s13, s14, s15, s16, s17, s18, s19, s20, s21, s22, s23, s24, s25, s26, s27⟩ : Inn) p <;> cases p == s15 <;> cases p == s22 <;> rfl
def NS (s : Inn) (p : Int) (on : Bool) : Inn × Int :=
  cond (!inR p s.subs.length) (s, 3) (cond (Cm s p == on) (s, 18)
    ({ s with subs := se s.subs p on, keeper := cond (on && s.keeper == p) 0 s.keeper, bowler := cond (on && s.bowler == p) 0 s.bowler }, 0))
theorem aH {N : Nat} {s0 s1 s2 s3 s4 s5 s6 s7 s8 s9 s10 s11 s12 s13 s15 s21 s22 s23 s25 s26 s27 : Int} {s18 s20 : Bool} {s14 s16 s17 s19 s24 : Rows} {p : Int} {b : Bool} (h : Fit s14 s16 s17 s19 s24) : DZ N [.int s0, .int s1, .int s2, .int s3, .int s4, .int s5, .int s6, .int s7, .int s8, .int s9, .int s10, .int s11, .int s12, .int s13, .rows s14, .int s15, .rows s16, .rows s17, .bool s18, .rows s19, .bool s20, .int s21, .int s22, .int s23, .rows s24, .int s25, .int s26, .int s27, .int p, .bool b] = some (AW (NS (⟨s0, s1, s2, s3, s4, s5, s6, s7, s8, s9, s10, s11, s12, s13, s14, s15, s16, s17, s18, s19, s20, s21, s22, s23, s24, s25, s26, s27⟩ : Inn) p b)) := by
 show Fj (std (Cv N) N) (xOf _) = _
 generalize hres : (some (AW (NS (⟨s0, s1, s2, s3, s4, s5, s6, s7, s8, s9, s10, s11, s12, s13, s14, s15, s16, s17, s18, s19, s20, s21, s22, s23, s24, s25, s26, s27⟩ : Inn) p b)) : Option (List PV)) = RR
 simp only [Fj, Oc, Nv, Kc, std, xOf, PXb, PXc, PXn, PXm, Nat.reduceAdd, Int.reduceBEq, Uo h, Hx, HO h.sb]
 subst hres; simp only [NS]
 cases hp : inR p s24.length <;> try rfl
 rw [C8 hp h.sb]
 cases Cm (⟨s0, s1, s2, s3, s4, s5, s6, s7, s8, s9, s10, s11, s12, s13, s14, s15, s16, s17, s18, s19, s20, s21, s22, s23, s24, s25, s26, s27⟩ : Inn) p == b <;> cases b <;> cases s22 == p <;> cases s15 == p <;> rfl
theorem dr {N : Nat} {s0 s1 s2 s3 s4 s5 s6 s7 s8 s9 s10 s11 s12 s13 s15 s21 s22 s23 s25 s26 s27 : Int} {s18 s20 : Bool} {s14 s16 s17 s19 s24 : Rows} {p : Int} {b : Bool} (h : Fit s14 s16 s17 s19 s24) : HJ N [.int s0, .int s1, .int s2, .int s3, .int s4, .int s5, .int s6, .int s7, .int s8, .int s9, .int s10, .int s11, .int s12, .int s13, .rows s14, .int s15, .rows s16, .rows s17, .bool s18, .rows s19, .bool s20, .int s21, .int s22, .int s23, .rows s24, .int s25, .int s26, .int s27, .int p, .bool b] = some (AW (NS (⟨s0, s1, s2, s3, s4, s5, s6, s7, s8, s9, s10, s11, s12, s13, s14, s15, s16, s17, s18, s19, s20, s21, s22, s23, s24, s25, s26, s27⟩ : Inn) p b)) := by
 show HY (std (DY N) N) (xOf _) = _
 generalize hres : (some (AW (NS (⟨s0, s1, s2, s3, s4, s5, s6, s7, s8, s9, s10, s11, s12, s13, s14, s15, s16, s17, s18, s19, s20, s21, s22, s23, s24, s25, s26, s27⟩ : Inn) p b)) : Option (List PV)) = RR
 simp only [HY, QY, P6, OB, std, xOf, PXb, PXc, PXn, PXm, Nat.reduceAdd, Int.reduceBEq, Bs h, Nw, GY h.sb]
 subst hres; simp only [NS]
 cases hp : inR p s24.length <;> try rfl
 rw [C8 hp h.sb]
 cases Cm (⟨s0, s1, s2, s3, s4, s5, s6, s7, s8, s9, s10, s11, s12, s13, s14, s15, s16, s17, s18, s19, s20, s21, s22, s23, s24, s25, s26, s27⟩ : Inn) p == b <;> cases b <;> cases s22 == p <;> cases s15 == p <;> rfl
def Hh (s : Inn) (n : Int) : Inn × Int :=
 cond (iLt n 0 || iLt (IntKind.i64.wrap ((s.subs.length : Int) - 2)) n) (s, 16) ({ s with outside := n }, 0)
theorem gG {N : Nat} {s0 s1 s2 s3 s4 s5 s6 s7 s8 s9 s10 s11 s12 s13 s15 s21 s22 s23 s25 s26 s27 : Int} {s18 s20 : Bool} {s14 s16 s17 s19 s24 : Rows} {n : Int} (h : Fit s14 s16 s17 s19 s24) : FN N [.int s0, .int s1, .int s2, .int s3, .int s4, .int s5, .int s6, .int s7, .int s8, .int s9, .int s10, .int s11, .int s12, .int s13, .rows s14, .int s15, .rows s16, .rows s17, .bool s18, .rows s19, .bool s20, .int s21, .int s22, .int s23, .rows s24, .int s25, .int s26, .int s27, .int n] = some (AW (Hh (⟨s0, s1, s2, s3, s4, s5, s6, s7, s8, s9, s10, s11, s12, s13, s14, s15, s16, s17, s18, s19, s20, s21, s22, s23, s24, s25, s26, s27⟩ : Inn) n)) := by
 show Ia (std (KH N) N) (xOf _) = _
 generalize hres : (some (AW (Hh (⟨s0, s1, s2, s3, s4, s5, s6, s7, s8, s9, s10, s11, s12, s13, s14, s15, s16, s17, s18, s19, s20, s21, s22, s23, s24, s25, s26, s27⟩ : Inn) n)) : Option (List PV)) = RR
 simp only [Ia, Rq, std, xOf, PXb, PXc, PXn, PXm, Nat.reduceAdd, Int.reduceBEq, Uo h]
 subst hres; simp only [Hh]
 cases (iLt n 0 || iLt (IntKind.i64.wrap ((s24.length : Int) - 2)) n) <;> rfl
theorem j8 {N : Nat} {s0 s1 s2 s3 s4 s5 s6 s7 s8 s9 s10 s11 s12 s13 s15 s21 s22 s23 s25 s26 s27 : Int} {s18 s20 : Bool} {s14 s16 s17 s19 s24 : Rows} {n : Int} (h : Fit s14 s16 s17 s19 s24) : K9 N [.int s0, .int s1, .int s2, .int s3, .int s4, .int s5, .int s6, .int s7, .int s8, .int s9, .int s10, .int s11, .int s12, .int s13, .rows s14, .int s15, .rows s16, .rows s17, .bool s18, .rows s19, .bool s20, .int s21, .int s22, .int s23, .rows s24, .int s25, .int s26, .int s27, .int n] = some (AW (Hh (⟨s0, s1, s2, s3, s4, s5, s6, s7, s8, s9, s10, s11, s12, s13, s14, s15, s16, s17, s18, s19, s20, s21, s22, s23, s24, s25, s26, s27⟩ : Inn) n)) := by
 show LQ (std (M1 N) N) (xOf _) = _
 generalize hres : (some (AW (Hh (⟨s0, s1, s2, s3, s4, s5, s6, s7, s8, s9, s10, s11, s12, s13, s14, s15, s16, s17, s18, s19, s20, s21, s22, s23, s24, s25, s26, s27⟩ : Inn) n)) : Option (List PV)) = RR
 simp only [LQ, Tc, std, xOf, PXb, PXc, PXn, PXm, Nat.reduceAdd, Int.reduceBEq, Bs h]
 subst hres; simp only [Hh]
 cases (iLt n 0 || iLt (IntKind.i64.wrap ((s24.length : Int) - 2)) n) <;> rfl
def MY (r : Rul) (s : Inn) : Int :=
 cond (!inR s.keeper s.subs.length || Cm s s.keeper || s.keeper == s.bowler) 17 (cond (iLt (aF r s.complete) s.outside) 16 0)
theorem kC {N : Nat} {r1 r2 r3 r4 r5 r6 r7 r9 r10 r11 r12 : Int} {r8 : Bool} {r0 : ByteArray} {r13 : Rows} {s0 s1 s2 s3 s4 s5 s6 s7 s8 s9 s10 s11 s12 s13 s15 s21 s22 s23 s25 s26 s27 : Int} {s18 s20 : Bool} {s14 s16 s17 s19 s24 : Rows} (h : Fit s14 s16 s17 s19 s24) (hN : 2097152 < N) (h13 : r13.length ≤ 1048576) : H7 N [.str r0, .int r1, .int r2, .int r3, .int r4, .int r5, .int r6, .int r7, .bool r8, .int r9, .int r10, .int r11, .int r12, .rows r13, .int s0, .int s1, .int s2, .int s3, .int s4, .int s5, .int s6, .int s7, .int s8, .int s9, .int s10, .int s11, .int s12, .int s13, .rows s14, .int s15, .rows s16, .rows s17, .bool s18, .rows s19, .bool s20, .int s21, .int s22, .int s23, .rows s24, .int s25, .int s26, .int s27] = some [.int (MY (⟨r0, r1, r2, r3, r4, r5, r6, r7, r8, r9, r10, r11, r12, r13⟩ : Rul) (⟨s0, s1, s2, s3, s4, s5, s6, s7, s8, s9, s10, s11, s12, s13, s14, s15, s16, s17, s18, s19, s20, s21, s22, s23, s24, s25, s26, s27⟩ : Inn))] := by
 show K1 (std (FK N) N) (xOf _) = _
 generalize hres : (some [.int (MY (⟨r0, r1, r2, r3, r4, r5, r6, r7, r8, r9, r10, r11, r12, r13⟩ : Rul) (⟨s0, s1, s2, s3, s4, s5, s6, s7, s8, s9, s10, s11, s12, s13, s14, s15, s16, s17, s18, s19, s20, s21, s22, s23, s24, s25, s26, s27⟩ : Inn))] : Option (List PV)) = RR
 simp only [K1, Rj, O2, QS, std, xOf, PXb, PXc, PXn, PXm, Nat.reduceAdd, Int.reduceBEq, Hx, HO h.sb, fX hN h13]
 subst hres; simp only [MY]
 cases inR s22 s24.length <;> cases Cm (⟨s0, s1, s2, s3, s4, s5, s6, s7, s8, s9, s10, s11, s12, s13, s14, s15, s16, s17, s18, s19, s20, s21, s22, s23, s24, s25, s26, s27⟩ : Inn) s22 <;> cases s22 == s15 <;> rfl
theorem oC {N : Nat} {r1 r2 r3 r4 r5 r6 r7 r9 r10 r11 r12 : Int} {r8 : Bool} {r0 : ByteArray} {r13 : Rows} {s0 s1 s2 s3 s4 s5 s6 s7 s8 s9 s10 s11 s12 s13 s15 s21 s22 s23 s25 s26 s27 : Int} {s18 s20 : Bool} {s14 s16 s17 s19 s24 : Rows} (h : Fit s14 s16 s17 s19 s24) (hN : 2097152 < N) (h13 : r13.length ≤ 1048576) : Pn N [.str r0, .int r1, .int r2, .int r3, .int r4, .int r5, .int r6, .int r7, .bool r8, .int r9, .int r10, .int r11, .int r12, .rows r13, .int s0, .int s1, .int s2, .int s3, .int s4, .int s5, .int s6, .int s7, .int s8, .int s9, .int s10, .int s11, .int s12, .int s13, .rows s14, .int s15, .rows s16, .rows s17, .bool s18, .rows s19, .bool s20, .int s21, .int s22, .int s23, .rows s24, .int s25, .int s26, .int s27] = some [.int (MY (⟨r0, r1, r2, r3, r4, r5, r6, r7, r8, r9, r10, r11, r12, r13⟩ : Rul) (⟨s0, s1, s2, s3, s4, s5, s6, s7, s8, s9, s10, s11, s12, s13, s14, s15, s16, s17, s18, s19, s20, s21, s22, s23, s24, s25, s26, s27⟩ : Inn))] := by
 show PJ (std (H8 N) N) (xOf _) = _
 generalize hres : (some [.int (MY (⟨r0, r1, r2, r3, r4, r5, r6, r7, r8, r9, r10, r11, r12, r13⟩ : Rul) (⟨s0, s1, s2, s3, s4, s5, s6, s7, s8, s9, s10, s11, s12, s13, s14, s15, s16, s17, s18, s19, s20, s21, s22, s23, s24, s25, s26, s27⟩ : Inn))] : Option (List PV)) = RR
 simp only [PJ, VP, Sq, TS, std, xOf, PXb, PXc, PXn, PXm, Nat.reduceAdd, Int.reduceBEq, Nw, GY h.sb, jz hN h13]
 subst hres; simp only [MY]
 cases inR s22 s24.length <;> cases Cm (⟨s0, s1, s2, s3, s4, s5, s6, s7, s8, s9, s10, s11, s12, s13, s14, s15, s16, s17, s18, s19, s20, s21, s22, s23, s24, s25, s26, s27⟩ : Inn) s22 <;> cases s22 == s15 <;> rfl
def NF (s : Inn) (d : Del) : Int :=
  cond (iLt 0 d.fielder && !inR d.fielder s.subs.length) 3 (cond (iLt 0 d.fielder && !(d.sub == Cm s d.fielder)) 18
    (cond (iLt 0 d.second && !inR d.second s.subs.length) 3 (cond (iLt 0 d.second && Cm s d.second) 18
      (cond (d.how == 4 && !(de d.fielder == s.keeper)) 17 0))))
theorem jr {N : Nat} {s0 s1 s2 s3 s4 s5 s6 s7 s8 s9 s10 s11 s12 s13 s15 s21 s22 s23 s25 s26 s27 : Int} {s18 s20 : Bool} {s14 s16 s17 s19 s24 : Rows} {d0 d1 d2 d3 d4 d6 d7 d8 d9 d11 : Int} {d5 d10 : Bool} (h : Fit s14 s16 s17 s19 s24) : H1 N [.int s0, .int s1, .int s2, .int s3, .int s4, .int s5, .int s6, .int s7, .int s8, .int s9, .int s10, .int s11, .int s12, .int s13, .rows s14, .int s15, .rows s16, .rows s17, .bool s18, .rows s19, .bool s20, .int s21, .int s22, .int s23, .rows s24, .int s25, .int s26, .int s27, .int d0, .int d1, .int d2, .int d3, .int d4, .bool d5, .int d6, .int d7, .int d8, .int d9, .bool d10, .int d11] = some [.int (NF (⟨s0, s1, s2, s3, s4, s5, s6, s7, s8, s9, s10, s11, s12, s13, s14, s15, s16, s17, s18, s19, s20, s21, s22, s23, s24, s25, s26, s27⟩ : Inn) (⟨d0, d1, d2, d3, d4, d5, d6, d7, d8, d9, d10, d11⟩ : Del))] := by
 show Lb (std (Ij N) N) (xOf _) = _
 generalize hres : (some [.int (NF (⟨s0, s1, s2, s3, s4, s5, s6, s7, s8, s9, s10, s11, s12, s13, s14, s15, s16, s17, s18, s19, s20, s21, s22, s23, s24, s25, s26, s27⟩ : Inn) (⟨d0, d1, d2, d3, d4, d5, d6, d7, d8, d9, d10, d11⟩ : Del))] : Option (List PV)) = RR
 simp only [Lb, Rt, O7, std, xOf, PXb, PXc, PXn, PXm, Nat.reduceAdd, Int.reduceBEq, Hx, HO h.sb]
 subst hres; simp only [NF, de, rh]
 cases iLt 0 d8 <;> cases iLt 0 d9 <;> cases inR d8 s24.length <;> cases inR d9 s24.length <;> cases d10 == Cm (⟨s0, s1, s2, s3, s4, s5, s6, s7, s8, s9, s10, s11, s12, s13, s14, s15, s16, s17, s18, s19, s20, s21, s22, s23, s24, s25, s26, s27⟩ : Inn) d8 <;> cases Cm (⟨s0, s1, s2, s3, s4, s5, s6, s7, s8, s9, s10, s11, s12, s13, s14, s15, s16, s17, s18, s19, s20, s21, s22, s23, s24, s25, s26, s27⟩ : Inn) d9 <;> rfl
theorem oA {N : Nat} {s0 s1 s2 s3 s4 s5 s6 s7 s8 s9 s10 s11 s12 s13 s15 s21 s22 s23 s25 s26 s27 : Int} {s18 s20 : Bool} {s14 s16 s17 s19 s24 : Rows} {d0 d1 d2 d3 d4 d6 d7 d8 d9 d11 : Int} {d5 d10 : Bool} (h : Fit s14 s16 s17 s19 s24) : Pp N [.int s0, .int s1, .int s2, .int s3, .int s4, .int s5, .int s6, .int s7, .int s8, .int s9, .int s10, .int s11, .int s12, .int s13, .rows s14, .int s15, .rows s16, .rows s17, .bool s18, .rows s19, .bool s20, .int s21, .int s22, .int s23, .rows s24, .int s25, .int s26, .int s27, .int d0, .int d1, .int d2, .int d3, .int d4, .bool d5, .int d6, .int d7, .int d8, .int d9, .bool d10, .int d11] = some [.int (NF (⟨s0, s1, s2, s3, s4, s5, s6, s7, s8, s9, s10, s11, s12, s13, s14, s15, s16, s17, s18, s19, s20, s21, s22, s23, s24, s25, s26, s27⟩ : Inn) (⟨d0, d1, d2, d3, d4, d5, d6, d7, d8, d9, d10, d11⟩ : Del))] := by
 show PT (std (LE N) N) (xOf _) = _
 generalize hres : (some [.int (NF (⟨s0, s1, s2, s3, s4, s5, s6, s7, s8, s9, s10, s11, s12, s13, s14, s15, s16, s17, s18, s19, s20, s21, s22, s23, s24, s25, s26, s27⟩ : Inn) (⟨d0, d1, d2, d3, d4, d5, d6, d7, d8, d9, d10, d11⟩ : Del))] : Option (List PV)) = RR
 simp only [PT, Up, Sr, std, xOf, PXb, PXc, PXn, PXm, Nat.reduceAdd, Int.reduceBEq, Nw, GY h.sb]
 subst hres; simp only [NF, de, rh]
 rw [BEq.comm (a := Cm (⟨s0, s1, s2, s3, s4, s5, s6, s7, s8, s9, s10, s11, s12, s13, s14, s15, s16, s17, s18, s19, s20, s21, s22, s23, s24, s25, s26, s27⟩ : Inn) d8)]
 cases iLt 0 d8 <;> cases iLt 0 d9 <;> cases inR d8 s24.length <;> cases inR d9 s24.length <;> cases d10 == Cm (⟨s0, s1, s2, s3, s4, s5, s6, s7, s8, s9, s10, s11, s12, s13, s14, s15, s16, s17, s18, s19, s20, s21, s22, s23, s24, s25, s26, s27⟩ : Inn) d8 <;> cases Cm (⟨s0, s1, s2, s3, s4, s5, s6, s7, s8, s9, s10, s11, s12, s13, s14, s15, s16, s17, s18, s19, s20, s21, s22, s23, s24, s25, s26, s27⟩ : Inn) d9 <;> rfl
end Go.Px
end
section
namespace Go.Px
set_option maxRecDepth 100000
structure Cre where
 batter : Int
 wides : Int
 noballs : Int
 byes : Int
 legbyes : Int
 bowler : Int
 counts : Bool
 faced : Bool
 wicket : Bool
 swap : Bool
def Cre.ls (c : Cre) : List PV := [.int c.batter, .int c.wides, .int c.noballs, .int c.byes, .int c.legbyes, .int c.bowler, .bool c.counts, .bool c.faced, .bool c.wicket, .bool c.swap]
theorem sm {N : Nat} {a : Int} {b : Int} {c : Int}  : So N [.int a, .int b, .int c] = some [.bool (btw a b c)] := by
 show eB (std (eh N) N) (xOf _) = _
 show some [PV.bool (cond (iLe b a) (iLe a c) false)] = _
 rw [Po]; rfl
def L0 (d : Del) : Bool :=
  cond (d.type == 2) (d.source == 0 && !(d.boundary == 6)) (cond (d.source == 0) (d.runs == 0 && d.boundary == 0)
    (cond (d.boundary == 0) (iLt 0 d.runs) (cond (d.boundary == 6) (d.source == 1 && d.runs == 0) true)))
def FJ (d : Del) : Int :=
  cond (iLt d.type 1 || iLt 3 d.type || iLt 3 d.source || iLt 10 d.how || !btw d.sector 0 8) 11
    (cond (!btw d.runs 0 7 || !btw d.short 0 d.runs || (!(d.boundary == 0) && !(d.boundary == 4) && !(d.boundary == 6))) 12
      (cond (!L0 d) 11 (cond (!(d.sector == 0) && !(d.source == 1) && !(d.how == 2)) 11 (cond (!(d.boundary == 0) && !(d.how == 0)) 11
        (cond (d.crossed && !(d.how == 6) && !(d.how == 8)) 11 0)))))
theorem gh {N : Nat} {d0 d1 d2 d3 d4 d6 d7 d8 d9 d11 : Int} {d5 d10 : Bool}  : GU N [.int d0, .int d1, .int d2, .int d3, .int d4, .bool d5, .int d6, .int d7, .int d8, .int d9, .bool d10, .int d11] = some [.bool (L0 (⟨d0, d1, d2, d3, d4, d5, d6, d7, d8, d9, d10, d11⟩ : Del))] := by
 show KC (std (Sn N) N) (xOf _) = _
 generalize hres : (some [.bool (L0 (⟨d0, d1, d2, d3, d4, d5, d6, d7, d8, d9, d10, d11⟩ : Del))] : Option (List PV)) = RR
 simp only [KC, std, xOf, PXb, PXc, PXn, PXm, Nat.reduceAdd, Int.reduceBEq]
 subst hres; simp only [L0]
 cases d0 == 2 <;> cases d1 == 0 <;> cases d4 == 0 <;> cases d4 == 6 <;> rfl
theorem cV {N : Nat} {d0 d1 d2 d3 d4 d6 d7 d8 d9 d11 : Int} {d5 d10 : Bool}  : Fw N [.int d0, .int d1, .int d2, .int d3, .int d4, .bool d5, .int d6, .int d7, .int d8, .int d9, .bool d10, .int d11] = some [.int (FJ (⟨d0, d1, d2, d3, d4, d5, d6, d7, d8, d9, d10, d11⟩ : Del))] := by
 show PR (std (LW N) N) (xOf _) = _
 generalize hres : (some [.int (FJ (⟨d0, d1, d2, d3, d4, d5, d6, d7, d8, d9, d10, d11⟩ : Del))] : Option (List PV)) = RR
 simp only [PR, Zo, TK, std, xOf, PXb, PXc, PXn, PXm, Nat.reduceAdd, Int.reduceBEq, sm, gh]
 subst hres; simp only [FJ]
def Ku (d : Del) : Bool :=
  cond (d.type == 2) (d.source == 0 && !(d.boundary == 6)) (cond (d.source == 0) (d.runs == 0 && d.boundary == 0)
    (cond (d.source == 1) (!(d.boundary == 6) || d.runs == 0) (!(d.boundary == 6) && (iLt 0 d.runs || !(d.boundary == 0)))))
theorem Yn {N : Nat} {d0 d1 d2 d3 d4 d6 d7 d8 d9 d11 : Int} {d5 d10 : Bool}  : DD N [.int d0, .int d1, .int d2, .int d3, .int d4, .bool d5, .int d6, .int d7, .int d8, .int d9, .bool d10, .int d11] = some [.bool (Ku (⟨d0, d1, d2, d3, d4, d5, d6, d7, d8, d9, d10, d11⟩ : Del))] := by
 show E0 (std (MK N) N) (xOf _) = _
 generalize hres : (some [.bool (Ku (⟨d0, d1, d2, d3, d4, d5, d6, d7, d8, d9, d10, d11⟩ : Del))] : Option (List PV)) = RR
 simp only [E0, std, xOf, PXb, PXc, PXn, PXm, Nat.reduceAdd, Int.reduceBEq]
 subst hres; simp only [Ku]
theorem uD (x a b : Int) : (!btw x a b) = (iLt x a || iLt b x) := by
 unfold btw iLe iLt
 rw [Bool.eq_iff_iff]
 simp only [Bool.not_eq_true', Bool.and_eq_false_iff, decide_eq_false_iff_not, Bool.or_eq_true, decide_eq_true_eq]
 omega
theorem td {d : Del} (h : 0 ≤ d.runs) : (!Ku d || !d.type == 2 && d.source == 1 && d.runs == 0 && d.boundary == 0) = !L0 d := by
 unfold Ku L0
 rw [ib h]
 cases h1 : d.source == 0 with
 | true =>
  rw [Ob h1 (c := 1) rfl]
  cases d.type == 2 <;> cases d.runs == 0 <;> cases d.boundary == 0 <;> cases d.boundary == 6 <;> rfl
 | false =>
  cases h2 : d.boundary == 0 with
  | true =>
   rw [Ob h2 (c := 6) rfl]
   cases d.type == 2 <;> cases d.source == 1 <;> cases d.runs == 0 <;> rfl
  | false => cases d.type == 2 <;> cases d.source == 1 <;> cases d.runs == 0 <;> cases d.boundary == 6 <;> rfl
theorem SX {N : Nat} {d0 d1 d2 d3 d4 d6 d7 d8 d9 d11 : Int} {d5 d10 : Bool}  : B7 N [.int d0, .int d1, .int d2, .int d3, .int d4, .bool d5, .int d6, .int d7, .int d8, .int d9, .bool d10, .int d11] = some [.int (FJ (⟨d0, d1, d2, d3, d4, d5, d6, d7, d8, d9, d10, d11⟩ : Del))] := by
 show HX (std (I0 N) N) (xOf _) = _
 generalize hres : (some [.int (FJ (⟨d0, d1, d2, d3, d4, d5, d6, d7, d8, d9, d10, d11⟩ : Del))] : Option (List PV)) = RR
 simp only [HX, KL, std, xOf, PXb, PXc, PXn, PXm, Nat.reduceAdd, Int.reduceBEq, Yn]
 subst hres; simp only [FJ, uD, Bool.or_assoc]
 cases h2 : (iLt d2 0 || (iLt 7 d2 || (iLt d3 0 || (iLt d2 d3 || !d4 == 0 && !d4 == 4 && !d4 == 6)))) with
 | true => rfl
 | false =>
  have h3 : 0 ≤ d2 := by
   rw [Bool.or_eq_false_iff] at h2
   have := h2.1
   simp only [iLt, decide_eq_false_iff_not] at this
   omega
  have := td (d := (⟨d0, d1, d2, d3, d4, d5, d6, d7, d8, d9, d10, d11⟩ : Del)) h3
  simp only at this
  rw [this]
theorem dq {N : Nat} {a : Int} {b : Int} {c : Int} {d : Int} {e : Int} {x : Int} {p : Bool} {q : Bool} {u : Bool} {v : Bool}  : EV N [.int a, .int b, .int c, .int d, .int e, .int x, .bool p, .bool q, .bool u, .bool v] = some [.int (IntKind.i64.wrap (IntKind.i64.wrap (IntKind.i64.wrap (IntKind.i64.wrap (a + b) + c) + d) + e))] := by
 rfl
theorem oI {N : Nat} {a : Int} {b : Int} {c : Int} {d : Int} {e : Int} {x : Int} {p : Bool} {q : Bool} {u : Bool} {v : Bool}  : Pb N [.int a, .int b, .int c, .int d, .int e, .int x, .bool p, .bool q, .bool u, .bool v] = some [.int (IntKind.i64.wrap (IntKind.i64.wrap (IntKind.i64.wrap (IntKind.i64.wrap (a + b) + c) + d) + e))] := by
 rfl
def fQ (c : Cre) : Int := IntKind.i64.wrap (IntKind.i64.wrap (IntKind.i64.wrap (IntKind.i64.wrap (c.batter + c.wides) + c.noballs) + c.byes) + c.legbyes)
def WQ (h : Int) : Bool := iLe 1 h && iLe h 5
theorem Yt {N : Nat} {h : Int}  : DB N [.int h] = some [.bool (WQ h)] := by
 show Es (std (MD N) N) (xOf _) = _
 simp only [Es, std, xOf, PXb, PXc, PXn, PXm, Nat.reduceAdd, Int.reduceBEq, WQ]
theorem gy {N : Nat} {h : Int}  : Gh N [.int h] = some [.bool (WQ h)] := by
 show J8 (std (SE N) N) (xOf _) = _
 simp only [J8, std, xOf, PXb, PXc, PXn, PXm, Nat.reduceAdd, Int.reduceBEq]
 refine congrArg (fun b => some [PV.bool b]) ?_
 by_cases e1 : h = 1; · subst e1; rfl
 by_cases e2 : h = 2; · subst e2; rfl
 by_cases e3 : h = 3; · subst e3; rfl
 by_cases e4 : h = 4; · subst e4; rfl
 by_cases e5 : h = 5; · subst e5; rfl
 rw [beq_false_of_ne e1, beq_false_of_ne e2, beq_false_of_ne e3, beq_false_of_ne e4, beq_false_of_ne e5]
 unfold WQ iLe
 symm
 show (_ && _) = false
 rw [Bool.and_eq_false_iff]
 simp only [decide_eq_false_iff_not]
 omega
theorem oB {N : Nat} {d0 d1 d2 d3 d4 d6 d7 d8 d9 d11 : Int} {d5 d10 : Bool}  : Ks N [.int d0, .int d1, .int d2, .int d3, .int d4, .bool d5, .int d6, .int d7, .int d8, .int d9, .bool d10, .int d11] = some [.bool (!((!(d2.tmod 2 == 0)) == d5))] := by
 show PB (std (YQ N) N) (xOf _) = _
 simp only [PB, std, xOf, PXb, PXc, PXn, PXm, Nat.reduceAdd, Int.reduceBEq]
def qG (r : Rul) (d : Del) : Cre :=
  let n := IntKind.i64.wrap (IntKind.i64.wrap (d.runs - d.short) + d.boundary)
  let b := cond (!(d.type == 2) && d.source == 1) n 0
  let w := cond (d.type == 2) (IntKind.i64.wrap (r.wide + n)) 0
  let o := cond (d.type == 3) r.noball 0
  { batter := b, wides := w, noballs := o, byes := cond (!(d.type == 2) && d.source == 2) n 0, legbyes := cond (!(d.type == 2) && d.source == 3) n 0, bowler := IntKind.i64.wrap (IntKind.i64.wrap (b + w) + o),
    counts := d.type == 1, faced := !(d.type == 2), wicket := WQ d.how, swap := !((!(d.runs.tmod 2 == 0)) == d.crossed) }
def A7 (r : Rul) (d : Del) : Cre := cond (!(FJ d == 0)) ⟨0, 0, 0, 0, 0, 0, false, false, false, false⟩ (qG r d)
theorem oq {d : Del} (h : (FJ d == 0) = true) : 0 ≤ d.runs ∧ d.runs ≤ 7 := by
 unfold FJ at h
 cases h1 : (iLt d.type 1 || iLt 3 d.type || iLt 3 d.source || iLt 10 d.how || !btw d.sector 0 8) with
 | true => rw [h1] at h; cases h
 | false =>
  cases h2 : (!btw d.runs 0 7 || !btw d.short 0 d.runs || (!(d.boundary == 0) && !(d.boundary == 4) && !(d.boundary == 6))) with
  | true => rw [h1, h2] at h; cases h
  | false =>
   rw [Bool.or_eq_false_iff, Bool.or_eq_false_iff] at h2
   have := h2.1.1
   simp only [btw, iLe, Bool.not_eq_false', Bool.and_eq_true, decide_eq_true_eq] at this
   exact this
theorem tJ {n : Int} (h : 0 ≤ n ∧ n ≤ 7) (b : Bool) : ((cond b (IntKind.i64.wrap (n + 1)) n).tmod 2 == 1) = !((!(n.tmod 2 == 0)) == b) := by
 obtain ⟨k, rfl⟩ : ∃ k : Nat, n = k := ⟨n.toNat, by omega⟩
 have : k = 0 ∨ k = 1 ∨ k = 2 ∨ k = 3 ∨ k = 4 ∨ k = 5 ∨ k = 6 ∨ k = 7 := by omega
 rcases this with h | h | h | h | h | h | h | h <;> subst h <;> cases b <;> rfl
theorem Q5 {N : Nat} {r1 r2 r3 r4 r5 r6 r7 r9 r10 r11 r12 : Int} {r8 : Bool} {r0 : ByteArray} {r13 : Rows} {d0 d1 d2 d3 d4 d6 d7 d8 d9 d11 : Int} {d5 d10 : Bool}  : Bx N [.str r0, .int r1, .int r2, .int r3, .int r4, .int r5, .int r6, .int r7, .bool r8, .int r9, .int r10, .int r11, .int r12, .rows r13, .int d0, .int d1, .int d2, .int d3, .int d4, .bool d5, .int d6, .int d7, .int d8, .int d9, .bool d10, .int d11] = some (A7 (⟨r0, r1, r2, r3, r4, r5, r6, r7, r8, r9, r10, r11, r12, r13⟩ : Rul) (⟨d0, d1, d2, d3, d4, d5, d6, d7, d8, d9, d10, d11⟩ : Del)).ls := by
 show F6 (std (Er N) N) (xOf _) = _
 generalize hres : (some (A7 (⟨r0, r1, r2, r3, r4, r5, r6, r7, r8, r9, r10, r11, r12, r13⟩ : Rul) (⟨d0, d1, d2, d3, d4, d5, d6, d7, d8, d9, d10, d11⟩ : Del)).ls : Option (List PV)) = RR
 simp only [F6, Lm, Jj, std, xOf, PXb, PXc, PXn, PXm, Nat.reduceAdd, Int.reduceBEq, SX, Yt]
 subst hres; simp only [A7, qG]
 cases hl : FJ (⟨d0, d1, d2, d3, d4, d5, d6, d7, d8, d9, d10, d11⟩ : Del) == 0 with
 | false => rfl
 | true =>
  have hs := tJ (oq hl) d5
  simp only at hs
  simp only [PXb, PXc, PXn, PXm, Nat.reduceAdd, Int.reduceBEq, hs]
  cases h0 : d0 == 2 <;> cases h3 : d0 == 3 <;> cases h1 : d1 == 1 <;> cases h2 : d1 == 2 <;> cases h4 : d1 == 3 <;> first
   | rfl
   | (rw [Ob h0 (c := 3) rfl] at h3; exact absurd h3 (by decide))
   | (rw [Ob h1 (c := 2) rfl] at h2; exact absurd h2 (by decide))
   | (rw [Ob h1 (c := 3) rfl] at h4; exact absurd h4 (by decide))
   | (rw [Ob h2 (c := 3) rfl] at h4; exact absurd h4 (by decide))
theorem kf {N : Nat} {r1 r2 r3 r4 r5 r6 r7 r9 r10 r11 r12 : Int} {r8 : Bool} {r0 : ByteArray} {r13 : Rows} {d0 d1 d2 d3 d4 d6 d7 d8 d9 d11 : Int} {d5 d10 : Bool}  : N8 N [.str r0, .int r1, .int r2, .int r3, .int r4, .int r5, .int r6, .int r7, .bool r8, .int r9, .int r10, .int r11, .int r12, .rows r13, .int d0, .int d1, .int d2, .int d3, .int d4, .bool d5, .int d6, .int d7, .int d8, .int d9, .bool d10, .int d11] = some (A7 (⟨r0, r1, r2, r3, r4, r5, r6, r7, r8, r9, r10, r11, r12, r13⟩ : Rul) (⟨d0, d1, d2, d3, d4, d5, d6, d7, d8, d9, d10, d11⟩ : Del)).ls := by
 show MV (std (Gf N) N) (xOf _) = _
 generalize hres : (some (A7 (⟨r0, r1, r2, r3, r4, r5, r6, r7, r8, r9, r10, r11, r12, r13⟩ : Rul) (⟨d0, d1, d2, d3, d4, d5, d6, d7, d8, d9, d10, d11⟩ : Del)).ls : Option (List PV)) = RR
 simp only [MV, VX, R6, VG, std, xOf, PXb, PXc, PXn, PXm, Nat.reduceAdd, Int.reduceBEq, cV, gy, oB]
 subst hres; simp only [A7, qG]
 cases hl : FJ (⟨d0, d1, d2, d3, d4, d5, d6, d7, d8, d9, d10, d11⟩ : Del) == 0 with
 | false => rfl
 | true =>
  simp only [PXb, PXc, PXn, PXm, Nat.reduceAdd, Int.reduceBEq]
  cases h0 : d0 == 2 <;> cases h3 : d0 == 3 <;> cases h1 : d1 == 1 <;> cases h2 : d1 == 2 <;> cases h4 : d1 == 3 <;> first
   | rfl
   | (rw [Ob h0 (c := 3) rfl] at h3; exact absurd h3 (by decide))
   | (rw [Ob h1 (c := 2) rfl] at h2; exact absurd h2 (by decide))
   | (rw [Ob h1 (c := 3) rfl] at h4; exact absurd h4 (by decide))
   | (rw [Ob h2 (c := 3) rfl] at h4; exact absurd h4 (by decide))
end Go.Px
end
section
namespace Go.Px
set_option maxRecDepth 100000
def onS (h t : Int) : Bool :=
 cond (h == 1 || h == 2 || h == 3) (t == 1) (cond (h == 4 || h == 5) (t == 1 || t == 2) (cond (h == 7) (t == 1 || t == 3) (cond (h == 6 || h == 8) (t == 1 || t == 2 || t == 3) false)))
def ay (h : Int) : Bool := h == 6 || h == 7 || h == 8
def Oi (h : Int) : Bool := h == 6 || h == 8
def UE (h : Int) : Bool := h == 2 || h == 4 || h == 6
theorem l8 {N : Nat} {h : Int}  : I5 N [.int h] = some [.bool (ay h)] := by
 show M3 (std (Vf N) N) (xOf _) = _
 simp only [M3, std, xOf, PXb, PXc, PXn, PXm, Nat.reduceAdd, Int.reduceBEq, ay]
theorem sF {N : Nat} {h : Int} {t : Int}  : SR N [.int h, .int t] = some [.bool (onS h t)] := by
 show Xj (std (f8 N) N) (xOf _) = _
 simp only [Xj, std, xOf, PXb, PXc, PXn, PXm, Nat.reduceAdd, Int.reduceBEq]
 unfold onS
 simp only [Bool.or_assoc, PXb, PXc, PXn, PXm, Nat.reduceAdd, Int.reduceBEq]
theorem gj {N : Nat} {h : Int}  : GQ N [.int h] = some [.bool (UE h), .bool (UE h), .bool (h == 6)] := by
 show J6 (std (Ss N) N) (xOf _) = _
 simp only [J6, std, xOf, PXb, PXc, PXn, PXm, Nat.reduceAdd, Int.reduceBEq, UE]
def Rl (d : Del) (free : Bool) : Int :=
  cond (d.how == 0) (cond (!(d.victim == 0)) 14 (cond (!(d.fielder == 0) || !(d.second == 0) || d.sub) 15 0))
    (cond (!onS d.how d.type || free && !ay d.how) 13 (cond (!Oi d.how && (!(d.source == 0) || !(d.runs == 0))) 12
      (cond (!(d.victim == 1) && !(d.victim == 2 && Oi d.how)) 14
        (cond (UE d.how && !btw d.fielder 1 11 || !UE d.how && !(d.fielder == 0)) 15
          (cond (!(d.second == 0) && (!(d.how == 6) || !btw d.second 1 11 || d.second == d.fielder)) 15
            (cond (d.sub && !(d.how == 2) && !(d.how == 6)) 18 0))))))
theorem ig {N : Nat} {d0 d1 d2 d3 d4 d6 d7 d8 d9 d11 : Int} {d5 d10 : Bool} {f : Bool}  : Jx N [.int d0, .int d1, .int d2, .int d3, .int d4, .bool d5, .int d6, .int d7, .int d8, .int d9, .bool d10, .int d11, .bool f] = some [.int (Rl (⟨d0, d1, d2, d3, d4, d5, d6, d7, d8, d9, d10, d11⟩ : Del) f)] := by
 show J1 (std (El N) N) (xOf _) = _
 generalize hres : (some [.int (Rl (⟨d0, d1, d2, d3, d4, d5, d6, d7, d8, d9, d10, d11⟩ : Del) f)] : Option (List PV)) = RR
 simp only [J1, QQ, WP, RX, std, xOf, PXb, PXc, PXn, PXm, Nat.reduceAdd, Int.reduceBEq, sF, l8, gj]
 subst hres; simp only [Rl, uD, Oi, Bool.not_or, Bool.not_and, Bool.or_assoc]
 cases onS d6 d0 <;> cases f <;> cases ay d6 <;> rfl
def Bg : Rows := match BZ 0 [] with
 | some [.rows l] => l
 | _ => []
theorem RF {N : Nat} : BZ N [] = some [.rows Bg] := rfl
theorem eG : Bg.length = 11 := rfl
theorem ZJ {N : Nat} {h : Int} {n : ByteArray} {b : Bool} {c : Bool} {d : Bool} {e : Bool} {x : Bool} {t : Int}  : De N [.int h, .str n, .bool b, .bool c, .bool d, .bool e, .bool x, .int t] = some [.bool (t == 1 && b || t == 2 && c || t == 3 && d)] := by
 show FZ (std (Np N) N) (xOf _) = _
 simp only [FZ, std, xOf, PXb, PXc, PXn, PXm, Nat.reduceAdd, Int.reduceBEq]
theorem Us {N : Nat} {n : Int}  : Ca N [.int n] = some [.bool (btw n 1 11)] := by
 show DL (std (JV N) N) (xOf _) = _
 simp only [DL, std, xOf, PXb, PXc, PXn, PXm, Nat.reduceAdd, Int.reduceBEq]
 rfl
def pN (i j : Nat) : Bool := pvB (AJ Bg i j)
def wOk (t : Int) (free : Bool) (i : Nat) : Bool :=
  (t == 1 && pN i 2 || t == 2 && pN i 3 || t == 3 && pN i 4) && (!free || atI Bg i 0 == 6 || atI Bg i 0 == 7 || atI Bg i 0 == 8)
def HD (t : Int) (free : Bool) : Nat → Rows
 | 0 => []
 | i + 1 => cond (wOk t free i) (HD t free i ++ [[.int (atI Bg i 0)]]) (HD t free i)
theorem eJ (t : Int) (free : Bool) : ∀ i, (HD t free i).length ≤ i
 | 0 => Nat.le_refl _
 | i + 1 => by
  have := eJ t free i
  unfold HD
  cases wOk t free i
  ·exact Nat.le_succ_of_le this
  ·simp; exact this
theorem eE {N : Nat} {t : Int} {f : Bool} (hN : 2097152 < N) : EO N [.int t, .bool f] = some [.rows (HD t f 11)] := by
 show Hc (std (Fh N) N) (xOf _) = _
 simp only [Hc, Ly, KX, std, xOf, PXb, PXc, PXn, AB, RF, ZJ]
 refine AN (Dq (len := Bg.length) (fun i => [.rows (HD t f i), .int (i : Int)]) [.rows (HD t f 11)] ?_ ?_ N (by rw [eG]; omega)) rfl
 ·intro self
  simp only [PXb, PXc, PXn, AB, Ao]
  rfl
 ·intro i self hi
  have hi2 : i < 11 := hi
  have h2 : (HD t f i ++ [[PV.int (atI Bg i 0)]]).length ≤ 4194304 := by have := eJ t f i; simp; omega
  simp only [PXb, PXc, AB, AR (show i ≤ 1099511627776 by omega), Ai hi, AQ hi, BF, HD, Hd h2 (show 1 ≤ 4096 by omega)]
  unfold wOk pN
  cases ((t == 1 && pvB (AJ Bg i 2) || t == 2 && pvB (AJ Bg i 3) || t == 3 && pvB (AJ Bg i 4)) && (!f || atI Bg i 0 == 6 || atI Bg i 0 == 7 || atI Bg i 0 == 8)) <;> rfl
theorem ZA {N : Nat} {L : Rows} {v : Int} (hN : L.length < N) (hl : L.length ≤ 1048576) : Db N [.rows L, .int v] = some [.int (Ql (fun j => v == atI L j 0) L.length)] := by
 show FX (std (M4 N) N) (xOf _) = _
 simp only [FX, std, xOf, PXb, PXc, PXn, AB]
 refine AN (CO (len := L.length) (Fx fun j => v == atI L j 0) ?_ ?_ L.length 0 N (by omega) (by omega)) ?_
 ·intro self
  simp only [PXb, PXc, PXn, AB, Ao]
 ·intro i self hi
  simp only [PXb, PXc, PXn, AB, AR (show i ≤ 1099511627776 by omega), Ai hi, AQ hi, Fx, BF]
  cases v == atI L i 0 <;> rfl
 ·unfold Ql
  cases B4 (Fx fun j => v == atI L j 0) L.length 0 <;> rfl
theorem Vt {N : Nat} {L : Rows} {v : Int} (hN : L.length < N) (hl : L.length ≤ 1048576) : Ck N [.rows L, .int v] = some [.bool (GR L L.length v)] := by
 show Df (std (E6 N) N) (xOf _) = _
 simp only [Df, IM, std, xOf, PXb, PXc, PXn, AB, ZA hN hl, Jo, GR]
theorem sX (L : Rows) (v : Int) : GR L L.length v = KJ (fun x => v == x) L := rfl
theorem ua (p : Int → Bool) (b : Bool) (L : Rows) (x : Int) : KJ p (cond b (L ++ [[.int x]]) L) = (KJ p L || (b && p x)) := by
 cases b with
 | false => simp
 | true => rw [cond_true, mr, Bool.true_and]; congr 1; rw [O6]; simp [AH, pvI]
theorem ki (t : Int) (free : Bool) (p : Int → Bool) : ∀ i, KJ p (HD t free i) = Aj (fun j => wOk t free j && p (atI Bg j 0)) i 0
 | 0 => rfl
 | i + 1 => by rw [ac, ← ki t free p i, HD, ua, Nat.zero_add]
theorem sv (t h : Int) (free : Bool) : GR (HD t free 11) (HD t free 11).length h = (onS h t && (!free || ay h)) := by
 rw [sX, ki]
 have key : ∀ j, j < 11 → atI Bg j 0 = j := by
  intro j hj
  have : j = 0 ∨ j = 1 ∨ j = 2 ∨ j = 3 ∨ j = 4 ∨ j = 5 ∨ j = 6 ∨ j = 7 ∨ j = 8 ∨ j = 9 ∨ j = 10 := by omega
  rcases this with h | h | h | h | h | h | h | h | h | h | h <;> subst h <;> rfl
 by_cases hr : 0 ≤ h ∧ h ≤ 10
 ·obtain ⟨k, rfl⟩ : ∃ k : Nat, h = k := ⟨h.toNat, by omega⟩
  have : k = 0 ∨ k = 1 ∨ k = 2 ∨ k = 3 ∨ k = 4 ∨ k = 5 ∨ k = 6 ∨ k = 7 ∨ k = 8 ∨ k = 9 ∨ k = 10 := by omega
  rcases this with h | h | h | h | h | h | h | h | h | h | h <;> subst h <;> simp only [BH, HC, wOk, onS] <;> cases free <;> cases t == 1 <;> cases t == 2 <;> cases t == 3 <;> rfl
 ·rw [Fp.2 fun j _ hj => by
   rw [key j (by omega), show (h == (j : Int)) = false from beq_false_of_ne (by omega), Bool.and_false]]
  have e : ∀ n : Int, 0 ≤ n → n ≤ 10 → (h == n) = false := fun n h0 h1 => beq_false_of_ne (by omega)
  unfold onS
  rw [e 1 (by omega) (by omega), e 2 (by omega) (by omega), e 3 (by omega) (by omega), e 4 (by omega) (by omega), e 5 (by omega) (by omega), e 6 (by omega) (by omega), e 7 (by omega) (by omega), e 8 (by omega) (by omega)]
  rfl
def Wd (h : Int) : List PV := match B4 (fun i => cond (atI Bg i 0 == h) (some [.int (pvI (AJ Bg i 0)), .str (pvS (AJ Bg i 1)), .bool (pvB (AJ Bg i 2)), .bool (pvB (AJ Bg i 3)), .bool (pvB (AJ Bg i 4)), .bool (pvB (AJ Bg i 5)), .bool (pvB (AJ Bg i 6))]) none) 11 0 with
 | some r => r
 | none => [.int 0, .str ⟨#[]⟩, .bool false, .bool false, .bool false, .bool false, .bool false]
theorem RK {ans : Nat → Option (List PV)} {r : List PV} : ∀ (k i : Nat), B4 ans k i = some r → ∃ j, i ≤ j ∧ j < i + k ∧ ans j = some r
 | 0, i, h => by cases h
 | k + 1, i, h => by
  simp only [B4] at h
  cases ha : ans i with
  | some x => rw [ha] at h; cases h; exact ⟨i, Nat.le_refl _, by omega, ha⟩
  | none =>
   rw [ha] at h
   obtain ⟨j, h1, h2, h3⟩ := RK k (i + 1) h
   exact ⟨j, by omega, by omega, h3⟩
theorem rm (h : Int) : ∃ a b c d e f g, Wd h = [.int a, .str b, .bool c, .bool d, .bool e, .bool f, .bool g] := by
 unfold Wd
 generalize hf : B4 _ 11 0 = o
 cases o with
 | none => exact ⟨_, _, _, _, _, _, _, rfl⟩
 | some r =>
  obtain ⟨j, _, _, h3⟩ := RK _ _ hf
  cases hb : atI Bg j 0 == h with
  | false => rw [hb] at h3; cases h3
  | true => rw [hb] at h3; cases h3; exact ⟨_, _, _, _, _, _, _, rfl⟩
theorem gt {N : Nat} {h : Int} (hN : 2097152 < N) : Gm N [.int h] = some (Wd h) := by
 show J4 (std (Lx N) N) (xOf _) = _
 simp only [J4, NZ, std, xOf, PXb, PXc, PXn, AB, RF]
 refine AN (CO (len := Bg.length) (fun i => cond (atI Bg i 0 == h) (some [.int (pvI (AJ Bg i 0)), .str (pvS (AJ Bg i 1)), .bool (pvB (AJ Bg i 2)), .bool (pvB (AJ Bg i 3)), .bool (pvB (AJ Bg i 4)), .bool (pvB (AJ Bg i 5)), .bool (pvB (AJ Bg i 6))]) none) ?_ ?_ Bg.length 0 N (by omega) (by rw [eG]; omega)) ?_
 ·intro self
  simp only [PXb, PXc, PXn, AB, Ao]
 ·intro i self hi
  have hi2 : i < 11 := hi
  simp only [PXb, PXc, PXn, AB, AR (show i ≤ 1099511627776 by omega), Ai hi, AQ hi, BF]
  cases atI Bg i 0 == h <;> rfl
 ·unfold Wd
  rw [eG]
  generalize hf : B4 _ 11 0 = o
  cases o with
  | none => rfl
  | some r =>
   obtain ⟨j, _, _, h3⟩ := RK _ _ hf
   cases hb : atI Bg j 0 == h with
   | false => rw [hb] at h3; cases h3
   | true => rw [hb] at h3; cases h3; rfl
theorem qn (h : Int) : pvB (AH (Wd h) 5) = UE h ∧ pvB (AH (Wd h) 6) = Oi h := by
 by_cases hr : 0 ≤ h ∧ h ≤ 10
 ·obtain ⟨k, rfl⟩ : ∃ k : Nat, h = k := ⟨h.toNat, by omega⟩
  have : k = 0 ∨ k = 1 ∨ k = 2 ∨ k = 3 ∨ k = 4 ∨ k = 5 ∨ k = 6 ∨ k = 7 ∨ k = 8 ∨ k = 9 ∨ k = 10 := by omega
  rcases this with h | h | h | h | h | h | h | h | h | h | h <;> subst h <;> exact ⟨rfl, rfl⟩
 ·have e : ∀ n : Int, 0 ≤ n → n ≤ 10 → (h == n) = false := fun n h0 h1 => beq_false_of_ne (by omega)
  have key : ∀ j, j < 11 → atI Bg j 0 = j := by
   intro j hj
   have : j = 0 ∨ j = 1 ∨ j = 2 ∨ j = 3 ∨ j = 4 ∨ j = 5 ∨ j = 6 ∨ j = 7 ∨ j = 8 ∨ j = 9 ∨ j = 10 := by omega
   rcases this with h | h | h | h | h | h | h | h | h | h | h <;> subst h <;> rfl
  unfold Wd
  generalize hf : B4 _ 11 0 = o
  cases o with
  | none =>
   unfold UE Oi
   rw [e 2 (by omega) (by omega), e 4 (by omega) (by omega), e 6 (by omega) (by omega), e 8 (by omega) (by omega)]
   exact ⟨rfl, rfl⟩
  | some r =>
   obtain ⟨j, _, hj, h3⟩ := RK _ _ hf
   rw [key j (by omega), show ((j : Int) == h) = false from beq_false_of_ne (by omega)] at h3
   cases h3
def QN (d : Del) (m : Bool) : Bool :=
 !(!(m == btw d.fielder 1 11) || !m && !(d.fielder == 0)) && (d.second == 0 || d.how == 6 && btw d.second 1 11 && !(d.second == d.fielder))
theorem We {N : Nat} {d0 d1 d2 d3 d4 d6 d7 d8 d9 d11 : Int} {d5 d10 : Bool} {a : Int} {n : ByteArray} {b : Bool} {c : Bool} {e : Bool} {f : Bool} {g : Bool}  : Cu N [.int d0, .int d1, .int d2, .int d3, .int d4, .bool d5, .int d6, .int d7, .int d8, .int d9, .bool d10, .int d11, .int a, .str n, .bool b, .bool c, .bool e, .bool f, .bool g] = some [.bool (QN (⟨d0, d1, d2, d3, d4, d5, d6, d7, d8, d9, d10, d11⟩ : Del) f)] := by
 show D9 (std (Fu N) N) (xOf _) = _
 generalize hres : (some [.bool (QN (⟨d0, d1, d2, d3, d4, d5, d6, d7, d8, d9, d10, d11⟩ : Del) f)] : Option (List PV)) = RR
 simp only [D9, G5, std, xOf, PXb, PXc, PXn, PXm, Nat.reduceAdd, Int.reduceBEq, Us]
 subst hres; simp only [QN]
 cases d9 == 0 <;> cases d6 == 6 <;> cases f <;> cases btw d8 1 11 <;> cases d8 == 0 <;> first | rfl | (cases btw d9 1 11 <;> rfl)
theorem uv {α : Type} (a b : Bool) (x y : α) : cond (a || b) x y = cond a x (cond b x y) := by cases a <;> rfl
theorem nH (d : Del) (m : Bool) : (!QN d m) = ((m && !btw d.fielder 1 11 || !m && !(d.fielder == 0)) || (!(d.second == 0) && (!(d.how == 6) || !btw d.second 1 11 || d.second == d.fielder))) := by
 unfold QN
 cases hb : btw d.fielder 1 11 <;> cases hf : d.fielder == 0
 ·cases m <;> cases d.second == 0 <;> cases d.how == 6 <;> cases btw d.second 1 11 <;> cases d.second == d.fielder <;> rfl
 ·cases m <;> cases d.second == 0 <;> cases d.how == 6 <;> cases btw d.second 1 11 <;> cases d.second == d.fielder <;> rfl
 ·cases m <;> cases d.second == 0 <;> cases d.how == 6 <;> cases btw d.second 1 11 <;> cases d.second == d.fielder <;> rfl
 ·rw [beq_iff_eq.1 hf] at hb; exact absurd hb (by decide)
theorem Xb {N : Nat} {d0 d1 d2 d3 d4 d6 d7 d8 d9 d11 : Int} {d5 d10 : Bool} {f : Bool} (hN : 2097152 < N) : Ct N [.int d0, .int d1, .int d2, .int d3, .int d4, .bool d5, .int d6, .int d7, .int d8, .int d9, .bool d10, .int d11, .bool f] = some [.int (Rl (⟨d0, d1, d2, d3, d4, d5, d6, d7, d8, d9, d10, d11⟩ : Del) f)] := by
 show D6 (std (Bp N) N) (xOf _) = _
 generalize hres : (some [.int (Rl (⟨d0, d1, d2, d3, d4, d5, d6, d7, d8, d9, d10, d11⟩ : Del) f)] : Option (List PV)) = RR
 have hl := eJ d0 f 11
 obtain ⟨a, b, c, d, e, m, g, hline⟩ := rm d6
 have hbits := qn d6
 rw [hline] at hbits
 have hm : m = UE d6 := hbits.1
 have hg : g = Oi d6 := hbits.2
 have h1 : (HD d0 f 11).length < N := by omega
 have h2 : (HD d0 f 11).length ≤ 1048576 := by omega
 simp only [D6, Kk, HE, Jk, H0, std, xOf, PXb, PXc, PXn, PXm, Nat.reduceAdd, Int.reduceBEq, gt hN, hline, eE hN, Vt h1 h2, sv, We, nH]
 subst hres; simp only [Rl, uv]
 rw [hm, hg]
 unfold Oi
 cases d6 == 0 <;> cases onS d6 d0 <;> cases f <;> cases ay d6 <;> try rfl
 all_goals (cases d6 == 6 <;> cases d6 == 8 <;> cases d7 == 2 <;> rfl)
end Go.Px
end
section
namespace Go.Px
set_option maxRecDepth 100000
theorem ZX {N : Nat} {a : Int} {b : Int} {c : Int}  : DR N [.int a, .int b, .int c] = some [.bool (btw a b c)] := by
 show I7 (std (My N) N) (xOf _) = _
 show some [PV.bool (cond (iLe b a) (iLe a c) false)] = _
 rw [Po]; rfl
theorem rt {N : Nat} {a : Int} {b : Int} {c : Int}  : SP N [.int a, .int b, .int c] = some [.bool (btw a b c)] := by
 show eH (std (gI N) N) (xOf _) = _
 show some [PV.bool (cond (iLe b a) (iLe a c) false)] = _
 rw [Po]; rfl
theorem et {N : Nat} {a : Int} {b : Int} {c : Int}  : Fe N [.int a, .int b, .int c] = some [.bool (btw a b c)] := by
 show Mm (std (Q1 N) N) (xOf _) = _
 show some [PV.bool (cond (iLe b a) (iLe a c) false)] = _
 rw [Po]; rfl
theorem ss {N : Nat} {a : Int} {b : Int} {c : Int}  : Su N [.int a, .int b, .int c] = some [.bool (btw a b c)] := by
 show eF (std (gQ N) N) (xOf _) = _
 show some [PV.bool (cond (iLe b a) (iLe a c) false)] = _
 rw [Po]; rfl
def Wz (d : Del) : Int :=
  cond (iLt d.type 1 || iLt 3 d.type || iLt 3 d.source || iLt 10 d.how) 3
    (cond (!btw d.runs 0 7 || !btw d.short 0 d.runs || (!(d.boundary == 0) && !(d.boundary == 4) && !(d.boundary == 6)) || !btw d.victim 0 2 || !btw d.fielder 0 11 || !btw d.second 0 11 || !btw d.sector 0 8) 2 0)
theorem dY {N : Nat} {d0 d1 d2 d3 d4 d6 d7 d8 d9 d11 : Int} {d5 d10 : Bool}  : Ef N [.int d0, .int d1, .int d2, .int d3, .int d4, .bool d5, .int d6, .int d7, .int d8, .int d9, .bool d10, .int d11] = some [.int (Wz (⟨d0, d1, d2, d3, d4, d5, d6, d7, d8, d9, d10, d11⟩ : Del))] := by
 show HV (std (JB N) N) (xOf _) = _
 generalize hres : (some [.int (Wz (⟨d0, d1, d2, d3, d4, d5, d6, d7, d8, d9, d10, d11⟩ : Del))] : Option (List PV)) = RR
 simp only [HV, KS, std, xOf, PXb, PXc, PXn, PXm, Nat.reduceAdd, Int.reduceBEq, ZX]
 subst hres; simp only [Wz]
theorem nU {N : Nat} {d0 d1 d2 d3 d4 d6 d7 d8 d9 d11 : Int} {d5 d10 : Bool}  : Ka N [.int d0, .int d1, .int d2, .int d3, .int d4, .bool d5, .int d6, .int d7, .int d8, .int d9, .bool d10, .int d11] = some [.int (Wz (⟨d0, d1, d2, d3, d4, d5, d6, d7, d8, d9, d10, d11⟩ : Del))] := by
 show PW (std (Qf N) N) (xOf _) = _
 generalize hres : (some [.int (Wz (⟨d0, d1, d2, d3, d4, d5, d6, d7, d8, d9, d10, d11⟩ : Del))] : Option (List PV)) = RR
 simp only [PW, ZV, std, xOf, PXb, PXc, PXn, PXm, Nat.reduceAdd, Int.reduceBEq, rt]
 subst hres; simp only [Wz]
def loS (k : Int) : Int := cond (k == 7) 0 (cond (k == 13) 1 0)
def hiS (k : Int) : Int := cond (k == 7) 11 (cond (k == 13) 99 100000)
theorem iV {N : Nat} {k : Int}  : GJ N [.int k] = some [.int (loS k), .int (hiS k)] := by
 show KB (std (TO N) N) (xOf _) = _
 simp only [KB, std, xOf, PXb, PXc, PXn, PXm, Nat.reduceAdd, Int.reduceBEq]
 unfold loS hiS
 cases k == 7 <;> cases k == 13 <;> rfl
theorem ph {N : Nat} {k : Int}  : N7 N [.int k] = some [.int (loS k), .int (hiS k)] := by
 show R5 (std (Zx N) N) (xOf _) = _
 simp only [R5, std, xOf, PXb, PXc, PXn, PXm, Nat.reduceAdd, Int.reduceBEq]
 unfold loS hiS
 cases k == 7 <;> cases k == 13 <;> rfl
def uS (k : Int) : Bool := k == 1 || k == 12 || k == 14 || k == 11 || k == 13
def uP (k : Int) : Bool := k == 2 || k == 3 || k == 8 || k == 5 || k == 6 || k == 9
def uO (k : Int) : Bool := k == 2
def uY (k : Int) : Bool := k == 1 || k == 12 || k == 14 || k == 5 || k == 6 || k == 9
def uR (k : Int) : Bool := k == 7 || k == 13 || k == 15
def uV (k : Int) : Bool := k == 15
def uB (k : Int) : Bool := k == 4
theorem WU {k : Int} (h : (iLt k 1 || iLt 16 k) = false) : k = 1 ∨ k = 2 ∨ k = 3 ∨ k = 4 ∨ k = 5 ∨ k = 6 ∨ k = 7 ∨ k = 8 ∨ k = 9 ∨ k = 10 ∨ k = 11 ∨ k = 12 ∨ k = 13 ∨ k = 14 ∨ k = 15 ∨ k = 16 := by
 simp only [iLt, Bool.or_eq_false_iff, decide_eq_false_iff_not] at h
 omega
theorem su {k : Int} (h : (iLt k 1 || iLt 16 k) = true) (n : Int) (h1 : 1 ≤ n) (h2 : n ≤ 16) : (k == n) = false := by
 simp only [iLt, Bool.or_eq_true, decide_eq_true_eq] at h
 exact beq_false_of_ne (by omega)
def od : Rows := match FB 0 [] with
 | some [.rows l] => l
 | _ => []
theorem js {N : Nat} : FB N [] = some [.rows od] := rfl
def C4 (k f : Int) : Bool := iLe 0 (Lib.indexByte (pvS (AJ od (IntKind.u8.wrap (k - 1)).toNat 1)).data.toList f.toNat.toUInt8) || (k == 5 && f == 121)
theorem Ys {N : Nat} {s : ByteArray} {f : Int}  : DE N [.str s, .int f] = some [.int (Lib.indexByte s.data.toList f.toNat.toUInt8)] := by
 show Ep (std (GN N) N) (xOf _) = _
 simp only [Ep, G4, std, xOf, PXb, PXc, PXn, PXm, Nat.reduceAdd, Int.reduceBEq, CJ, eu]
theorem ZH {N : Nat} {k : Int} {f : Int} (h : (iLt k 1 || iLt 16 k) = false) : I8 N [.int k, .int f] = some [.bool (C4 k f)] := by
 show Nh (std (Jf N) N) (xOf _) = _
 have hi : iIn (IntKind.u8.wrap (k - 1)) (od.length : Int) = true := by
  rcases WU h with h | h | h | h | h | h | h | h | h | h | h | h | h | h | h | h <;> subst h <;> rfl
 simp only [Nh, NK, S9, std, xOf, PXb, PXc, PXn, PXm, Nat.reduceAdd, Int.reduceBEq, js, Ys, hi, C4]
theorem uJ {k : Int} (h : (iLt k 1 || iLt 16 k) = false) : C4 k 115 = uS k ∧ C4 k 112 = uP k ∧ C4 k 111 = uO k ∧ C4 k 121 = uY k ∧ C4 k 114 = uR k ∧ C4 k 118 = uV k ∧ C4 k 98 = uB k := by
 rcases WU h with h | h | h | h | h | h | h | h | h | h | h | h | h | h | h | h <;> subst h <;> exact ⟨rfl, rfl, rfl, rfl, rfl, rfl, rfl⟩
def kN (d : Del) : Bool := d.type == 0 && (d.source == 0 && (d.runs == 0 && (d.short == 0 && (d.boundary == 0 && (d.crossed == false && (d.how == 0 && (d.victim == 0 && (d.fielder == 0 && (d.second == 0 && (d.sub == false && d.sector == 0))))))))))
def iL (e : Ev) : Bool := (!(e.side == 0) && !uS e.kind) || ((!(e.player == 0) && !uP e.kind) || ((!(e.other == 0) && !uO e.kind) || ((e.yes && !uY e.kind) || ((!(e.runs == 0) && !uR e.kind) || ((!(e.overs == 0) && !uV e.kind) || (!kN e.ball && !uB e.kind))))))
def Zs (e : Ev) : Bool := (!btw e.side 1 2 && uS e.kind) || ((!btw e.player 1 11 && uP e.kind) || ((!btw e.other 1 11 && uO e.kind) || ((!btw e.runs (loS e.kind) (hiS e.kind) && uR e.kind) || (!btw e.overs 0 90 && uV e.kind))))
def evS (e : Ev) : Int := cond (iLt e.kind 1 || iLt 16 e.kind) 3 (cond (iL e) 1 (cond (Zs e) 2 (cond (e.kind == 4) (Wz e.ball) 0)))
def evT (e : Ev) : Rows := [[.int 115, .bool (e.side == 0), .bool (btw e.side 1 2)], [.int 112, .bool (e.player == 0), .bool (btw e.player 1 11)], [.int 111, .bool (e.other == 0), .bool (btw e.other 1 11)], [.int 121, .bool (!e.yes), .bool true], [.int 114, .bool (e.runs == 0), .bool (btw e.runs (loS e.kind) (hiS e.kind))], [.int 118, .bool (e.overs == 0), .bool (btw e.overs 0 90)], [.int 98, .bool (kN e.ball), .bool true]]
theorem Yg {N : Nat} {e0 e1 e2 e3 e5 e6 e7 e8 e9 e10 e11 e13 e14 e15 e16 e18 : Int} {e4 e12 e17 : Bool} (hN : 2097152 < N) : Cz N [.int e0, .int e1, .int e2, .int e3, .bool e4, .int e5, .int e6, .int e7, .int e8, .int e9, .int e10, .int e11, .bool e12, .int e13, .int e14, .int e15, .int e16, .bool e17, .int e18] = some [.int (evS (⟨e0, e1, e2, e3, e4, e5, e6, ⟨e7, e8, e9, e10, e11, e12, e13, e14, e15, e16, e17, e18⟩⟩ : Ev))] := by
 show Hs (std (Di N) N) (xOf _) = _
 generalize hres : (some [.int (evS (⟨e0, e1, e2, e3, e4, e5, e6, ⟨e7, e8, e9, e10, e11, e12, e13, e14, e15, e16, e17, e18⟩⟩ : Ev))] : Option (List PV)) = RR
 cases hk : iLt e0 1 || iLt 16 e0 with
 | true =>
  simp only [Hs, Hy, HA, JZ, DJ, std, xOf, PXb, PXc, AB, hk, ← hres, evS]
 | false =>
  simp only [Hs, Hy, HA, JZ, DJ, std, xOf, PXb, PXc, AB, hk, iV, et]
  subst hres
  obtain ⟨g1, g2, g3, g4, g5, g6, g7⟩ := uJ hk
  refine AN (Bf (len := 7) (fun i => !pvB (AJ (evT (⟨e0, e1, e2, e3, e4, e5, e6, ⟨e7, e8, e9, e10, e11, e12, e13, e14, e15, e16, e17, e18⟩⟩ : Ev)) i 1) && !C4 e0 (pvI (AJ (evT (⟨e0, e1, e2, e3, e4, e5, e6, ⟨e7, e8, e9, e10, e11, e12, e13, e14, e15, e16, e17, e18⟩⟩ : Ev)) i 0))) [.int 1] ?_ ?_ N (by omega)) ?_
  ·intro self
   rfl
  ·intro i self hi
   simp only [PXb, PXc, AB, AR (show i ≤ 1099511627776 by omega), List.length_cons, List.length_nil, Nat.reduceAdd, Ai hi, AQ hi, ZH hk]
   change cond (!pvB (AJ (evT (⟨e0, e1, e2, e3, e4, e5, e6, ⟨e7, e8, e9, e10, e11, e12, e13, e14, e15, e16, e17, e18⟩⟩ : Ev)) i 1) && !(!pvB (AJ (evT (⟨e0, e1, e2, e3, e4, e5, e6, ⟨e7, e8, e9, e10, e11, e12, e13, e14, e15, e16, e17, e18⟩⟩ : Ev)) i 1) && C4 e0 (pvI (AJ (evT (⟨e0, e1, e2, e3, e4, e5, e6, ⟨e7, e8, e9, e10, e11, e12, e13, e14, e15, e16, e17, e18⟩⟩ : Ev)) i 0)))) _ _ = _
   cases pvB (AJ (evT (⟨e0, e1, e2, e3, e4, e5, e6, ⟨e7, e8, e9, e10, e11, e12, e13, e14, e15, e16, e17, e18⟩⟩ : Ev)) i 1) <;> rfl
  ·have a1 : Aj (fun i => !pvB (AJ (evT (⟨e0, e1, e2, e3, e4, e5, e6, ⟨e7, e8, e9, e10, e11, e12, e13, e14, e15, e16, e17, e18⟩⟩ : Ev)) i 1) && !C4 e0 (pvI (AJ (evT (⟨e0, e1, e2, e3, e4, e5, e6, ⟨e7, e8, e9, e10, e11, e12, e13, e14, e15, e16, e17, e18⟩⟩ : Ev)) i 0))) 7 0 = iL (⟨e0, e1, e2, e3, e4, e5, e6, ⟨e7, e8, e9, e10, e11, e12, e13, e14, e15, e16, e17, e18⟩⟩ : Ev) := by
    simp only [BH, HC]
    change (!(e1 == 0) && !C4 e0 115 || (!(e2 == 0) && !C4 e0 112 || (!(e3 == 0) && !C4 e0 111 || (!(!e4) && !C4 e0 121 || (!(e5 == 0) && !C4 e0 114 || (!(e6 == 0) && !C4 e0 118 || (!(kN (⟨e0, e1, e2, e3, e4, e5, e6, ⟨e7, e8, e9, e10, e11, e12, e13, e14, e15, e16, e17, e18⟩⟩ : Ev).ball) && !C4 e0 98 || false))))))) = _
    rw [g1, g2, g3, g4, g5, g6, g7, Bool.not_not, Bool.or_false]
    rfl
   rw [a1]
   simp only [evS, hk, cond_false]
   cases iL (⟨e0, e1, e2, e3, e4, e5, e6, ⟨e7, e8, e9, e10, e11, e12, e13, e14, e15, e16, e17, e18⟩⟩ : Ev) with
   | true => rfl
   | false =>
    simp only [PXb, PXc, AB]
    refine AN (Bf (len := 7) (fun i => !pvB (AJ (evT (⟨e0, e1, e2, e3, e4, e5, e6, ⟨e7, e8, e9, e10, e11, e12, e13, e14, e15, e16, e17, e18⟩⟩ : Ev)) i 2) && C4 e0 (pvI (AJ (evT (⟨e0, e1, e2, e3, e4, e5, e6, ⟨e7, e8, e9, e10, e11, e12, e13, e14, e15, e16, e17, e18⟩⟩ : Ev)) i 0))) [.int 2] ?_ ?_ N (by omega)) ?_
    ·intro self
     rfl
    ·intro i self hi
     simp only [PXb, PXc, AB, AR (show i ≤ 1099511627776 by omega), List.length_cons, List.length_nil, Nat.reduceAdd, Ai hi, AQ hi, ZH hk]
     rfl
    ·have a2 : Aj (fun i => !pvB (AJ (evT (⟨e0, e1, e2, e3, e4, e5, e6, ⟨e7, e8, e9, e10, e11, e12, e13, e14, e15, e16, e17, e18⟩⟩ : Ev)) i 2) && C4 e0 (pvI (AJ (evT (⟨e0, e1, e2, e3, e4, e5, e6, ⟨e7, e8, e9, e10, e11, e12, e13, e14, e15, e16, e17, e18⟩⟩ : Ev)) i 0))) 7 0 = Zs (⟨e0, e1, e2, e3, e4, e5, e6, ⟨e7, e8, e9, e10, e11, e12, e13, e14, e15, e16, e17, e18⟩⟩ : Ev) := by
      simp only [BH, HC]
      change (!(btw e1 1 2) && C4 e0 115 || (!(btw e2 1 11) && C4 e0 112 || (!(btw e3 1 11) && C4 e0 111 || (!true && C4 e0 121 || (!(btw e5 (loS e0) (hiS e0)) && C4 e0 114 || (!(btw e6 0 90) && C4 e0 118 || (!true && C4 e0 98 || false))))))) = _
      rw [g1, g2, g3, g4, g5, g6, g7]
      simp only [Bool.not_true, Bool.false_and, Bool.false_or, Bool.or_false]
      rfl
     rw [a2]
     cases Zs (⟨e0, e1, e2, e3, e4, e5, e6, ⟨e7, e8, e9, e10, e11, e12, e13, e14, e15, e16, e17, e18⟩⟩ : Ev) with
     | true => rfl
     | false =>
      simp only [PXb, PXc, PXn, PXm, Nat.reduceAdd, Int.reduceBEq, DJ, dY]
theorem lS {N : Nat} (k : Int) : Ja N [.int k] = some [.bool (uS k), .bool (uP k), .bool (uO k), .bool (uY k), .bool (uR k), .bool (uV k), .bool (uB k), .bool (!(iLt k 1 || iLt 16 k))] := by
 cases hk : iLt k 1 || iLt 16 k with
 | false => rcases WU hk with h | h | h | h | h | h | h | h | h | h | h | h | h | h | h | h <;> subst h <;> rfl
 | true =>
  have n := su hk
  show Nt (std (WW N) N) (xOf _) = _
  unfold uS uP uO uY uR uV uB
  simp only [Nt, std, xOf, PXb, PXc, PXn, PXm, Nat.reduceAdd, Int.reduceBEq, n 1 (by omega) (by omega), n 2 (by omega) (by omega), n 3 (by omega) (by omega), n 4 (by omega) (by omega), n 5 (by omega) (by omega), n 6 (by omega) (by omega), n 7 (by omega) (by omega), n 8 (by omega) (by omega), n 9 (by omega) (by omega), n 10 (by omega) (by omega), n 11 (by omega) (by omega), n 12 (by omega) (by omega), n 13 (by omega) (by omega), n 14 (by omega) (by omega), n 15 (by omega) (by omega), n 16 (by omega) (by omega)]
theorem c4 {c x x' y y' : Bool} {a b d z z' : Int} (h1 : x = x') (h2 : y = y') (h3 : z = z') : (some [PV.int (cond c a (cond x b (cond y d z)))] : Option (List PV)) = some [PV.int (cond c a (cond x' b (cond y' d z')))] := by subst h1; subst h2; subst h3; rfl
theorem cH {N : Nat} {e0 e1 e2 e3 e5 e6 e7 e8 e9 e10 e11 e13 e14 e15 e16 e18 : Int} {e4 e12 e17 : Bool}  : IG N [.int e0, .int e1, .int e2, .int e3, .bool e4, .int e5, .int e6, .int e7, .int e8, .int e9, .int e10, .int e11, .bool e12, .int e13, .int e14, .int e15, .int e16, .bool e17, .int e18] = some [.int (evS (⟨e0, e1, e2, e3, e4, e5, e6, ⟨e7, e8, e9, e10, e11, e12, e13, e14, e15, e16, e17, e18⟩⟩ : Ev))] := by
 show Pa (std (E9 N) N) (xOf _) = _
 generalize hres : (some [.int (evS (⟨e0, e1, e2, e3, e4, e5, e6, ⟨e7, e8, e9, e10, e11, e12, e13, e14, e15, e16, e17, e18⟩⟩ : Ev))] : Option (List PV)) = RR
 simp only [Pa, VW, Wi, ZN, Vy, std, xOf, PXb, PXc, PXn, PXm, Nat.reduceAdd, Int.reduceBEq, lS, ph, ss, nU]
 subst hres; simp only [evS, iL, Zs, kN]
 refine c4 ?_ ?_ rfl
 ·simp only [Bool.not_and, Bool.or_assoc, Bool.and_comm]
 ·generalize uS e0 = a1
  generalize uP e0 = a2
  generalize uO e0 = a3
  generalize uR e0 = a4
  generalize uV e0 = a5
  generalize btw e1 1 2 = b1
  generalize btw e2 1 11 = b2
  generalize btw e3 1 11 = b3
  generalize btw e5 (loS e0) (hiS e0) = b4
  generalize btw e6 0 90 = b5
  cases a1 <;> cases b1 <;> cases a2 <;> cases b2 <;> try rfl
  all_goals (cases a3 <;> cases b3 <;> cases a4 <;> cases b4 <;> try rfl)
  all_goals (cases a5 <;> cases b5 <;> rfl)
end Go.Px
end
section
namespace Go.Px
set_option maxRecDepth 100000
structure Lens (s t : Inn) : Prop where
 bt : t.batters.length = s.batters.length
 bd : t.bowled.length = s.bowled.length
 sb : t.subs.length = s.subs.length
 bw : t.bowlers.length ≤ s.bowlers.length + 1
 bf : t.before.length ≤ s.before.length + s.bowlers.length + 1
theorem Lens.refl (s : Inn) : Lens s s := ⟨rfl, rfl, rfl, by omega, by omega⟩
theorem P_c {α : Type} {P : α → Prop} (b : Bool) (x y : α) (hx : P x) (hy : P y) : P (cond b x y) := by cases b <;> assumption
theorem dM (s : Inn) (d : Del) : Lens s (CN s d) := by
 have hb : ∀ (b : Bool), (cond b (I1 s.batters s.striker 2) s.batters).length = s.batters.length := fun b => by cases b <;> simp [Lw]
 have hc : ∀ (b : Bool), (cond b (I1 s.batters s.other 2) s.batters).length = s.batters.length := fun b => by cases b <;> simp [Lw]
 unfold CN
 cases (!(d.runs.tmod 2 == 0) != d.crossed) <;> refine P_c _ _ _ ⟨hb _, rfl, rfl, ?_, ?_⟩ (P_c _ _ _ ⟨hc _, rfl, rfl, ?_, ?_⟩ ⟨rfl, rfl, rfl, ?_, ?_⟩) <;> simp <;> omega
theorem Z0 (r : Rul) (s : Inn) (c : Bool) : Lens s (DA r s c).1 := by
 have hl : (cond (GR s.bowlers s.bowlers.length s.bowler) s.bowlers (s.bowlers ++ [[.int s.bowler]])).length ≤ s.bowlers.length + 1 := by
  cases GR s.bowlers s.bowlers.length s.bowler <;> simp
 have hd : (cond c (I1 s.bowled s.bowler (inc (atI s.bowled (ix s.bowler) 0))) s.bowled).length = s.bowled.length := by cases c <;> simp [Lw]
 unfold DA
 refine P_c (P := fun x : Inn × Bool => Lens s x.1) _ _ _ (Lens.refl s) (P_c (P := fun x : Inn × Bool => Lens s x.1) _ _ _ ⟨rfl, hd, rfl, hl, by simp; omega⟩ ⟨rfl, hd, rfl, by simp, ?_⟩)
 simp only
 omega
def lu (a b c d : Int) : Int := cond (!(a == 0)) a (cond (!(b == 0)) b (cond (!(c == 0)) c (cond (!(d == 0)) d 0)))
def Ov (r : Rul) (s : Inn) (d : Del) : Int :=
 cond (EU s.batters s.striker s.other) 6 (cond (s.bowler == 0) 7 (lu (MY r s) (FJ d) (Rl d s.freehit) (NF s d)))
theorem bQ {N : Nat} {r1 r2 r3 r4 r5 r6 r7 r9 r10 r11 r12 : Int} {r8 : Bool} {r0 : ByteArray} {r13 : Rows} {s0 s1 s2 s3 s4 s5 s6 s7 s8 s9 s10 s11 s12 s13 s15 s21 s22 s23 s25 s26 s27 : Int} {s18 s20 : Bool} {s14 s16 s17 s19 s24 : Rows} {d0 d1 d2 d3 d4 d6 d7 d8 d9 d11 : Int} {d5 d10 : Bool} (h : Fit s14 s16 s17 s19 s24) (hN : 2097152 < N) (h13 : r13.length ≤ 1048576) : Dt N [.str r0, .int r1, .int r2, .int r3, .int r4, .int r5, .int r6, .int r7, .bool r8, .int r9, .int r10, .int r11, .int r12, .rows r13, .int s0, .int s1, .int s2, .int s3, .int s4, .int s5, .int s6, .int s7, .int s8, .int s9, .int s10, .int s11, .int s12, .int s13, .rows s14, .int s15, .rows s16, .rows s17, .bool s18, .rows s19, .bool s20, .int s21, .int s22, .int s23, .rows s24, .int s25, .int s26, .int s27, .int d0, .int d1, .int d2, .int d3, .int d4, .bool d5, .int d6, .int d7, .int d8, .int d9, .bool d10, .int d11] = some [.int (Ov (⟨r0, r1, r2, r3, r4, r5, r6, r7, r8, r9, r10, r11, r12, r13⟩ : Rul) (⟨s0, s1, s2, s3, s4, s5, s6, s7, s8, s9, s10, s11, s12, s13, s14, s15, s16, s17, s18, s19, s20, s21, s22, s23, s24, s25, s26, s27⟩ : Inn) (⟨d0, d1, d2, d3, d4, d5, d6, d7, d8, d9, d10, d11⟩ : Del))] := by
 show F9 (std (Bz N) N) (xOf _) = _
 generalize hres : (some [.int (Ov (⟨r0, r1, r2, r3, r4, r5, r6, r7, r8, r9, r10, r11, r12, r13⟩ : Rul) (⟨s0, s1, s2, s3, s4, s5, s6, s7, s8, s9, s10, s11, s12, s13, s14, s15, s16, s17, s18, s19, s20, s21, s22, s23, s24, s25, s26, s27⟩ : Inn) (⟨d0, d1, d2, d3, d4, d5, d6, d7, d8, d9, d10, d11⟩ : Del))] : Option (List PV)) = RR
 simp only [F9, MN, Lj, OC, JC, OJ, std, xOf, PXb, UP h.bt hN, kC h hN h13, SX, Xb hN, jr h]
 subst hres; simp only [Ov]
 cases EU s14 s12 s13 <;> try rfl
 cases s15 == 0 <;> try rfl
 simp only [PXb]
 generalize MY (⟨r0, r1, r2, r3, r4, r5, r6, r7, r8, r9, r10, r11, r12, r13⟩ : Rul) (⟨s0, s1, s2, s3, s4, s5, s6, s7, s8, s9, s10, s11, s12, s13, s14, s15, s16, s17, s18, s19, s20, s21, s22, s23, s24, s25, s26, s27⟩ : Inn) = a
 generalize FJ (⟨d0, d1, d2, d3, d4, d5, d6, d7, d8, d9, d10, d11⟩ : Del) = b
 generalize Rl (⟨d0, d1, d2, d3, d4, d5, d6, d7, d8, d9, d10, d11⟩ : Del) s20 = c
 generalize NF (⟨s0, s1, s2, s3, s4, s5, s6, s7, s8, s9, s10, s11, s12, s13, s14, s15, s16, s17, s18, s19, s20, s21, s22, s23, s24, s25, s26, s27⟩ : Inn) (⟨d0, d1, d2, d3, d4, d5, d6, d7, d8, d9, d10, d11⟩ : Del) = e
 refine AN (CO (len := 4) (fun i => cond (!(atI [[.int a], [.int b], [.int c], [.int e]] i 0 == 0)) (some [.int (atI [[.int a], [.int b], [.int c], [.int e]] i 0)]) none) ?_ ?_ 4 0 N (by omega) (by omega)) ?_
 ·intro self
  rfl
 ·intro i self hi
  simp only [PXb, AR (show i ≤ 1099511627776 by omega), List.length_cons, List.length_nil, Nat.reduceAdd, Ai hi, AQ hi, BF]
  cases atI [[.int a], [.int b], [.int c], [.int e]] i 0 == 0 <;> rfl
 ·refine (XP _).trans (congrArg (fun z => some [PV.int z]) ?_)
  unfold lu
  simp only [B4]
  rw [show atI [[.int a], [.int b], [.int c], [.int e]] 0 0 = a from rfl, show atI [[.int a], [.int b], [.int c], [.int e]] (0 + 1) 0 = b from rfl, show atI [[.int a], [.int b], [.int c], [.int e]] (0 + 1 + 1) 0 = c from rfl, show atI [[.int a], [.int b], [.int c], [.int e]] (0 + 1 + 1 + 1) 0 = e from rfl]
  cases a == 0 <;> try rfl
  cases b == 0 <;> try rfl
  cases c == 0 <;> try rfl
  cases e == 0 <;> rfl
theorem Ky {s t : Inn} (l : Lens s t) (h : s.Fit) (hw : s.before.length + s.bowlers.length ≤ 1048575) : t.Fit := ⟨l.bt ▸ h.bt, by have := l.bw; omega, by have := l.bf; omega, l.bd ▸ h.bd, l.sb ▸ h.sb⟩
theorem lT (s : Inn) (d : Del) : (CN s d).bowlers = s.bowlers := by
 unfold CN
 cases (!(d.runs.tmod 2 == 0) != d.crossed) <;> exact P_c (P := fun x : Inn => x.bowlers = s.bowlers) _ _ _ rfl (P_c (P := fun x : Inn => x.bowlers = s.bowlers) _ _ _ rfl rfl)
theorem ko (s : Inn) (d : Del) : (CN s d).before = s.before := by
 unfold CN
 cases (!(d.runs.tmod 2 == 0) != d.crossed) <;> exact P_c (P := fun x : Inn => x.before = s.before) _ _ _ rfl (P_c (P := fun x : Inn => x.before = s.before) _ _ _ rfl rfl)
@[reducible] def XX (t : Inn) (a b e f g : Int) : Inn := ⟨t.side, t.target, t.overs, a, t.wickets, b, e, f, g, t.pens, t.complete, t.inover, t.striker, t.other, t.batters, t.bowler, t.bowlers, t.before, t.fresh, t.bowled, t.freehit, t.ballage, t.keeper, t.outside, t.subs, t.rev1, t.rev2, t.ending⟩
def Rs (r : Rul) (s : Inn) (d : Del) : Inn × Int :=
  cond (!(Ov r s d == 0)) (s, Ov r s d)
    (let c := A7 r d
     let t := CN s d
     let o := DA r (XX t (IntKind.i64.wrap (t.runs + fQ c)) (IntKind.i64.wrap (t.wides + c.wides)) (IntKind.i64.wrap (t.noballs + c.noballs)) (IntKind.i64.wrap (t.byes + c.byes)) (IntKind.i64.wrap (t.legbyes + c.legbyes))) c.counts
     let t : Inn := cond o.2 (bC o.1) o.1
     ({ t with freehit := cond (d.type == 1) false (cond (d.type == 3 && r.freehit) true o.1.freehit) }, 0))
theorem iY {N : Nat} {r1 r2 r3 r4 r5 r6 r7 r9 r10 r11 r12 : Int} {r8 : Bool} {r0 : ByteArray} {r13 : Rows} {s0 s1 s2 s3 s4 s5 s6 s7 s8 s9 s10 s11 s12 s13 s15 s21 s22 s23 s25 s26 s27 : Int} {s18 s20 : Bool} {s14 s16 s17 s19 s24 : Rows} {d0 d1 d2 d3 d4 d6 d7 d8 d9 d11 : Int} {d5 d10 : Bool} (h : Fit s14 s16 s17 s19 s24) (hw : s17.length + s16.length ≤ 1000000) (hN : 2097152 < N) (hs : r0.size ≤ 1048576) (h13 : r13.length ≤ 1048576) : GZ N [.str r0, .int r1, .int r2, .int r3, .int r4, .int r5, .int r6, .int r7, .bool r8, .int r9, .int r10, .int r11, .int r12, .rows r13, .int s0, .int s1, .int s2, .int s3, .int s4, .int s5, .int s6, .int s7, .int s8, .int s9, .int s10, .int s11, .int s12, .int s13, .rows s14, .int s15, .rows s16, .rows s17, .bool s18, .rows s19, .bool s20, .int s21, .int s22, .int s23, .rows s24, .int s25, .int s26, .int s27, .int d0, .int d1, .int d2, .int d3, .int d4, .bool d5, .int d6, .int d7, .int d8, .int d9, .bool d10, .int d11] = some (AW (Rs (⟨r0, r1, r2, r3, r4, r5, r6, r7, r8, r9, r10, r11, r12, r13⟩ : Rul) (⟨s0, s1, s2, s3, s4, s5, s6, s7, s8, s9, s10, s11, s12, s13, s14, s15, s16, s17, s18, s19, s20, s21, s22, s23, s24, s25, s26, s27⟩ : Inn) (⟨d0, d1, d2, d3, d4, d5, d6, d7, d8, d9, d10, d11⟩ : Del))) := by
 show KA (std (Bh N) N) (xOf _) = _
 generalize hres : (some (AW (Rs (⟨r0, r1, r2, r3, r4, r5, r6, r7, r8, r9, r10, r11, r12, r13⟩ : Rul) (⟨s0, s1, s2, s3, s4, s5, s6, s7, s8, s9, s10, s11, s12, s13, s14, s15, s16, s17, s18, s19, s20, s21, s22, s23, s24, s25, s26, s27⟩ : Inn) (⟨d0, d1, d2, d3, d4, d5, d6, d7, d8, d9, d10, d11⟩ : Del))) : Option (List PV)) = RR
 have l1 := dM (⟨s0, s1, s2, s3, s4, s5, s6, s7, s8, s9, s10, s11, s12, s13, s14, s15, s16, s17, s18, s19, s20, s21, s22, s23, s24, s25, s26, s27⟩ : Inn) (⟨d0, d1, d2, d3, d4, d5, d6, d7, d8, d9, d10, d11⟩ : Del)
 have f1 := Ky l1 h (by simp only; omega)
 have w1 : (CN (⟨s0, s1, s2, s3, s4, s5, s6, s7, s8, s9, s10, s11, s12, s13, s14, s15, s16, s17, s18, s19, s20, s21, s22, s23, s24, s25, s26, s27⟩ : Inn) (⟨d0, d1, d2, d3, d4, d5, d6, d7, d8, d9, d10, d11⟩ : Del)).bowlers.length = s16.length := congrArg List.length (lT _ _)
 have w2 : (CN (⟨s0, s1, s2, s3, s4, s5, s6, s7, s8, s9, s10, s11, s12, s13, s14, s15, s16, s17, s18, s19, s20, s21, s22, s23, s24, s25, s26, s27⟩ : Inn) (⟨d0, d1, d2, d3, d4, d5, d6, d7, d8, d9, d10, d11⟩ : Del)).before.length = s17.length := congrArg List.length (ko _ _)
 have l2 := fun (x : Rul) (c : Bool) (a b e f g : Int) => Z0 x (XX (CN (⟨s0, s1, s2, s3, s4, s5, s6, s7, s8, s9, s10, s11, s12, s13, s14, s15, s16, s17, s18, s19, s20, s21, s22, s23, s24, s25, s26, s27⟩ : Inn) (⟨d0, d1, d2, d3, d4, d5, d6, d7, d8, d9, d10, d11⟩ : Del)) a b e f g) c
 have f2 := fun (x : Rul) (c : Bool) (a b e f g : Int) => Ky (l2 x c a b e f g) f1 (show (CN (⟨s0, s1, s2, s3, s4, s5, s6, s7, s8, s9, s10, s11, s12, s13, s14, s15, s16, s17, s18, s19, s20, s21, s22, s23, s24, s25, s26, s27⟩ : Inn) (⟨d0, d1, d2, d3, d4, d5, d6, d7, d8, d9, d10, d11⟩ : Del)).before.length + (CN (⟨s0, s1, s2, s3, s4, s5, s6, s7, s8, s9, s10, s11, s12, s13, s14, s15, s16, s17, s18, s19, s20, s21, s22, s23, s24, s25, s26, s27⟩ : Inn) (⟨d0, d1, d2, d3, d4, d5, d6, d7, d8, d9, d10, d11⟩ : Del)).bowlers.length ≤ 1048575 by omega)
 simp only [KA, Ox, OI, Mf, NG, RL, Rd, O0, std, xOf, PXb, PXc, PXn, PXm, Nat.reduceAdd, Int.reduceBEq, bQ h hN h13, B1 h, Q5, kV h, dq, Cre.ls, mf f1 (show (CN (⟨s0, s1, s2, s3, s4, s5, s6, s7, s8, s9, s10, s11, s12, s13, s14, s15, s16, s17, s18, s19, s20, s21, s22, s23, s24, s25, s26, s27⟩ : Inn) (⟨d0, d1, d2, d3, d4, d5, d6, d7, d8, d9, d10, d11⟩ : Del)).bowlers.length ≤ 1048575 by omega) hN hs, hZ, fp (f2 _ _ _ _ _ _ _)]
 subst hres; simp only [Rs, XX]
 cases Ov (⟨r0, r1, r2, r3, r4, r5, r6, r7, r8, r9, r10, r11, r12, r13⟩ : Rul) (⟨s0, s1, s2, s3, s4, s5, s6, s7, s8, s9, s10, s11, s12, s13, s14, s15, s16, s17, s18, s19, s20, s21, s22, s23, s24, s25, s26, s27⟩ : Inn) (⟨d0, d1, d2, d3, d4, d5, d6, d7, d8, d9, d10, d11⟩ : Del) == 0 with
 | false => rfl
 | true =>
  obtain ⟨o, ho⟩ : ∃ o, o = DA (⟨r0, r1, r2, r3, r4, r5, r6, r7, r8, r9, r10, r11, r12, r13⟩ : Rul) (XX (CN (⟨s0, s1, s2, s3, s4, s5, s6, s7, s8, s9, s10, s11, s12, s13, s14, s15, s16, s17, s18, s19, s20, s21, s22, s23, s24, s25, s26, s27⟩ : Inn) (⟨d0, d1, d2, d3, d4, d5, d6, d7, d8, d9, d10, d11⟩ : Del)) (IntKind.i64.wrap ((CN (⟨s0, s1, s2, s3, s4, s5, s6, s7, s8, s9, s10, s11, s12, s13, s14, s15, s16, s17, s18, s19, s20, s21, s22, s23, s24, s25, s26, s27⟩ : Inn) (⟨d0, d1, d2, d3, d4, d5, d6, d7, d8, d9, d10, d11⟩ : Del)).runs + fQ (A7 (⟨r0, r1, r2, r3, r4, r5, r6, r7, r8, r9, r10, r11, r12, r13⟩ : Rul) (⟨d0, d1, d2, d3, d4, d5, d6, d7, d8, d9, d10, d11⟩ : Del)))) (IntKind.i64.wrap ((CN (⟨s0, s1, s2, s3, s4, s5, s6, s7, s8, s9, s10, s11, s12, s13, s14, s15, s16, s17, s18, s19, s20, s21, s22, s23, s24, s25, s26, s27⟩ : Inn) (⟨d0, d1, d2, d3, d4, d5, d6, d7, d8, d9, d10, d11⟩ : Del)).wides + (A7 (⟨r0, r1, r2, r3, r4, r5, r6, r7, r8, r9, r10, r11, r12, r13⟩ : Rul) (⟨d0, d1, d2, d3, d4, d5, d6, d7, d8, d9, d10, d11⟩ : Del)).wides)) (IntKind.i64.wrap ((CN (⟨s0, s1, s2, s3, s4, s5, s6, s7, s8, s9, s10, s11, s12, s13, s14, s15, s16, s17, s18, s19, s20, s21, s22, s23, s24, s25, s26, s27⟩ : Inn) (⟨d0, d1, d2, d3, d4, d5, d6, d7, d8, d9, d10, d11⟩ : Del)).noballs + (A7 (⟨r0, r1, r2, r3, r4, r5, r6, r7, r8, r9, r10, r11, r12, r13⟩ : Rul) (⟨d0, d1, d2, d3, d4, d5, d6, d7, d8, d9, d10, d11⟩ : Del)).noballs)) (IntKind.i64.wrap ((CN (⟨s0, s1, s2, s3, s4, s5, s6, s7, s8, s9, s10, s11, s12, s13, s14, s15, s16, s17, s18, s19, s20, s21, s22, s23, s24, s25, s26, s27⟩ : Inn) (⟨d0, d1, d2, d3, d4, d5, d6, d7, d8, d9, d10, d11⟩ : Del)).byes + (A7 (⟨r0, r1, r2, r3, r4, r5, r6, r7, r8, r9, r10, r11, r12, r13⟩ : Rul) (⟨d0, d1, d2, d3, d4, d5, d6, d7, d8, d9, d10, d11⟩ : Del)).byes)) (IntKind.i64.wrap ((CN (⟨s0, s1, s2, s3, s4, s5, s6, s7, s8, s9, s10, s11, s12, s13, s14, s15, s16, s17, s18, s19, s20, s21, s22, s23, s24, s25, s26, s27⟩ : Inn) (⟨d0, d1, d2, d3, d4, d5, d6, d7, d8, d9, d10, d11⟩ : Del)).legbyes + (A7 (⟨r0, r1, r2, r3, r4, r5, r6, r7, r8, r9, r10, r11, r12, r13⟩ : Rul) (⟨d0, d1, d2, d3, d4, d5, d6, d7, d8, d9, d10, d11⟩ : Del)).legbyes))) (A7 (⟨r0, r1, r2, r3, r4, r5, r6, r7, r8, r9, r10, r11, r12, r13⟩ : Rul) (⟨d0, d1, d2, d3, d4, d5, d6, d7, d8, d9, d10, d11⟩ : Del)).counts := ⟨_, rfl⟩
  simp only [XX, fQ] at ho ⊢
  simp only [← ho]
  obtain ⟨o1, o2⟩ := o
  cases o2 <;> cases d0 == 1 <;> cases d0 == 3 <;> cases r8 <;> rfl
theorem mU (r : Rul) (s : Inn) (b : Bool) (a c d e f : Int) : DA r (XX s a c d e f) b = (XX (DA r s b).1 a c d e f, (DA r s b).2) := by
 unfold DA XX
 simp only
 cases (!inR s.bowler s.bowled.length || !(Az r == 0)) with
 | true => rfl
 | false =>
  simp only [cond_false]
  cases iLt (cond b (inc s.inover) s.inover) r.balls <;> rfl
theorem qS (r : Rul) (s : Inn) (b : Bool) : (DA r s b).1.runs = s.runs ∧ (DA r s b).1.wides = s.wides ∧ (DA r s b).1.noballs = s.noballs ∧ (DA r s b).1.byes = s.byes ∧ (DA r s b).1.legbyes = s.legbyes := by
  unfold DA
  exact P_c (P := fun x : Inn × Bool => x.1.runs = s.runs ∧ x.1.wides = s.wides ∧ x.1.noballs = s.noballs ∧ x.1.byes = s.byes ∧ x.1.legbyes = s.legbyes) _ _ _ ⟨rfl, rfl, rfl, rfl, rfl⟩
    (P_c (P := fun x : Inn × Bool => x.1.runs = s.runs ∧ x.1.wides = s.wides ∧ x.1.noballs = s.noballs ∧ x.1.byes = s.byes ∧ x.1.legbyes = s.legbyes) _ _ _ ⟨rfl, rfl, rfl, rfl, rfl⟩ ⟨rfl, rfl, rfl, rfl, rfl⟩)
theorem pw {N : Nat} {r1 r2 r3 r4 r5 r6 r7 r9 r10 r11 r12 : Int} {r8 : Bool} {r0 : ByteArray} {r13 : Rows} {s0 s1 s2 s3 s4 s5 s6 s7 s8 s9 s10 s11 s12 s13 s15 s21 s22 s23 s25 s26 s27 : Int} {s18 s20 : Bool} {s14 s16 s17 s19 s24 : Rows} {d0 d1 d2 d3 d4 d6 d7 d8 d9 d11 : Int} {d5 d10 : Bool} (h : Fit s14 s16 s17 s19 s24) (hw : s17.length + s16.length ≤ 1000000) (hN : 2097152 < N) (hs : r0.size ≤ 1048576) (h13 : r13.length ≤ 1048576) : Nk N [.str r0, .int r1, .int r2, .int r3, .int r4, .int r5, .int r6, .int r7, .bool r8, .int r9, .int r10, .int r11, .int r12, .rows r13, .int s0, .int s1, .int s2, .int s3, .int s4, .int s5, .int s6, .int s7, .int s8, .int s9, .int s10, .int s11, .int s12, .int s13, .rows s14, .int s15, .rows s16, .rows s17, .bool s18, .rows s19, .bool s20, .int s21, .int s22, .int s23, .rows s24, .int s25, .int s26, .int s27, .int d0, .int d1, .int d2, .int d3, .int d4, .bool d5, .int d6, .int d7, .int d8, .int d9, .bool d10, .int d11] = some (AW (Rs (⟨r0, r1, r2, r3, r4, r5, r6, r7, r8, r9, r10, r11, r12, r13⟩ : Rul) (⟨s0, s1, s2, s3, s4, s5, s6, s7, s8, s9, s10, s11, s12, s13, s14, s15, s16, s17, s18, s19, s20, s21, s22, s23, s24, s25, s26, s27⟩ : Inn) (⟨d0, d1, d2, d3, d4, d5, d6, d7, d8, d9, d10, d11⟩ : Del))) := by
 show N0 (std (BD N) N) (xOf _) = _
 generalize hres : (some (AW (Rs (⟨r0, r1, r2, r3, r4, r5, r6, r7, r8, r9, r10, r11, r12, r13⟩ : Rul) (⟨s0, s1, s2, s3, s4, s5, s6, s7, s8, s9, s10, s11, s12, s13, s14, s15, s16, s17, s18, s19, s20, s21, s22, s23, s24, s25, s26, s27⟩ : Inn) (⟨d0, d1, d2, d3, d4, d5, d6, d7, d8, d9, d10, d11⟩ : Del))) : Option (List PV)) = RR
 have l1 := dM (⟨s0, s1, s2, s3, s4, s5, s6, s7, s8, s9, s10, s11, s12, s13, s14, s15, s16, s17, s18, s19, s20, s21, s22, s23, s24, s25, s26, s27⟩ : Inn) (⟨d0, d1, d2, d3, d4, d5, d6, d7, d8, d9, d10, d11⟩ : Del)
 have f1 := Ky l1 h (by simp only; omega)
 have w1 : (CN (⟨s0, s1, s2, s3, s4, s5, s6, s7, s8, s9, s10, s11, s12, s13, s14, s15, s16, s17, s18, s19, s20, s21, s22, s23, s24, s25, s26, s27⟩ : Inn) (⟨d0, d1, d2, d3, d4, d5, d6, d7, d8, d9, d10, d11⟩ : Del)).bowlers.length = s16.length := congrArg List.length (lT _ _)
 have w2 : (CN (⟨s0, s1, s2, s3, s4, s5, s6, s7, s8, s9, s10, s11, s12, s13, s14, s15, s16, s17, s18, s19, s20, s21, s22, s23, s24, s25, s26, s27⟩ : Inn) (⟨d0, d1, d2, d3, d4, d5, d6, d7, d8, d9, d10, d11⟩ : Del)).before.length = s17.length := congrArg List.length (ko _ _)
 have l2 := fun (x : Rul) (c : Bool) => Z0 x (CN (⟨s0, s1, s2, s3, s4, s5, s6, s7, s8, s9, s10, s11, s12, s13, s14, s15, s16, s17, s18, s19, s20, s21, s22, s23, s24, s25, s26, s27⟩ : Inn) (⟨d0, d1, d2, d3, d4, d5, d6, d7, d8, d9, d10, d11⟩ : Del)) c
 have f2 := fun (x : Rul) (c : Bool) => Ky (l2 x c) f1 (show (CN (⟨s0, s1, s2, s3, s4, s5, s6, s7, s8, s9, s10, s11, s12, s13, s14, s15, s16, s17, s18, s19, s20, s21, s22, s23, s24, s25, s26, s27⟩ : Inn) (⟨d0, d1, d2, d3, d4, d5, d6, d7, d8, d9, d10, d11⟩ : Del)).before.length + (CN (⟨s0, s1, s2, s3, s4, s5, s6, s7, s8, s9, s10, s11, s12, s13, s14, s15, s16, s17, s18, s19, s20, s21, s22, s23, s24, s25, s26, s27⟩ : Inn) (⟨d0, d1, d2, d3, d4, d5, d6, d7, d8, d9, d10, d11⟩ : Del)).bowlers.length ≤ 1048575 by omega)
 simp only [N0, Vz, WR, Wt, Wb, TT, Xe, Zk, Yw, WG, XO, std, xOf, PXb, PXc, PXn, PXm, Nat.reduceAdd, Int.reduceBEq, Y8 h.bt hN, oC h hN h13, cV, ig, oA h, kf, q0 h, oI, Cre.ls, pz f1 (show (CN (⟨s0, s1, s2, s3, s4, s5, s6, s7, s8, s9, s10, s11, s12, s13, s14, s15, s16, s17, s18, s19, s20, s21, s22, s23, s24, s25, s26, s27⟩ : Inn) (⟨d0, d1, d2, d3, d4, d5, d6, d7, d8, d9, d10, d11⟩ : Del)).bowlers.length ≤ 1048575 by omega) hN hs, hZ, ZL (f2 _ _)]
 subst hres; simp only [Rs, Ov, lu, mU]
 cases EU s14 s12 s13 <;> try rfl
 cases s15 == 0 <;> try rfl
 cases h1 : MY (⟨r0, r1, r2, r3, r4, r5, r6, r7, r8, r9, r10, r11, r12, r13⟩ : Rul) (⟨s0, s1, s2, s3, s4, s5, s6, s7, s8, s9, s10, s11, s12, s13, s14, s15, s16, s17, s18, s19, s20, s21, s22, s23, s24, s25, s26, s27⟩ : Inn) == 0 <;> (try (simp only [h1, PXb, PXc, PXn, PXm, Nat.reduceAdd, Int.reduceBEq]; done))
 cases h2 : FJ (⟨d0, d1, d2, d3, d4, d5, d6, d7, d8, d9, d10, d11⟩ : Del) == 0 <;> (try (simp only [h2, PXb, PXc, PXn, PXm, Nat.reduceAdd, Int.reduceBEq]; done))
 cases h3 : Rl (⟨d0, d1, d2, d3, d4, d5, d6, d7, d8, d9, d10, d11⟩ : Del) s20 == 0 <;> (try (simp only [h3, PXb, PXc, PXn, PXm, Nat.reduceAdd, Int.reduceBEq]; done))
 cases h4 : NF (⟨s0, s1, s2, s3, s4, s5, s6, s7, s8, s9, s10, s11, s12, s13, s14, s15, s16, s17, s18, s19, s20, s21, s22, s23, s24, s25, s26, s27⟩ : Inn) (⟨d0, d1, d2, d3, d4, d5, d6, d7, d8, d9, d10, d11⟩ : Del) == 0 <;> (try (simp only [h4, PXb, PXc, PXn, PXm, Nat.reduceAdd, Int.reduceBEq]; done))
 have k := qS (⟨r0, r1, r2, r3, r4, r5, r6, r7, r8, r9, r10, r11, r12, r13⟩ : Rul) (CN (⟨s0, s1, s2, s3, s4, s5, s6, s7, s8, s9, s10, s11, s12, s13, s14, s15, s16, s17, s18, s19, s20, s21, s22, s23, s24, s25, s26, s27⟩ : Inn) (⟨d0, d1, d2, d3, d4, d5, d6, d7, d8, d9, d10, d11⟩ : Del)) (A7 (⟨r0, r1, r2, r3, r4, r5, r6, r7, r8, r9, r10, r11, r12, r13⟩ : Rul) (⟨d0, d1, d2, d3, d4, d5, d6, d7, d8, d9, d10, d11⟩ : Del)).counts
 obtain ⟨o, ho⟩ : ∃ o, o = DA (⟨r0, r1, r2, r3, r4, r5, r6, r7, r8, r9, r10, r11, r12, r13⟩ : Rul) (CN (⟨s0, s1, s2, s3, s4, s5, s6, s7, s8, s9, s10, s11, s12, s13, s14, s15, s16, s17, s18, s19, s20, s21, s22, s23, s24, s25, s26, s27⟩ : Inn) (⟨d0, d1, d2, d3, d4, d5, d6, d7, d8, d9, d10, d11⟩ : Del)) (A7 (⟨r0, r1, r2, r3, r4, r5, r6, r7, r8, r9, r10, r11, r12, r13⟩ : Rul) (⟨d0, d1, d2, d3, d4, d5, d6, d7, d8, d9, d10, d11⟩ : Del)).counts := ⟨_, rfl⟩
 simp only [← ho, XX, fQ] at k ⊢
 obtain ⟨o1, o2⟩ := o
 obtain ⟨k1, k2, k3, k4, k5⟩ := k
 simp only at k1 k2 k3 k4 k5
 simp only [← k1, ← k2, ← k3, ← k4, ← k5]
 cases o2 <;> cases d0 == 1 <;> cases d0 == 3 <;> cases r8 <;> rfl
def Lr (r : Rul) (s : Inn) (side : Int) : Inn × Int := cond (!(side == s.side)) (s, 2) (cond (!(r.overs == 0)) (s, 20) ({ s with ending := 4 }, 0))
theorem bW {N : Nat} {r1 r2 r3 r4 r5 r6 r7 r9 r10 r11 r12 : Int} {r8 : Bool} {r0 : ByteArray} {r13 : Rows} {s0 s1 s2 s3 s4 s5 s6 s7 s8 s9 s10 s11 s12 s13 s15 s21 s22 s23 s25 s26 s27 : Int} {s18 s20 : Bool} {s14 s16 s17 s19 s24 : Rows} {e0 e1 e2 e3 e5 e6 e7 e8 e9 e10 e11 e13 e14 e15 e16 e18 : Int} {e4 e12 e17 : Bool} (h : Fit s14 s16 s17 s19 s24) : D4 N [.str r0, .int r1, .int r2, .int r3, .int r4, .int r5, .int r6, .int r7, .bool r8, .int r9, .int r10, .int r11, .int r12, .rows r13, .int s0, .int s1, .int s2, .int s3, .int s4, .int s5, .int s6, .int s7, .int s8, .int s9, .int s10, .int s11, .int s12, .int s13, .rows s14, .int s15, .rows s16, .rows s17, .bool s18, .rows s19, .bool s20, .int s21, .int s22, .int s23, .rows s24, .int s25, .int s26, .int s27, .int e0, .int e1, .int e2, .int e3, .bool e4, .int e5, .int e6, .int e7, .int e8, .int e9, .int e10, .int e11, .bool e12, .int e13, .int e14, .int e15, .int e16, .bool e17, .int e18] = some (AW (Lr (⟨r0, r1, r2, r3, r4, r5, r6, r7, r8, r9, r10, r11, r12, r13⟩ : Rul) (⟨s0, s1, s2, s3, s4, s5, s6, s7, s8, s9, s10, s11, s12, s13, s14, s15, s16, s17, s18, s19, s20, s21, s22, s23, s24, s25, s26, s27⟩ : Inn) e1)) := by
 show F7 (std (IU N) N) (xOf _) = _
 generalize hres : (some (AW (Lr (⟨r0, r1, r2, r3, r4, r5, r6, r7, r8, r9, r10, r11, r12, r13⟩ : Rul) (⟨s0, s1, s2, s3, s4, s5, s6, s7, s8, s9, s10, s11, s12, s13, s14, s15, s16, s17, s18, s19, s20, s21, s22, s23, s24, s25, s26, s27⟩ : Inn) e1)) : Option (List PV)) = RR
 simp only [F7, MO, std, xOf, PXb, PXc, PXn, PXm, Nat.reduceAdd, Int.reduceBEq, B1 h]
 subst hres; simp only [Lr]
 cases e1 == s0 <;> cases r3 == 0 <;> rfl
def NE (s : Inn) : Inn := { s with runs := IntKind.i64.wrap (s.runs + 5), pens := IntKind.i64.wrap (s.pens + 5) }
theorem Q8 {N : Nat} {s0 s1 s2 s3 s4 s5 s6 s7 s8 s9 s10 s11 s12 s13 s15 s21 s22 s23 s25 s26 s27 : Int} {s18 s20 : Bool} {s14 s16 s17 s19 s24 : Rows} (h : Fit s14 s16 s17 s19 s24) : Bw N [.int s0, .int s1, .int s2, .int s3, .int s4, .int s5, .int s6, .int s7, .int s8, .int s9, .int s10, .int s11, .int s12, .int s13, .rows s14, .int s15, .rows s16, .rows s17, .bool s18, .rows s19, .bool s20, .int s21, .int s22, .int s23, .rows s24, .int s25, .int s26, .int s27] = some (NE (⟨s0, s1, s2, s3, s4, s5, s6, s7, s8, s9, s10, s11, s12, s13, s14, s15, s16, s17, s18, s19, s20, s21, s22, s23, s24, s25, s26, s27⟩ : Inn)).ls := by
 show F5 (std (IV N) N) (xOf _) = _
 generalize hres : (some (NE (⟨s0, s1, s2, s3, s4, s5, s6, s7, s8, s9, s10, s11, s12, s13, s14, s15, s16, s17, s18, s19, s20, s21, s22, s23, s24, s25, s26, s27⟩ : Inn)).ls : Option (List PV)) = RR
 simp only [F5, MR, std, xOf, PXb, PXc, PXn, PXm, Nat.reduceAdd, Int.reduceBEq, B1 h]
 subst hres; simp only [NE]
 rfl
theorem X8 {N : Nat} {s0 s1 s2 s3 s4 s5 s6 s7 s8 s9 s10 s11 s12 s13 s15 s21 s22 s23 s25 s26 s27 : Int} {s18 s20 : Bool} {s14 s16 s17 s19 s24 : Rows} (h : Fit s14 s16 s17 s19 s24) : E7 N [.int s0, .int s1, .int s2, .int s3, .int s4, .int s5, .int s6, .int s7, .int s8, .int s9, .int s10, .int s11, .int s12, .int s13, .rows s14, .int s15, .rows s16, .rows s17, .bool s18, .rows s19, .bool s20, .int s21, .int s22, .int s23, .rows s24, .int s25, .int s26, .int s27] = some (NE (⟨s0, s1, s2, s3, s4, s5, s6, s7, s8, s9, s10, s11, s12, s13, s14, s15, s16, s17, s18, s19, s20, s21, s22, s23, s24, s25, s26, s27⟩ : Inn)).ls := by
 show K5 (std (NN N) N) (xOf _) = _
 generalize hres : (some (NE (⟨s0, s1, s2, s3, s4, s5, s6, s7, s8, s9, s10, s11, s12, s13, s14, s15, s16, s17, s18, s19, s20, s21, s22, s23, s24, s25, s26, s27⟩ : Inn)).ls : Option (List PV)) = RR
 simp only [K5, Ta, std, xOf, PXb, PXc, PXn, PXm, Nat.reduceAdd, Int.reduceBEq, Uv h]
 subst hres; simp only [NE]
 rfl
def Le (s : Inn) (side runs : Int) : Inn × Int :=
 cond (!(runs == 5)) (s, 23) (cond (side == s.side) (NE s, 0) ({ s with target := cond (iLt 0 s.target) (IntKind.i64.wrap (s.target + 5)) s.target }, 0))
theorem bM {N : Nat} {s0 s1 s2 s3 s4 s5 s6 s7 s8 s9 s10 s11 s12 s13 s15 s21 s22 s23 s25 s26 s27 : Int} {s18 s20 : Bool} {s14 s16 s17 s19 s24 : Rows} {e0 e1 e2 e3 e5 e6 e7 e8 e9 e10 e11 e13 e14 e15 e16 e18 : Int} {e4 e12 e17 : Bool} (h : Fit s14 s16 s17 s19 s24) : Dz N [.int s0, .int s1, .int s2, .int s3, .int s4, .int s5, .int s6, .int s7, .int s8, .int s9, .int s10, .int s11, .int s12, .int s13, .rows s14, .int s15, .rows s16, .rows s17, .bool s18, .rows s19, .bool s20, .int s21, .int s22, .int s23, .rows s24, .int s25, .int s26, .int s27, .int e0, .int e1, .int e2, .int e3, .bool e4, .int e5, .int e6, .int e7, .int e8, .int e9, .int e10, .int e11, .bool e12, .int e13, .int e14, .int e15, .int e16, .bool e17, .int e18] = some (AW (Le (⟨s0, s1, s2, s3, s4, s5, s6, s7, s8, s9, s10, s11, s12, s13, s14, s15, s16, s17, s18, s19, s20, s21, s22, s23, s24, s25, s26, s27⟩ : Inn) e1 e5)) := by
 show GB (std (Ez N) N) (xOf _) = _
 generalize hres : (some (AW (Le (⟨s0, s1, s2, s3, s4, s5, s6, s7, s8, s9, s10, s11, s12, s13, s14, s15, s16, s17, s18, s19, s20, s21, s22, s23, s24, s25, s26, s27⟩ : Inn) e1 e5)) : Option (List PV)) = RR
 simp only [GB, Ki, MM, std, xOf, PXb, PXc, PXn, PXm, Nat.reduceAdd, Int.reduceBEq, B1 h, Q8 h]
 subst hres; simp only [Le]
 cases e5 == 5 <;> cases e1 == s0 <;> cases iLt 0 s1 <;> rfl
def Gl (r : Rul) (s : Inn) (side : Int) (yes : Bool) : Inn × Int :=
 cond (!s.fresh || iLe r.reviews (cond (side == 2) s.rev2 s.rev1)) (s, 24) (cond (!yes) ({ s with rev1 := cond (side == 1) (inc s.rev1) s.rev1, rev2 := cond (side == 2) (inc s.rev2) s.rev2 }, 0) (s, 0))
theorem wr1 : IntKind.i64.wrap (1 - 1) = 0 := rfl
theorem wr2 : IntKind.i64.wrap (2 - 1) = 1 := rfl
theorem VS : iIn 0 2 = true := rfl
theorem U9 : iIn 1 2 = true := rfl
theorem dL {N : Nat} {r1 r2 r3 r4 r5 r6 r7 r9 r10 r11 r12 : Int} {r8 : Bool} {r0 : ByteArray} {r13 : Rows} {s0 s1 s2 s3 s4 s5 s6 s7 s8 s9 s10 s11 s12 s13 s15 s21 s22 s23 s25 s26 s27 : Int} {s18 s20 : Bool} {s14 s16 s17 s19 s24 : Rows} {e0 e1 e2 e3 e5 e6 e7 e8 e9 e10 e11 e13 e14 e15 e16 e18 : Int} {e4 e12 e17 : Bool} (h : Fit s14 s16 s17 s19 s24) (he : e1 = 1 ∨ e1 = 2) : ES N [.str r0, .int r1, .int r2, .int r3, .int r4, .int r5, .int r6, .int r7, .bool r8, .int r9, .int r10, .int r11, .int r12, .rows r13, .int s0, .int s1, .int s2, .int s3, .int s4, .int s5, .int s6, .int s7, .int s8, .int s9, .int s10, .int s11, .int s12, .int s13, .rows s14, .int s15, .rows s16, .rows s17, .bool s18, .rows s19, .bool s20, .int s21, .int s22, .int s23, .rows s24, .int s25, .int s26, .int s27, .int e0, .int e1, .int e2, .int e3, .bool e4, .int e5, .int e6, .int e7, .int e8, .int e9, .int e10, .int e11, .bool e12, .int e13, .int e14, .int e15, .int e16, .bool e17, .int e18] = some (AW (Gl (⟨r0, r1, r2, r3, r4, r5, r6, r7, r8, r9, r10, r11, r12, r13⟩ : Rul) (⟨s0, s1, s2, s3, s4, s5, s6, s7, s8, s9, s10, s11, s12, s13, s14, s15, s16, s17, s18, s19, s20, s21, s22, s23, s24, s25, s26, s27⟩ : Inn) e1 e4)) := by
 show Ej (std (JH N) N) (xOf _) = _
 generalize hres : (some (AW (Gl (⟨r0, r1, r2, r3, r4, r5, r6, r7, r8, r9, r10, r11, r12, r13⟩ : Rul) (⟨s0, s1, s2, s3, s4, s5, s6, s7, s8, s9, s10, s11, s12, s13, s14, s15, s16, s17, s18, s19, s20, s21, s22, s23, s24, s25, s26, s27⟩ : Inn) e1 e4)) : Option (List PV)) = RR
 rcases he with he | he <;> subst he
 ·simp only [Ej, Fk, std, xOf, PXb, PXc, PXn, PXm, Nat.reduceAdd, Int.reduceBEq, B1 h, wr1, wr2, VS, U9]
  subst hres; simp only [Gl, Int.reduceBEq, beq_self_eq_true, cond_true, cond_false]
  cases s18 <;> cases e4 <;> first | rfl | (cases iLe r11 s25 <;> rfl)
 ·simp only [Ej, Fk, std, xOf, PXb, PXc, PXn, PXm, Nat.reduceAdd, Int.reduceBEq, B1 h, wr1, wr2, VS, U9]
  subst hres; simp only [Gl, Int.reduceBEq, beq_self_eq_true, cond_true, cond_false]
  cases s18 <;> cases e4 <;> first | rfl | (cases iLe r11 s26 <;> rfl)
theorem mc {N : Nat} {r1 r2 r3 r4 r5 r6 r7 r9 r10 r11 r12 : Int} {r8 : Bool} {r0 : ByteArray} {r13 : Rows} {s0 s1 s2 s3 s4 s5 s6 s7 s8 s9 s10 s11 s12 s13 s15 s21 s22 s23 s25 s26 s27 : Int} {s18 s20 : Bool} {s14 s16 s17 s19 s24 : Rows} {n : Int} {b : Bool} (he : n = 1 ∨ n = 2) : JK N [.str r0, .int r1, .int r2, .int r3, .int r4, .int r5, .int r6, .int r7, .bool r8, .int r9, .int r10, .int r11, .int r12, .rows r13, .int s0, .int s1, .int s2, .int s3, .int s4, .int s5, .int s6, .int s7, .int s8, .int s9, .int s10, .int s11, .int s12, .int s13, .rows s14, .int s15, .rows s16, .rows s17, .bool s18, .rows s19, .bool s20, .int s21, .int s22, .int s23, .rows s24, .int s25, .int s26, .int s27, .int n, .bool b] = some (AW (Gl (⟨r0, r1, r2, r3, r4, r5, r6, r7, r8, r9, r10, r11, r12, r13⟩ : Rul) (⟨s0, s1, s2, s3, s4, s5, s6, s7, s8, s9, s10, s11, s12, s13, s14, s15, s16, s17, s18, s19, s20, s21, s22, s23, s24, s25, s26, s27⟩ : Inn) n b)) := by
 show GW (std (Gz N) N) (xOf _) = _
 generalize hres : (some (AW (Gl (⟨r0, r1, r2, r3, r4, r5, r6, r7, r8, r9, r10, r11, r12, r13⟩ : Rul) (⟨s0, s1, s2, s3, s4, s5, s6, s7, s8, s9, s10, s11, s12, s13, s14, s15, s16, s17, s18, s19, s20, s21, s22, s23, s24, s25, s26, s27⟩ : Inn) n b)) : Option (List PV)) = RR
 rcases he with he | he <;> subst he
 ·simp only [GW, std, xOf, PXb, PXc, PXn, PXm, Nat.reduceAdd, Int.reduceBEq, wr1, wr2, VS, U9]
  subst hres; simp only [Gl, Int.reduceBEq, beq_self_eq_true, cond_true, cond_false]
  cases s18 <;> cases b <;> first | rfl | (cases iLe r11 s25 <;> rfl)
 ·simp only [GW, std, xOf, PXb, PXc, PXn, PXm, Nat.reduceAdd, Int.reduceBEq, wr1, wr2, VS, U9]
  subst hres; simp only [Gl, Int.reduceBEq, beq_self_eq_true, cond_true, cond_false]
  cases s18 <;> cases b <;> first | rfl | (cases iLe r11 s26 <;> rfl)
theorem f9 {N : Nat} {r1 r2 r3 r4 r5 r6 r7 r9 r10 r11 r12 : Int} {r8 : Bool} {r0 : ByteArray} {r13 : Rows} {s0 s1 s2 s3 s4 s5 s6 s7 s8 s9 s10 s11 s12 s13 s15 s21 s22 s23 s25 s26 s27 : Int} {s18 s20 : Bool} {s14 s16 s17 s19 s24 : Rows}  : FI N [.str r0, .int r1, .int r2, .int r3, .int r4, .int r5, .int r6, .int r7, .bool r8, .int r9, .int r10, .int r11, .int r12, .rows r13, .int s0, .int s1, .int s2, .int s3, .int s4, .int s5, .int s6, .int s7, .int s8, .int s9, .int s10, .int s11, .int s12, .int s13, .rows s14, .int s15, .rows s16, .rows s17, .bool s18, .rows s19, .bool s20, .int s21, .int s22, .int s23, .rows s24, .int s25, .int s26, .int s27] = some [.int (ZQ r4 s10 s11)] := by
 rfl
theorem nJ {N : Nat} {r1 r2 r3 r4 r5 r6 r7 r9 r10 r11 r12 : Int} {r8 : Bool} {r0 : ByteArray} {r13 : Rows} {s0 s1 s2 s3 s4 s5 s6 s7 s8 s9 s10 s11 s12 s13 s15 s21 s22 s23 s25 s26 s27 : Int} {s18 s20 : Bool} {s14 s16 s17 s19 s24 : Rows}  : Pf N [.str r0, .int r1, .int r2, .int r3, .int r4, .int r5, .int r6, .int r7, .bool r8, .int r9, .int r10, .int r11, .int r12, .rows r13, .int s0, .int s1, .int s2, .int s3, .int s4, .int s5, .int s6, .int s7, .int s8, .int s9, .int s10, .int s11, .int s12, .int s13, .rows s14, .int s15, .rows s16, .rows s17, .bool s18, .rows s19, .bool s20, .int s21, .int s22, .int s23, .rows s24, .int s25, .int s26, .int s27] = some [.int (ZQ r4 s10 s11)] := by
 rfl
def J9 (r : Rul) (s : Inn) (runs overs : Int) : Inn × Int :=
  cond (r.overs == 0 || (runs == 0 && overs == 0)) (s, 25) (cond (iLt 0 runs && (s.target == 0 || iLe runs s.runs)) (s, 25)
    (cond (iLt 0 overs && (iLt r.overs overs || iLt (IntKind.i64.wrap (overs * r.balls)) (ZQ r.balls s.complete s.inover))) (s, 25)
      ({ s with target := cond (iLt 0 runs) runs s.target, overs := cond (iLt 0 overs) overs s.overs }, 0)))
theorem di {N : Nat} {r1 r2 r3 r4 r5 r6 r7 r9 r10 r11 r12 : Int} {r8 : Bool} {r0 : ByteArray} {r13 : Rows} {s0 s1 s2 s3 s4 s5 s6 s7 s8 s9 s10 s11 s12 s13 s15 s21 s22 s23 s25 s26 s27 : Int} {s18 s20 : Bool} {s14 s16 s17 s19 s24 : Rows} {e0 e1 e2 e3 e5 e6 e7 e8 e9 e10 e11 e13 e14 e15 e16 e18 : Int} {e4 e12 e17 : Bool} (h : Fit s14 s16 s17 s19 s24) : Ee N [.str r0, .int r1, .int r2, .int r3, .int r4, .int r5, .int r6, .int r7, .bool r8, .int r9, .int r10, .int r11, .int r12, .rows r13, .int s0, .int s1, .int s2, .int s3, .int s4, .int s5, .int s6, .int s7, .int s8, .int s9, .int s10, .int s11, .int s12, .int s13, .rows s14, .int s15, .rows s16, .rows s17, .bool s18, .rows s19, .bool s20, .int s21, .int s22, .int s23, .rows s24, .int s25, .int s26, .int s27, .int e0, .int e1, .int e2, .int e3, .bool e4, .int e5, .int e6, .int e7, .int e8, .int e9, .int e10, .int e11, .bool e12, .int e13, .int e14, .int e15, .int e16, .bool e17, .int e18] = some (AW (J9 (⟨r0, r1, r2, r3, r4, r5, r6, r7, r8, r9, r10, r11, r12, r13⟩ : Rul) (⟨s0, s1, s2, s3, s4, s5, s6, s7, s8, s9, s10, s11, s12, s13, s14, s15, s16, s17, s18, s19, s20, s21, s22, s23, s24, s25, s26, s27⟩ : Inn) e5 e6)) := by
 show HZ (std (FY N) N) (xOf _) = _
 generalize hres : (some (AW (J9 (⟨r0, r1, r2, r3, r4, r5, r6, r7, r8, r9, r10, r11, r12, r13⟩ : Rul) (⟨s0, s1, s2, s3, s4, s5, s6, s7, s8, s9, s10, s11, s12, s13, s14, s15, s16, s17, s18, s19, s20, s21, s22, s23, s24, s25, s26, s27⟩ : Inn) e5 e6)) : Option (List PV)) = RR
 simp only [HZ, NM, Ng, std, xOf, PXb, PXc, PXn, PXm, Nat.reduceAdd, Int.reduceBEq, B1 h, f9]
 subst hres; simp only [J9]
 cases (r3 == 0 || e5 == 0 && e6 == 0) <;> try rfl
 cases (iLt 0 e5 && (s1 == 0 || iLe e5 s3)) <;> try rfl
 cases iLt 0 e6 <;> cases iLt r3 e6 <;> try rfl
 simp only [PXb, PXc, PXn, PXm, Nat.reduceAdd, Int.reduceBEq]
 cases iLt (IntKind.i64.wrap (e6 * r4)) (ZQ r4 s10 s11) <;> rfl
theorem mW {N : Nat} {r1 r2 r3 r4 r5 r6 r7 r9 r10 r11 r12 : Int} {r8 : Bool} {r0 : ByteArray} {r13 : Rows} {s0 s1 s2 s3 s4 s5 s6 s7 s8 s9 s10 s11 s12 s13 s15 s21 s22 s23 s25 s26 s27 : Int} {s18 s20 : Bool} {s14 s16 s17 s19 s24 : Rows} {n : Int} {m : Int}  : JL N [.str r0, .int r1, .int r2, .int r3, .int r4, .int r5, .int r6, .int r7, .bool r8, .int r9, .int r10, .int r11, .int r12, .rows r13, .int s0, .int s1, .int s2, .int s3, .int s4, .int s5, .int s6, .int s7, .int s8, .int s9, .int s10, .int s11, .int s12, .int s13, .rows s14, .int s15, .rows s16, .rows s17, .bool s18, .rows s19, .bool s20, .int s21, .int s22, .int s23, .rows s24, .int s25, .int s26, .int s27, .int n, .int m] = some (AW (J9 (⟨r0, r1, r2, r3, r4, r5, r6, r7, r8, r9, r10, r11, r12, r13⟩ : Rul) (⟨s0, s1, s2, s3, s4, s5, s6, s7, s8, s9, s10, s11, s12, s13, s14, s15, s16, s17, s18, s19, s20, s21, s22, s23, s24, s25, s26, s27⟩ : Inn) n m)) := by
 show JR (std (EL N) N) (xOf _) = _
 generalize hres : (some (AW (J9 (⟨r0, r1, r2, r3, r4, r5, r6, r7, r8, r9, r10, r11, r12, r13⟩ : Rul) (⟨s0, s1, s2, s3, s4, s5, s6, s7, s8, s9, s10, s11, s12, s13, s14, s15, s16, s17, s18, s19, s20, s21, s22, s23, s24, s25, s26, s27⟩ : Inn) n m)) : Option (List PV)) = RR
 simp only [JR, U6, std, xOf, PXb, PXc, PXn, PXm, Nat.reduceAdd, Int.reduceBEq, nJ]
 subst hres; simp only [J9]
 cases r3 == 0 <;> try rfl
 cases (n == 0 && m == 0) <;> cases (iLt 0 n && (s1 == 0 || iLe n s3)) <;> cases iLt 0 m <;> cases iLt r3 m <;> try rfl
 all_goals (simp only [PXb, PXc, PXn, PXm, Nat.reduceAdd, Int.reduceBEq] <;> first | rfl | (cases iLt (IntKind.i64.wrap (m * r4)) (ZQ r4 s10 s11) <;> rfl))
end Go.Px
end
section
namespace Go.Px
set_option maxRecDepth 100000
def Cq (r : Rul) (s : Inn) (e : Ev) : Inn × Int :=
  cond (e.kind == 2) (R4 s e.player e.other) (cond (e.kind == 3) (Rw r s e.player) (cond (e.kind == 4) (Rs r s e.ball)
    (cond (e.kind == 5) (cond e.yes (HF s e.player) (Mx s e.player)) (cond (e.kind == 6) (J2 s e.player e.yes) (cond (e.kind == 7) (Hh s e.runs)
      (cond (e.kind == 8) (J7 s e.player) (cond (e.kind == 9) (NS s e.player e.yes) (cond (e.kind == 10) (HU r s) (cond (e.kind == 11) (Lr r s e.side)
        (cond (e.kind == 13) (Le s e.side e.runs) (cond (e.kind == 14) (Gl r s e.side e.yes) (J9 r s e.runs e.overs))))))))))))
theorem am {e : Ev} (h : (evS e == 0) = true) : (iLt e.kind 1 || iLt 16 e.kind) = false := by
 unfold evS at h
 cases hk : (iLt e.kind 1 || iLt 16 e.kind) with
 | false => rfl
 | true => rw [hk] at h; cases h
theorem oL {e : Ev} (h : (evS e == 0) = true) (hk : e.kind = 14) : e.side = 1 ∨ e.side = 2 := by
 have h0 := am h
 unfold evS at h
 rw [h0] at h
 cases h1 : iL e with
 | true => rw [h1] at h; cases h
 | false =>
  cases h2 : Zs e with
  | true => rw [h1, h2] at h; cases h
  | false =>
   unfold Zs at h2
   rw [Bool.or_eq_false_iff] at h2
   have h3 := h2.1
   rw [hk, show uS 14 = true from rfl, Bool.and_true] at h3
   simp only [btw, iLe, Bool.not_eq_false', Bool.and_eq_true, decide_eq_true_eq] at h3
   omega
set_option maxHeartbeats 4000000 in
theorem bO {N : Nat} {r1 r2 r3 r4 r5 r6 r7 r9 r10 r11 r12 : Int} {r8 : Bool} {r0 : ByteArray} {r13 : Rows} {s0 s1 s2 s3 s4 s5 s6 s7 s8 s9 s10 s11 s12 s13 s15 s21 s22 s23 s25 s26 s27 : Int} {s18 s20 : Bool} {s14 s16 s17 s19 s24 : Rows} {e0 e1 e2 e3 e5 e6 e7 e8 e9 e10 e11 e13 e14 e15 e16 e18 : Int} {e4 e12 e17 : Bool} (h : Fit s14 s16 s17 s19 s24) (hw : s17.length + s16.length ≤ 1000000) (hN : 2097152 < N) (hs : r0.size ≤ 1048576) (h13 : r13.length ≤ 1048576) (he : (evS (⟨e0, e1, e2, e3, e4, e5, e6, ⟨e7, e8, e9, e10, e11, e12, e13, e14, e15, e16, e17, e18⟩⟩ : Ev) == 0) = true) : Du N [.str r0, .int r1, .int r2, .int r3, .int r4, .int r5, .int r6, .int r7, .bool r8, .int r9, .int r10, .int r11, .int r12, .rows r13, .int s0, .int s1, .int s2, .int s3, .int s4, .int s5, .int s6, .int s7, .int s8, .int s9, .int s10, .int s11, .int s12, .int s13, .rows s14, .int s15, .rows s16, .rows s17, .bool s18, .rows s19, .bool s20, .int s21, .int s22, .int s23, .rows s24, .int s25, .int s26, .int s27, .int e0, .int e1, .int e2, .int e3, .bool e4, .int e5, .int e6, .int e7, .int e8, .int e9, .int e10, .int e11, .bool e12, .int e13, .int e14, .int e15, .int e16, .bool e17, .int e18] = some (AW (Cq (⟨r0, r1, r2, r3, r4, r5, r6, r7, r8, r9, r10, r11, r12, r13⟩ : Rul) (⟨s0, s1, s2, s3, s4, s5, s6, s7, s8, s9, s10, s11, s12, s13, s14, s15, s16, s17, s18, s19, s20, s21, s22, s23, s24, s25, s26, s27⟩ : Inn) (⟨e0, e1, e2, e3, e4, e5, e6, ⟨e7, e8, e9, e10, e11, e12, e13, e14, e15, e16, e17, e18⟩⟩ : Ev))) := by
  show Dy (std (Af N) N) (xOf _) = _
  generalize hres : (some (AW (Cq (⟨r0, r1, r2, r3, r4, r5, r6, r7, r8, r9, r10, r11, r12, r13⟩ : Rul) (⟨s0, s1, s2, s3, s4, s5, s6, s7, s8, s9, s10, s11, s12, s13, s14, s15, s16, s17, s18, s19, s20, s21, s22, s23, s24, s25, s26, s27⟩ : Inn) (⟨e0, e1, e2, e3, e4, e5, e6, ⟨e7, e8, e9, e10, e11, e12, e13, e14, e15, e16, e17, e18⟩⟩ : Ev))) : Option (List PV)) = RR
  have hsd : e0 = 14 → e1 = 1 ∨ e1 = 2 := oL (e := (⟨e0, e1, e2, e3, e4, e5, e6, ⟨e7, e8, e9, e10, e11, e12, e13, e14, e15, e16, e17, e18⟩⟩ : Ev)) he
  rcases WU (am he) with hk | hk | hk | hk | hk | hk | hk | hk | hk | hk | hk | hk | hk | hk | hk | hk <;> simp only at hk <;> subst hk <;> clear he
  all_goals (first
    | (have hsd := hsd rfl
       simp only [Dy, F3, Gn, FL, EY, FO, E4, E1, Fc, D1, E3, ED, EI, Eh, EZ, std, xOf, PXb, PXc, PXn, PXm, Nat.reduceAdd, Int.reduceBEq, dL h hsd]
       subst hres
       rfl)
    | (simp only [Dy, F3, Gn, FL, EY, FO, E4, E1, Fc, D1, E3, ED, EI, Eh, EZ, std, xOf, PXb, PXc, PXn, PXm, Nat.reduceAdd, Int.reduceBEq, j5 h hN, ma h hN hs, iY h hw hN hs h13, dU h hN, iJ h hN, ef h hN, gG h, iR h, aH h, ed h hN hs, bW h, bM h, di h]
       subst hres
       first
       | rfl
       | (cases e4 <;> rfl)))
def gn (r : Rul) (s : Inn) (e : Ev) : Inn × Int := cond (e.kind == 1 || e.kind == 12 || e.kind == 16) (s, 1) (Cq r s e)
set_option maxHeartbeats 4000000 in
theorem i7 {N : Nat} {r1 r2 r3 r4 r5 r6 r7 r9 r10 r11 r12 : Int} {r8 : Bool} {r0 : ByteArray} {r13 : Rows} {s0 s1 s2 s3 s4 s5 s6 s7 s8 s9 s10 s11 s12 s13 s15 s21 s22 s23 s25 s26 s27 : Int} {s18 s20 : Bool} {s14 s16 s17 s19 s24 : Rows} {e0 e1 e2 e3 e5 e6 e7 e8 e9 e10 e11 e13 e14 e15 e16 e18 : Int} {e4 e12 e17 : Bool} (h : Fit s14 s16 s17 s19 s24) (hw : s17.length + s16.length ≤ 1000000) (hN : 2097152 < N) (hs : r0.size ≤ 1048576) (h13 : r13.length ≤ 1048576) (he : (evS (⟨e0, e1, e2, e3, e4, e5, e6, ⟨e7, e8, e9, e10, e11, e12, e13, e14, e15, e16, e17, e18⟩⟩ : Ev) == 0) = true) : QL N [.str r0, .int r1, .int r2, .int r3, .int r4, .int r5, .int r6, .int r7, .bool r8, .int r9, .int r10, .int r11, .int r12, .rows r13, .int s0, .int s1, .int s2, .int s3, .int s4, .int s5, .int s6, .int s7, .int s8, .int s9, .int s10, .int s11, .int s12, .int s13, .rows s14, .int s15, .rows s16, .rows s17, .bool s18, .rows s19, .bool s20, .int s21, .int s22, .int s23, .rows s24, .int s25, .int s26, .int s27, .int e0, .int e1, .int e2, .int e3, .bool e4, .int e5, .int e6, .int e7, .int e8, .int e9, .int e10, .int e11, .bool e12, .int e13, .int e14, .int e15, .int e16, .bool e17, .int e18] = some (AW (gn (⟨r0, r1, r2, r3, r4, r5, r6, r7, r8, r9, r10, r11, r12, r13⟩ : Rul) (⟨s0, s1, s2, s3, s4, s5, s6, s7, s8, s9, s10, s11, s12, s13, s14, s15, s16, s17, s18, s19, s20, s21, s22, s23, s24, s25, s26, s27⟩ : Inn) (⟨e0, e1, e2, e3, e4, e5, e6, ⟨e7, e8, e9, e10, e11, e12, e13, e14, e15, e16, e17, e18⟩⟩ : Ev))) := by
  show MB (std (A2 N) N) (xOf _) = _
  generalize hres : (some (AW (gn (⟨r0, r1, r2, r3, r4, r5, r6, r7, r8, r9, r10, r11, r12, r13⟩ : Rul) (⟨s0, s1, s2, s3, s4, s5, s6, s7, s8, s9, s10, s11, s12, s13, s14, s15, s16, s17, s18, s19, s20, s21, s22, s23, s24, s25, s26, s27⟩ : Inn) (⟨e0, e1, e2, e3, e4, e5, e6, ⟨e7, e8, e9, e10, e11, e12, e13, e14, e15, e16, e17, e18⟩⟩ : Ev))) : Option (List PV)) = RR
  have hsd : e0 = 14 → e1 = 1 ∨ e1 = 2 := oL (e := (⟨e0, e1, e2, e3, e4, e5, e6, ⟨e7, e8, e9, e10, e11, e12, e13, e14, e15, e16, e17, e18⟩⟩ : Ev)) he
  rcases WU (am he) with hk | hk | hk | hk | hk | hk | hk | hk | hk | hk | hk | hk | hk | hk | hk | hk <;> simp only at hk <;> subst hk <;> clear he
  all_goals (first
    | (have hsd := hsd rfl
       simp only [MB, L8, QM, QK, QE, L9, OZ, Nr, L1, M9, Iz, Lz, Mn, MX, std, xOf, PXb, PXc, PXn, PXm, Nat.reduceAdd, Int.reduceBEq, mc hsd]
       subst hres
       rfl)
    | (simp only [MB, L8, QM, QK, QE, L9, OZ, Nr, L1, M9, Iz, Lz, Mn, MX, std, xOf, PXb, PXc, PXn, PXm, Nat.reduceAdd, Int.reduceBEq, pp h hN, pj h hN hs, pw h hw hN hs h13, jj h hN, nF h hN, lL h hN, j8 h, lh h, dr h, jy h hN hs, X8 h, mW]
       subst hres
       first
       | rfl
       | (cases e4 <;> rfl)
       | (unfold gn Cq Lr; simp only [PXb, PXc, PXn, PXm, Nat.reduceAdd, Int.reduceBEq]; cases e1 == s0 <;> cases r3 == 0 <;> rfl)
       | (unfold gn Cq Le NE; simp only [PXb, PXc, PXn, PXm, Nat.reduceAdd, Int.reduceBEq]; cases e5 == 5 <;> cases e1 == s0 <;> cases iLt 0 s1 <;> rfl)))
end Go.Px
end
section
namespace Go.Px
set_option maxRecDepth 100000
theorem Lens.of {s t : Inn} (h1 : t.batters.length = s.batters.length) (h2 : t.bowled.length = s.bowled.length) (h3 : t.subs.length = s.subs.length) (h4 : t.bowlers = s.bowlers) (h5 : t.before = s.before) : Lens s t := ⟨h1, h2, h3, by rw [h4]; omega, by rw [h5]; omega⟩
theorem L_c {s : Inn} (b : Bool) (x y : Inn × Int) (hx : Lens s x.1) (hy : Lens s y.1) : Lens s (cond b x y).1 := by cases b <;> assumption
theorem rA (s : Inn) (p q : Int) : Lens s (R4 s p q).1 := by
 unfold R4
 exact L_c _ _ _ (Lens.refl s) (L_c _ _ _ (Lens.refl s) (L_c _ _ _ (Lens.refl s) (Lens.of (by simp [Lw]) rfl rfl rfl rfl)))
theorem qP (r : Rul) (s : Inn) (p : Int) : Lens s (Rw r s p).1 := by
 unfold Rw
 exact P_c (P := fun x : Inn => Lens s x) _ _ _ (Lens.of rfl rfl rfl rfl rfl) (Lens.refl s)
theorem qy (r : Rul) (s : Inn) (d : Del) : Lens s (Rs r s d).1 := by
 unfold Rs
 refine L_c _ _ _ (Lens.refl s) ?_
 have l1 := dM s d
 have w1 := lT s d
 have w2 := ko s d
 simp only [mU]
 have l2 := Z0 r (CN s d) (A7 r d).counts
 cases (DA r (CN s d) (A7 r d).counts).2
 ·exact ⟨l2.bt.trans l1.bt, l2.bd.trans l1.bd, l2.sb.trans l1.sb, by have := l2.bw; rw [w1] at this; exact this, by have := l2.bf; rw [w1, w2] at this; exact this⟩
 ·exact ⟨l2.bt.trans l1.bt, l2.bd.trans l1.bd, l2.sb.trans l1.sb, by have := l2.bw; rw [w1] at this; exact this, by have := l2.bf; rw [w1, w2] at this; exact this⟩
theorem mM (s : Inn) (p : Int) : Lens s (HF s p).1 := by
 unfold HF
 exact L_c _ _ _ (Lens.of (by simp [Lw]) rfl rfl rfl rfl) (Lens.refl s)
theorem pg (s : Inn) (p : Int) : Lens s (Mx s p).1 := by
 unfold Mx
 exact L_c _ _ _ (Lens.of (by simp [Lw]) rfl rfl rfl rfl) (Lens.refl s)
theorem nI (s : Inn) (p : Int) (b : Bool) : Lens s (J2 s p b).1 := by
 unfold J2
 exact L_c _ _ _ (Lens.refl s) (L_c _ _ _ (Lens.refl s) (L_c _ _ _ (Lens.refl s) (L_c _ _ _ (Lens.refl s) (Lens.of (by simp [Lw]) rfl rfl rfl rfl))))
theorem mH (s : Inn) (n : Int) : Lens s (Hh s n).1 := by
 unfold Hh
 exact L_c _ _ _ (Lens.refl s) (Lens.of rfl rfl rfl rfl rfl)
theorem nc (s : Inn) (n : Int) : Lens s (J7 s n).1 := by
 unfold J7
 exact L_c _ _ _ (Lens.refl s) (L_c _ _ _ (Lens.refl s) (L_c _ _ _ (Lens.refl s) (Lens.of rfl rfl rfl rfl rfl)))
theorem o9 (s : Inn) (n : Int) (b : Bool) : Lens s (NS s n b).1 := by
 unfold NS
 exact L_c _ _ _ (Lens.refl s) (L_c _ _ _ (Lens.refl s) (Lens.of rfl rfl (by simp [sO]) rfl rfl))
theorem lw (r : Rul) (s : Inn) : Lens s (HU r s).1 := by
 unfold HU
 exact L_c _ _ _ (Lens.refl s) (Lens.of rfl rfl rfl rfl rfl)
theorem lX (r : Rul) (s : Inn) (n : Int) : Lens s (Lr r s n).1 := by
 unfold Lr
 exact L_c _ _ _ (Lens.refl s) (L_c _ _ _ (Lens.refl s) (Lens.of rfl rfl rfl rfl rfl))
theorem mb (s : Inn) (n m : Int) : Lens s (Le s n m).1 := by
 unfold Le
 exact L_c _ _ _ (Lens.refl s) (L_c _ _ _ (Lens.of rfl rfl rfl rfl rfl) (Lens.of rfl rfl rfl rfl rfl))
theorem nL (r : Rul) (s : Inn) (n : Int) (b : Bool) : Lens s (Gl r s n b).1 := by
 unfold Gl
 exact L_c _ _ _ (Lens.refl s) (L_c _ _ _ (Lens.of rfl rfl rfl rfl rfl) (Lens.refl s))
theorem ny (r : Rul) (s : Inn) (n m : Int) : Lens s (J9 r s n m).1 := by
 unfold J9
 exact L_c _ _ _ (Lens.refl s) (L_c _ _ _ (Lens.refl s) (L_c _ _ _ (Lens.refl s) (Lens.of rfl rfl rfl rfl rfl)))
theorem SF (r : Rul) (s : Inn) (e : Ev) : Lens s (Cq r s e).1 := by
  unfold Cq
  exact L_c _ _ _ (rA ..) (L_c _ _ _ (qP ..) (L_c _ _ _ (qy ..) (L_c _ _ _ (L_c _ _ _ (mM ..) (pg ..)) (L_c _ _ _ (nI ..) (L_c _ _ _ (mH ..)
    (L_c _ _ _ (nc ..) (L_c _ _ _ (o9 ..) (L_c _ _ _ (lw ..) (L_c _ _ _ (lX ..) (L_c _ _ _ (mb ..) (L_c _ _ _ (nL ..) (ny ..))))))))))))
def GK (r : Rul) (s : Inn) : Bool := KR r.name r.side r.innings r.overs r.balls r.quota r.wide r.noball r.newball r.followon r.reviews r.outside r.power s.batters s.bowlers s.before s.bowled s.subs s.side s.target s.overs s.runs s.wickets s.wides s.noballs s.byes s.legbyes s.pens s.complete s.inover s.striker s.other s.bowler s.ballage s.keeper s.outside s.rev1 s.rev2 s.ending
def sV (r : Rul) (s : Inn) : Int := mg (GK r s) s.batters s.striker s.other s.target s.overs s.runs s.complete
theorem UX {N : Nat} {r1 r2 r3 r4 r5 r6 r7 r9 r10 r11 r12 : Int} {r8 : Bool} {r0 : ByteArray} {r13 : Rows} {s0 s1 s2 s3 s4 s5 s6 s7 s8 s9 s10 s11 s12 s13 s15 s21 s22 s23 s25 s26 s27 : Int} {s18 s20 : Bool} {s14 s16 s17 s19 s24 : Rows} (h : Fit s14 s16 s17 s19 s24) (hN : 2097152 < N) (hs : r0.size ≤ 1048576) : BC N [.str r0, .int r1, .int r2, .int r3, .int r4, .int r5, .int r6, .int r7, .bool r8, .int r9, .int r10, .int r11, .int r12, .rows r13, .int s0, .int s1, .int s2, .int s3, .int s4, .int s5, .int s6, .int s7, .int s8, .int s9, .int s10, .int s11, .int s12, .int s13, .rows s14, .int s15, .rows s16, .rows s17, .bool s18, .rows s19, .bool s20, .int s21, .int s22, .int s23, .rows s24, .int s25, .int s26, .int s27] = some [.bool (GK (⟨r0, r1, r2, r3, r4, r5, r6, r7, r8, r9, r10, r11, r12, r13⟩ : Rul) (⟨s0, s1, s2, s3, s4, s5, s6, s7, s8, s9, s10, s11, s12, s13, s14, s15, s16, s17, s18, s19, s20, s21, s22, s23, s24, s25, s26, s27⟩ : Inn))] := by
 exact SW N _ _ _ _ _ _ _ _ _ _ _ _ _ _ _ _ _ _ _ _ _ _ _ _ _ _ _ _ _ _ _ _ _ _ _ _ _ _ _ _ _ _ hN hs h.bt h.bw h.bf h.bd
theorem bg {N : Nat} {r1 r2 r3 r4 r5 r6 r7 r9 r10 r11 r12 : Int} {r8 : Bool} {r0 : ByteArray} {r13 : Rows} {s0 s1 s2 s3 s4 s5 s6 s7 s8 s9 s10 s11 s12 s13 s15 s21 s22 s23 s25 s26 s27 : Int} {s18 s20 : Bool} {s14 s16 s17 s19 s24 : Rows} (h : Fit s14 s16 s17 s19 s24) (hN : 2097152 < N) (hs : r0.size ≤ 1048576) : CZ N [.str r0, .int r1, .int r2, .int r3, .int r4, .int r5, .int r6, .int r7, .bool r8, .int r9, .int r10, .int r11, .int r12, .rows r13, .int s0, .int s1, .int s2, .int s3, .int s4, .int s5, .int s6, .int s7, .int s8, .int s9, .int s10, .int s11, .int s12, .int s13, .rows s14, .int s15, .rows s16, .rows s17, .bool s18, .rows s19, .bool s20, .int s21, .int s22, .int s23, .rows s24, .int s25, .int s26, .int s27] = some [.bool (GK (⟨r0, r1, r2, r3, r4, r5, r6, r7, r8, r9, r10, r11, r12, r13⟩ : Rul) (⟨s0, s1, s2, s3, s4, s5, s6, s7, s8, s9, s10, s11, s12, s13, s14, s15, s16, s17, s18, s19, s20, s21, s22, s23, s24, s25, s26, s27⟩ : Inn))] := by
 exact ZZ N _ _ _ _ _ _ _ _ _ _ _ _ _ _ _ _ _ _ _ _ _ _ _ _ _ _ _ _ _ _ _ _ _ _ _ _ _ _ _ _ _ _ hN hs h.bt h.bw h.bf h.bd
theorem dX {N : Nat} {r1 r2 r3 r4 r5 r6 r7 r9 r10 r11 r12 : Int} {r8 : Bool} {r0 : ByteArray} {r13 : Rows} {s0 s1 s2 s3 s4 s5 s6 s7 s8 s9 s10 s11 s12 s13 s15 s21 s22 s23 s25 s26 s27 : Int} {s18 s20 : Bool} {s14 s16 s17 s19 s24 : Rows} (h : Fit s14 s16 s17 s19 s24) (hN : 2097152 < N) (hs : r0.size ≤ 1048576) : DI N [.str r0, .int r1, .int r2, .int r3, .int r4, .int r5, .int r6, .int r7, .bool r8, .int r9, .int r10, .int r11, .int r12, .rows r13, .int s0, .int s1, .int s2, .int s3, .int s4, .int s5, .int s6, .int s7, .int s8, .int s9, .int s10, .int s11, .int s12, .int s13, .rows s14, .int s15, .rows s16, .rows s17, .bool s18, .rows s19, .bool s20, .int s21, .int s22, .int s23, .rows s24, .int s25, .int s26, .int s27] = some [.int (sV (⟨r0, r1, r2, r3, r4, r5, r6, r7, r8, r9, r10, r11, r12, r13⟩ : Rul) (⟨s0, s1, s2, s3, s4, s5, s6, s7, s8, s9, s10, s11, s12, s13, s14, s15, s16, s17, s18, s19, s20, s21, s22, s23, s24, s25, s26, s27⟩ : Inn))] := by
 exact bR N _ _ _ _ _ _ _ _ _ _ _ _ _ _ _ _ _ _ _ _ _ _ _ _ _ _ _ _ _ _ _ _ _ _ _ _ _ _ _ _ _ _ hN hs h.bt h.bw h.bf h.bd
theorem mK {N : Nat} {r1 r2 r3 r4 r5 r6 r7 r9 r10 r11 r12 : Int} {r8 : Bool} {r0 : ByteArray} {r13 : Rows} {s0 s1 s2 s3 s4 s5 s6 s7 s8 s9 s10 s11 s12 s13 s15 s21 s22 s23 s25 s26 s27 : Int} {s18 s20 : Bool} {s14 s16 s17 s19 s24 : Rows} (h : Fit s14 s16 s17 s19 s24) (hN : 2097152 < N) (hs : r0.size ≤ 1048576) : Ix N [.str r0, .int r1, .int r2, .int r3, .int r4, .int r5, .int r6, .int r7, .bool r8, .int r9, .int r10, .int r11, .int r12, .rows r13, .int s0, .int s1, .int s2, .int s3, .int s4, .int s5, .int s6, .int s7, .int s8, .int s9, .int s10, .int s11, .int s12, .int s13, .rows s14, .int s15, .rows s16, .rows s17, .bool s18, .rows s19, .bool s20, .int s21, .int s22, .int s23, .rows s24, .int s25, .int s26, .int s27] = some [.int (sV (⟨r0, r1, r2, r3, r4, r5, r6, r7, r8, r9, r10, r11, r12, r13⟩ : Rul) (⟨s0, s1, s2, s3, s4, s5, s6, s7, s8, s9, s10, s11, s12, s13, s14, s15, s16, s17, s18, s19, s20, s21, s22, s23, s24, s25, s26, s27⟩ : Inn))] := by
 exact j0 N _ _ _ _ _ _ _ _ _ _ _ _ _ _ _ _ _ _ _ _ _ _ _ _ _ _ _ _ _ _ _ _ _ _ _ _ _ _ _ _ _ _ hN hs h.bt h.bw h.bf h.bd
def fK (t : Inn) (b : Bool) : Inn := ⟨t.side, t.target, t.overs, t.runs, t.wickets, t.wides, t.noballs, t.byes, t.legbyes, t.pens, t.complete, t.inover, t.striker, t.other, t.batters, t.bowler, t.bowlers, t.before, b, t.bowled, t.freehit, t.ballage, t.keeper, t.outside, t.subs, t.rev1, t.rev2, t.ending⟩
def az (r : Rul) (t : Inn) (b : Bool) : Inn := { fK t b with ending := cond (t.ending == 0) (sV r (fK t b)) t.ending }
def qH (s : Inn) (e : Ev) : Bool := e.kind == 1 || e.kind == 12 || e.kind == 16 || (!CK s.batters && !(e.kind == 2))
def Ce (r : Rul) (s : Inn) (e : Ev) : Inn × Int :=
  cond (!GK r s || !(evS e == 0)) (s, 1) (cond (!(s.ending == 0)) (s, 26) (cond (qH s e) (s, 1)
    (cond (!((Cq r s e).2 == 0)) (s, (Cq r s e).2) (az r (Cq r s e).1 (e.kind == 4), 0))))
set_option maxHeartbeats 4000000 in
theorem Od {N : Nat} {r1 r2 r3 r4 r5 r6 r7 r9 r10 r11 r12 : Int} {r8 : Bool} {r0 : ByteArray} {r13 : Rows} {s0 s1 s2 s3 s4 s5 s6 s7 s8 s9 s10 s11 s12 s13 s15 s21 s22 s23 s25 s26 s27 : Int} {s18 s20 : Bool} {s14 s16 s17 s19 s24 : Rows} {e0 e1 e2 e3 e5 e6 e7 e8 e9 e10 e11 e13 e14 e15 e16 e18 : Int} {e4 e12 e17 : Bool} (h : Fit s14 s16 s17 s19 s24) (hw : s17.length + s16.length ≤ 1000000) (hN : 2097152 < N) (hs : r0.size ≤ 1048576) (h13 : r13.length ≤ 1048576) : GO N [.str r0, .int r1, .int r2, .int r3, .int r4, .int r5, .int r6, .int r7, .bool r8, .int r9, .int r10, .int r11, .int r12, .rows r13, .int s0, .int s1, .int s2, .int s3, .int s4, .int s5, .int s6, .int s7, .int s8, .int s9, .int s10, .int s11, .int s12, .int s13, .rows s14, .int s15, .rows s16, .rows s17, .bool s18, .rows s19, .bool s20, .int s21, .int s22, .int s23, .rows s24, .int s25, .int s26, .int s27, .int e0, .int e1, .int e2, .int e3, .bool e4, .int e5, .int e6, .int e7, .int e8, .int e9, .int e10, .int e11, .bool e12, .int e13, .int e14, .int e15, .int e16, .bool e17, .int e18] = some (AW (Ce (⟨r0, r1, r2, r3, r4, r5, r6, r7, r8, r9, r10, r11, r12, r13⟩ : Rul) (⟨s0, s1, s2, s3, s4, s5, s6, s7, s8, s9, s10, s11, s12, s13, s14, s15, s16, s17, s18, s19, s20, s21, s22, s23, s24, s25, s26, s27⟩ : Inn) (⟨e0, e1, e2, e3, e4, e5, e6, ⟨e7, e8, e9, e10, e11, e12, e13, e14, e15, e16, e17, e18⟩⟩ : Ev))) := by
 show Je (std (CD N) N) (xOf _) = _
 generalize hres : (some (AW (Ce (⟨r0, r1, r2, r3, r4, r5, r6, r7, r8, r9, r10, r11, r12, r13⟩ : Rul) (⟨s0, s1, s2, s3, s4, s5, s6, s7, s8, s9, s10, s11, s12, s13, s14, s15, s16, s17, s18, s19, s20, s21, s22, s23, s24, s25, s26, s27⟩ : Inn) (⟨e0, e1, e2, e3, e4, e5, e6, ⟨e7, e8, e9, e10, e11, e12, e13, e14, e15, e16, e17, e18⟩⟩ : Ev))) : Option (List PV)) = RR
 have l1 := SF (⟨r0, r1, r2, r3, r4, r5, r6, r7, r8, r9, r10, r11, r12, r13⟩ : Rul) (⟨s0, s1, s2, s3, s4, s5, s6, s7, s8, s9, s10, s11, s12, s13, s14, s15, s16, s17, s18, s19, s20, s21, s22, s23, s24, s25, s26, s27⟩ : Inn) (⟨e0, e1, e2, e3, e4, e5, e6, ⟨e7, e8, e9, e10, e11, e12, e13, e14, e15, e16, e17, e18⟩⟩ : Ev)
 have f1 := Ky l1 h (by simp only; omega)
 simp only [Je, Ow, F1, Oj, QW, Ol, Fn, std, xOf, PXb, UX h hN hs, Yg hN, B1 h, fm h.bt hN]
 subst hres; simp only [Ce, qH]
 cases GK (⟨r0, r1, r2, r3, r4, r5, r6, r7, r8, r9, r10, r11, r12, r13⟩ : Rul) (⟨s0, s1, s2, s3, s4, s5, s6, s7, s8, s9, s10, s11, s12, s13, s14, s15, s16, s17, s18, s19, s20, s21, s22, s23, s24, s25, s26, s27⟩ : Inn)
 ·rfl
 cases he : evS (⟨e0, e1, e2, e3, e4, e5, e6, ⟨e7, e8, e9, e10, e11, e12, e13, e14, e15, e16, e17, e18⟩⟩ : Ev) == 0
 ·simp only [PXb, PXc, PXn, PXm, Nat.reduceAdd, Int.reduceBEq, he]
 simp only [PXb, PXc, PXn, PXm, Nat.reduceAdd, Int.reduceBEq, he]
 cases s27 == 0 <;> try rfl
 cases (e0 == 1 || e0 == 12 || e0 == 16) <;> cases CK s14 <;> cases e0 == 2 <;> try rfl
 all_goals (simp only [PXb, PXc, PXn, PXm, Nat.reduceAdd, Int.reduceBEq, Fn, F1, bO h hw hN hs h13 he, dX f1 hN hs])
 all_goals (unfold az fK; cases (Cq (⟨r0, r1, r2, r3, r4, r5, r6, r7, r8, r9, r10, r11, r12, r13⟩ : Rul) (⟨s0, s1, s2, s3, s4, s5, s6, s7, s8, s9, s10, s11, s12, s13, s14, s15, s16, s17, s18, s19, s20, s21, s22, s23, s24, s25, s26, s27⟩ : Inn) (⟨e0, e1, e2, e3, e4, e5, e6, ⟨e7, e8, e9, e10, e11, e12, e13, e14, e15, e16, e17, e18⟩⟩ : Ev)).2 == 0 <;> cases (Cq (⟨r0, r1, r2, r3, r4, r5, r6, r7, r8, r9, r10, r11, r12, r13⟩ : Rul) (⟨s0, s1, s2, s3, s4, s5, s6, s7, s8, s9, s10, s11, s12, s13, s14, s15, s16, s17, s18, s19, s20, s21, s22, s23, s24, s25, s26, s27⟩ : Inn) (⟨e0, e1, e2, e3, e4, e5, e6, ⟨e7, e8, e9, e10, e11, e12, e13, e14, e15, e16, e17, e18⟩⟩ : Ev)).1.ending == 0 <;> rfl)
end Go.Px
end
