/- Part 11. -/
import Derived.Test.YtibhmjjjbblhmaaGreatPart10
set_option linter.unusedVariables false
set_option linter.unusedSimpArgs false
section
namespace Go.Px
set_option maxRecDepth 100000
def be (r : Rul) (over : Int) : Int :=
 match B8 (fun i => cond (iLe (atI r.power i 0) (inc over) && iLe (inc over) (atI r.power i 1)) (some [.int (atI r.power i 2)]) none) r.power.length 0 with
 | some x => pvI (AJ x 0)
 | none => r.outside
theorem kW {N : Nat} {r1 r2 r3 r4 r5 r6 r7 r9 r10 r11 r12 : Int} {r8 : Bool} {r0 : ByteArray} {r13 : Rows} {o : Int} (hN : 2097152 < N) (h13 : r13.length ≤ 1048576) : F4 N [.str r0, .int r1, .int r2, .int r3, .int r4, .int r5, .int r6, .int r7, .bool r8, .int r9, .int r10, .int r11, .int r12, .rows r13, .int o] = some [.int (be (⟨r0, r1, r2, r3, r4, r5, r6, r7, r8, r9, r10, r11, r12, r13⟩ : Rul) o)] := by
 show Jc (std (SW N) N) (xOf _) = _
 simp only [Jc, std, xOf, PXb, PXc, PXn, AA]
 refine AK (Cc (len := r13.length) (fun i => cond (iLe (atI r13 i 0) (inc o) && iLe (inc o) (atI r13 i 1)) (some [.int (atI r13 i 2)]) none) ?_ ?_ r13.length 0 N (by omega) (by omega)) ?_
 ·intro self
  simp only [PXb, PXc, PXn, AA, Aj]
 ·intro i self hi
  simp only [PXb, PXc, PXn, AA, AN (show i ≤ 1099511627776 by omega), Ae hi, AP hi]
  cases hq : iLe (atI r13 i 0) (inc o) && iLe (inc o) (atI r13 i 1) <;> unfold inc atI at hq <;> rw [hq] <;> rfl
 ·unfold be
  cases B8 (fun i => cond (iLe (atI r13 i 0) (inc o) && iLe (inc o) (atI r13 i 1)) (some [.int (atI r13 i 2)]) none) r13.length 0 <;> rfl
theorem nZ {N : Nat} {r1 r2 r3 r4 r5 r6 r7 r9 r10 r11 r12 : Int} {r8 : Bool} {r0 : ByteArray} {r13 : Rows} {o : Int} (hN : 2097152 < N) (h13 : r13.length ≤ 1048576) : Ig N [.str r0, .int r1, .int r2, .int r3, .int r4, .int r5, .int r6, .int r7, .bool r8, .int r9, .int r10, .int r11, .int r12, .rows r13, .int o] = some [.int (be (⟨r0, r1, r2, r3, r4, r5, r6, r7, r8, r9, r10, r11, r12, r13⟩ : Rul) o)] := by
 show L9 (std (WM N) N) (xOf _) = _
 simp only [L9, std, xOf, PXb, PXc, PXn, AA]
 refine AK (Cc (len := r13.length) (fun i => cond (iLe (atI r13 i 0) (inc o) && iLe (inc o) (atI r13 i 1)) (some [.int (atI r13 i 2)]) none) ?_ ?_ r13.length 0 N (by omega) (by omega)) ?_
 ·intro self
  simp only [PXb, PXc, PXn, AA, Aj]
 ·intro i self hi
  simp only [PXb, PXc, PXn, AA, AN (show i ≤ 1099511627776 by omega), Ae hi, AP hi]
  cases hq : iLe (atI r13 i 0) (inc o) && iLe (inc o) (atI r13 i 1) <;> unfold inc atI at hq <;> rw [hq] <;> rfl
 ·unfold be
  cases B8 (fun i => cond (iLe (atI r13 i 0) (inc o) && iLe (inc o) (atI r13 i 1)) (some [.int (atI r13 i 2)]) none) r13.length 0 <;> rfl
def K1 (s : Inn) (p : Int) : Inn × Int :=
 cond (!inR p s.subs.length) (s, 3) (cond (C3 s p) (s, 18) (cond (p == s.bowler || p == s.keeper) (s, 17) ({ s with keeper := p }, 0)))
theorem lg {N : Nat} {s0 s1 s2 s3 s4 s5 s6 s7 s8 s9 s10 s11 s12 s13 s15 s21 s22 s23 s25 s26 s27 : Int} {s18 s20 : Bool} {s14 s16 s17 s19 s24 : Rows} {p : Int} (h : Fit s14 s16 s17 s19 s24) : HN N [.int s0, .int s1, .int s2, .int s3, .int s4, .int s5, .int s6, .int s7, .int s8, .int s9, .int s10, .int s11, .int s12, .int s13, .rows s14, .int s15, .rows s16, .rows s17, .bool s18, .rows s19, .bool s20, .int s21, .int s22, .int s23, .rows s24, .int s25, .int s26, .int s27, .int p] = some (AX (K1 (⟨s0, s1, s2, s3, s4, s5, s6, s7, s8, s9, s10, s11, s12, s13, s14, s15, s16, s17, s18, s19, s20, s21, s22, s23, s24, s25, s26, s27⟩ : Inn) p)) := by
 show Ka (std (FE N) N) (xOf _) = _
 generalize hres : (some (AX (K1 (⟨s0, s1, s2, s3, s4, s5, s6, s7, s8, s9, s10, s11, s12, s13, s14, s15, s16, s17, s18, s19, s20, s21, s22, s23, s24, s25, s26, s27⟩ : Inn) p)) : Option (List PV)) = RR
 simp only [Ka, UR, SK, Pj, std, xOf, PXb, PXc, PXn, PXm, Nat.reduceAdd, Int.reduceBEq, Wz h, Ip, H1 h.sb]
 subst hres; simp only [K1]
 cases inR p s24.length <;> cases C3 (⟨s0, s1, s2, s3, s4, s5, s6, s7, s8, s9, s10, s11, s12, s13, s14, s15, s16, s17, s18, s19, s20, s21, s22, s23, s24, s25, s26, s27⟩ : Inn) p <;> cases p == s15 <;> cases p == s22 <;> rfl
theorem o9 {N : Nat} {s0 s1 s2 s3 s4 s5 s6 s7 s8 s9 s10 s11 s12 s13 s15 s21 s22 s23 s25 s26 s27 : Int} {s18 s20 : Bool} {s14 s16 s17 s19 s24 : Rows} {p : Int} (h : Fit s14 s16 s17 s19 s24) : N9 N [.int s0, .int s1, .int s2, .int s3, .int s4, .int s5, .int s6, .int s7, .int s8, .int s9, .int s10, .int s11, .int s12, .int s13, .rows s14, .int s15, .rows s16, .rows s17, .bool s18, .rows s19, .bool s20, .int s21, .int s22, .int s23, .rows s24, .int s25, .int s26, .int s27, .int p] = some (AX (K1 (⟨s0, s1, s2, s3, s4, s5, s6, s7, s8, s9, s10, s11, s12, s13, s14, s15, s16, s17, s18, s19, s20, s21, s22, s23, s24, s25, s26, s27⟩ : Inn) p)) := by
 show O5 (std (Hd N) N) (xOf _) = _
 generalize hres : (some (AX (K1 (⟨s0, s1, s2, s3, s4, s5, s6, s7, s8, s9, s10, s11, s12, s13, s14, s15, s16, s17, s18, s19, s20, s21, s22, s23, s24, s25, s26, s27⟩ : Inn) p)) : Option (List PV)) = RR
 simp only [O5, Ww, VG, Tc, std, xOf, PXb, PXc, PXn, PXm, Nat.reduceAdd, Int.reduceBEq, B0 h, PU, Hh h.sb]
 subst hres; simp only [K1]
 cases inR p s24.length <;> cases C3 (⟨s0, s1, s2, s3, s4, s5, s6, s7, s8, s9, s10, s11, s12, s13, s14, s15, s16, s17, s18, s19, s20, s21, s22, s23, s24, s25, s26, s27⟩ : Inn) p <;> cases p == s15 <;> cases p == s22 <;> rfl
def Pa (s : Inn) (p : Int) (on : Bool) : Inn × Int :=
  cond (!inR p s.subs.length) (s, 3) (cond (C3 s p == on) (s, 18)
    ({ s with subs := wL s.subs p on, keeper := cond (on && s.keeper == p) 0 s.keeper, bowler := cond (on && s.bowler == p) 0 s.bowler }, 0))
theorem ba {N : Nat} {s0 s1 s2 s3 s4 s5 s6 s7 s8 s9 s10 s11 s12 s13 s15 s21 s22 s23 s25 s26 s27 : Int} {s18 s20 : Bool} {s14 s16 s17 s19 s24 : Rows} {p : Int} {b : Bool} (h : Fit s14 s16 s17 s19 s24) : D4 N [.int s0, .int s1, .int s2, .int s3, .int s4, .int s5, .int s6, .int s7, .int s8, .int s9, .int s10, .int s11, .int s12, .int s13, .rows s14, .int s15, .rows s16, .rows s17, .bool s18, .rows s19, .bool s20, .int s21, .int s22, .int s23, .rows s24, .int s25, .int s26, .int s27, .int p, .bool b] = some (AX (Pa (⟨s0, s1, s2, s3, s4, s5, s6, s7, s8, s9, s10, s11, s12, s13, s14, s15, s16, s17, s18, s19, s20, s21, s22, s23, s24, s25, s26, s27⟩ : Inn) p b)) := by
 show GS (std (DB N) N) (xOf _) = _
 generalize hres : (some (AX (Pa (⟨s0, s1, s2, s3, s4, s5, s6, s7, s8, s9, s10, s11, s12, s13, s14, s15, s16, s17, s18, s19, s20, s21, s22, s23, s24, s25, s26, s27⟩ : Inn) p b)) : Option (List PV)) = RR
 simp only [GS, QE, OG, LZ, std, xOf, PXb, PXc, PXn, PXm, Nat.reduceAdd, Int.reduceBEq, Wz h, Ip, H1 h.sb]
 subst hres; simp only [Pa]
 cases hp : inR p s24.length <;> try rfl
 rw [DT hp h.sb]
 cases C3 (⟨s0, s1, s2, s3, s4, s5, s6, s7, s8, s9, s10, s11, s12, s13, s14, s15, s16, s17, s18, s19, s20, s21, s22, s23, s24, s25, s26, s27⟩ : Inn) p == b <;> cases b <;> cases s22 == p <;> cases s15 == p <;> rfl
theorem g8 {N : Nat} {s0 s1 s2 s3 s4 s5 s6 s7 s8 s9 s10 s11 s12 s13 s15 s21 s22 s23 s25 s26 s27 : Int} {s18 s20 : Bool} {s14 s16 s17 s19 s24 : Rows} {p : Int} {b : Bool} (h : Fit s14 s16 s17 s19 s24) : IY N [.int s0, .int s1, .int s2, .int s3, .int s4, .int s5, .int s6, .int s7, .int s8, .int s9, .int s10, .int s11, .int s12, .int s13, .rows s14, .int s15, .rows s16, .rows s17, .bool s18, .rows s19, .bool s20, .int s21, .int s22, .int s23, .rows s24, .int s25, .int s26, .int s27, .int p, .bool b] = some (AX (Pa (⟨s0, s1, s2, s3, s4, s5, s6, s7, s8, s9, s10, s11, s12, s13, s14, s15, s16, s17, s18, s19, s20, s21, s22, s23, s24, s25, s26, s27⟩ : Inn) p b)) := by
 show IC (std (D0 N) N) (xOf _) = _
 generalize hres : (some (AX (Pa (⟨s0, s1, s2, s3, s4, s5, s6, s7, s8, s9, s10, s11, s12, s13, s14, s15, s16, s17, s18, s19, s20, s21, s22, s23, s24, s25, s26, s27⟩ : Inn) p b)) : Option (List PV)) = RR
 simp only [IC, SQ, Rg, Pe, std, xOf, PXb, PXc, PXn, PXm, Nat.reduceAdd, Int.reduceBEq, B0 h, PU, Hh h.sb]
 subst hres; simp only [Pa]
 cases hp : inR p s24.length <;> try rfl
 rw [DT hp h.sb]
 cases C3 (⟨s0, s1, s2, s3, s4, s5, s6, s7, s8, s9, s10, s11, s12, s13, s14, s15, s16, s17, s18, s19, s20, s21, s22, s23, s24, s25, s26, s27⟩ : Inn) p == b <;> cases b <;> cases s22 == p <;> cases s15 == p <;> rfl
def H7 (s : Inn) (n : Int) : Inn × Int :=
 cond (iLt n 0 || iLt (IntKind.i64.wrap ((s.subs.length : Int) - 2)) n) (s, 16) ({ s with outside := n }, 0)
theorem jV {N : Nat} {s0 s1 s2 s3 s4 s5 s6 s7 s8 s9 s10 s11 s12 s13 s15 s21 s22 s23 s25 s26 s27 : Int} {s18 s20 : Bool} {s14 s16 s17 s19 s24 : Rows} {n : Int} (h : Fit s14 s16 s17 s19 s24) : F8 N [.int s0, .int s1, .int s2, .int s3, .int s4, .int s5, .int s6, .int s7, .int s8, .int s9, .int s10, .int s11, .int s12, .int s13, .rows s14, .int s15, .rows s16, .rows s17, .bool s18, .rows s19, .bool s20, .int s21, .int s22, .int s23, .rows s24, .int s25, .int s26, .int s27, .int n] = some (AX (H7 (⟨s0, s1, s2, s3, s4, s5, s6, s7, s8, s9, s10, s11, s12, s13, s14, s15, s16, s17, s18, s19, s20, s21, s22, s23, s24, s25, s26, s27⟩ : Inn) n)) := by
 show Jg (std (LO N) N) (xOf _) = _
 generalize hres : (some (AX (H7 (⟨s0, s1, s2, s3, s4, s5, s6, s7, s8, s9, s10, s11, s12, s13, s14, s15, s16, s17, s18, s19, s20, s21, s22, s23, s24, s25, s26, s27⟩ : Inn) n)) : Option (List PV)) = RR
 simp only [Jg, S6, std, xOf, PXb, PXc, PXn, PXm, Nat.reduceAdd, Int.reduceBEq, Wz h]
 subst hres; simp only [H7]
 cases (iLt n 0 || iLt (IntKind.i64.wrap ((s24.length : Int) - 2)) n) <;> rfl
theorem nK {N : Nat} {s0 s1 s2 s3 s4 s5 s6 s7 s8 s9 s10 s11 s12 s13 s15 s21 s22 s23 s25 s26 s27 : Int} {s18 s20 : Bool} {s14 s16 s17 s19 s24 : Rows} {n : Int} (h : Fit s14 s16 s17 s19 s24) : MK N [.int s0, .int s1, .int s2, .int s3, .int s4, .int s5, .int s6, .int s7, .int s8, .int s9, .int s10, .int s11, .int s12, .int s13, .rows s14, .int s15, .rows s16, .rows s17, .bool s18, .rows s19, .bool s20, .int s21, .int s22, .int s23, .rows s24, .int s25, .int s26, .int s27, .int n] = some (AX (H7 (⟨s0, s1, s2, s3, s4, s5, s6, s7, s8, s9, s10, s11, s12, s13, s14, s15, s16, s17, s18, s19, s20, s21, s22, s23, s24, s25, s26, s27⟩ : Inn) n)) := by
 show MI (std (N8 N) N) (xOf _) = _
 generalize hres : (some (AX (H7 (⟨s0, s1, s2, s3, s4, s5, s6, s7, s8, s9, s10, s11, s12, s13, s14, s15, s16, s17, s18, s19, s20, s21, s22, s23, s24, s25, s26, s27⟩ : Inn) n)) : Option (List PV)) = RR
 simp only [MI, VK, std, xOf, PXb, PXc, PXn, PXm, Nat.reduceAdd, Int.reduceBEq, B0 h]
 subst hres; simp only [H7]
 cases (iLt n 0 || iLt (IntKind.i64.wrap ((s24.length : Int) - 2)) n) <;> rfl
def ON (r : Rul) (s : Inn) : Int :=
 cond (!inR s.keeper s.subs.length || C3 s s.keeper || s.keeper == s.bowler) 17 (cond (iLt (be r s.complete) s.outside) 16 0)
theorem nz {N : Nat} {r1 r2 r3 r4 r5 r6 r7 r9 r10 r11 r12 : Int} {r8 : Bool} {r0 : ByteArray} {r13 : Rows} {s0 s1 s2 s3 s4 s5 s6 s7 s8 s9 s10 s11 s12 s13 s15 s21 s22 s23 s25 s26 s27 : Int} {s18 s20 : Bool} {s14 s16 s17 s19 s24 : Rows} (h : Fit s14 s16 s17 s19 s24) (hN : 2097152 < N) (h13 : r13.length ≤ 1048576) : Il N [.str r0, .int r1, .int r2, .int r3, .int r4, .int r5, .int r6, .int r7, .bool r8, .int r9, .int r10, .int r11, .int r12, .rows r13, .int s0, .int s1, .int s2, .int s3, .int s4, .int s5, .int s6, .int s7, .int s8, .int s9, .int s10, .int s11, .int s12, .int s13, .rows s14, .int s15, .rows s16, .rows s17, .bool s18, .rows s19, .bool s20, .int s21, .int s22, .int s23, .rows s24, .int s25, .int s26, .int s27] = some [.int (ON (⟨r0, r1, r2, r3, r4, r5, r6, r7, r8, r9, r10, r11, r12, r13⟩ : Rul) (⟨s0, s1, s2, s3, s4, s5, s6, s7, s8, s9, s10, s11, s12, s13, s14, s15, s16, s17, s18, s19, s20, s21, s22, s23, s24, s25, s26, s27⟩ : Inn))] := by
 show MC (std (GH N) N) (xOf _) = _
 generalize hres : (some [.int (ON (⟨r0, r1, r2, r3, r4, r5, r6, r7, r8, r9, r10, r11, r12, r13⟩ : Rul) (⟨s0, s1, s2, s3, s4, s5, s6, s7, s8, s9, s10, s11, s12, s13, s14, s15, s16, s17, s18, s19, s20, s21, s22, s23, s24, s25, s26, s27⟩ : Inn))] : Option (List PV)) = RR
 simp only [MC, Tf, QZ, Re, std, xOf, PXb, PXc, PXn, PXm, Nat.reduceAdd, Int.reduceBEq, Ip, H1 h.sb, kW hN h13]
 subst hres; simp only [ON]
 cases inR s22 s24.length <;> cases C3 (⟨s0, s1, s2, s3, s4, s5, s6, s7, s8, s9, s10, s11, s12, s13, s14, s15, s16, s17, s18, s19, s20, s21, s22, s23, s24, s25, s26, s27⟩ : Inn) s22 <;> cases s22 == s15 <;> rfl
theorem rX {N : Nat} {r1 r2 r3 r4 r5 r6 r7 r9 r10 r11 r12 : Int} {r8 : Bool} {r0 : ByteArray} {r13 : Rows} {s0 s1 s2 s3 s4 s5 s6 s7 s8 s9 s10 s11 s12 s13 s15 s21 s22 s23 s25 s26 s27 : Int} {s18 s20 : Bool} {s14 s16 s17 s19 s24 : Rows} (h : Fit s14 s16 s17 s19 s24) (hN : 2097152 < N) (h13 : r13.length ≤ 1048576) : Qe N [.str r0, .int r1, .int r2, .int r3, .int r4, .int r5, .int r6, .int r7, .bool r8, .int r9, .int r10, .int r11, .int r12, .rows r13, .int s0, .int s1, .int s2, .int s3, .int s4, .int s5, .int s6, .int s7, .int s8, .int s9, .int s10, .int s11, .int s12, .int s13, .rows s14, .int s15, .rows s16, .rows s17, .bool s18, .rows s19, .bool s20, .int s21, .int s22, .int s23, .rows s24, .int s25, .int s26, .int s27] = some [.int (ON (⟨r0, r1, r2, r3, r4, r5, r6, r7, r8, r9, r10, r11, r12, r13⟩ : Rul) (⟨s0, s1, s2, s3, s4, s5, s6, s7, s8, s9, s10, s11, s12, s13, s14, s15, s16, s17, s18, s19, s20, s21, s22, s23, s24, s25, s26, s27⟩ : Inn))] := by
 show Qu (std (Ir N) N) (xOf _) = _
 generalize hres : (some [.int (ON (⟨r0, r1, r2, r3, r4, r5, r6, r7, r8, r9, r10, r11, r12, r13⟩ : Rul) (⟨s0, s1, s2, s3, s4, s5, s6, s7, s8, s9, s10, s11, s12, s13, s14, s15, s16, s17, s18, s19, s20, s21, s22, s23, s24, s25, s26, s27⟩ : Inn))] : Option (List PV)) = RR
 simp only [Qu, XX, UE, VH, std, xOf, PXb, PXc, PXn, PXm, Nat.reduceAdd, Int.reduceBEq, PU, Hh h.sb, nZ hN h13]
 subst hres; simp only [ON]
 cases inR s22 s24.length <;> cases C3 (⟨s0, s1, s2, s3, s4, s5, s6, s7, s8, s9, s10, s11, s12, s13, s14, s15, s16, s17, s18, s19, s20, s21, s22, s23, s24, s25, s26, s27⟩ : Inn) s22 <;> cases s22 == s15 <;> rfl
def Od (s : Inn) (d : Del) : Int :=
  cond (iLt 0 d.fielder && !inR d.fielder s.subs.length) 3 (cond (iLt 0 d.fielder && !(d.sub == C3 s d.fielder)) 18
    (cond (iLt 0 d.second && !inR d.second s.subs.length) 3 (cond (iLt 0 d.second && C3 s d.second) 18
      (cond (d.how == 4 && !(iK d.fielder == s.keeper)) 17 0))))
theorem na {N : Nat} {s0 s1 s2 s3 s4 s5 s6 s7 s8 s9 s10 s11 s12 s13 s15 s21 s22 s23 s25 s26 s27 : Int} {s18 s20 : Bool} {s14 s16 s17 s19 s24 : Rows} {d0 d1 d2 d3 d4 d6 d7 d8 d9 d11 : Int} {d5 d10 : Bool} (h : Fit s14 s16 s17 s19 s24) : Ic N [.int s0, .int s1, .int s2, .int s3, .int s4, .int s5, .int s6, .int s7, .int s8, .int s9, .int s10, .int s11, .int s12, .int s13, .rows s14, .int s15, .rows s16, .rows s17, .bool s18, .rows s19, .bool s20, .int s21, .int s22, .int s23, .rows s24, .int s25, .int s26, .int s27, .int d0, .int d1, .int d2, .int d3, .int d4, .bool d5, .int d6, .int d7, .int d8, .int d9, .bool d10, .int d11] = some [.int (Od (⟨s0, s1, s2, s3, s4, s5, s6, s7, s8, s9, s10, s11, s12, s13, s14, s15, s16, s17, s18, s19, s20, s21, s22, s23, s24, s25, s26, s27⟩ : Inn) (⟨d0, d1, d2, d3, d4, d5, d6, d7, d8, d9, d10, d11⟩ : Del))] := by
 show L8 (std (JM N) N) (xOf _) = _
 generalize hres : (some [.int (Od (⟨s0, s1, s2, s3, s4, s5, s6, s7, s8, s9, s10, s11, s12, s13, s14, s15, s16, s17, s18, s19, s20, s21, s22, s23, s24, s25, s26, s27⟩ : Inn) (⟨d0, d1, d2, d3, d4, d5, d6, d7, d8, d9, d10, d11⟩ : Del))] : Option (List PV)) = RR
 simp only [L8, Tj, P5, std, xOf, PXb, PXc, PXn, PXm, Nat.reduceAdd, Int.reduceBEq, Ip, H1 h.sb]
 subst hres; simp only [Od, iK, wC]
 cases iLt 0 d8 <;> cases iLt 0 d9 <;> cases inR d8 s24.length <;> cases inR d9 s24.length <;> cases d10 == C3 (⟨s0, s1, s2, s3, s4, s5, s6, s7, s8, s9, s10, s11, s12, s13, s14, s15, s16, s17, s18, s19, s20, s21, s22, s23, s24, s25, s26, s27⟩ : Inn) d8 <;> cases C3 (⟨s0, s1, s2, s3, s4, s5, s6, s7, s8, s9, s10, s11, s12, s13, s14, s15, s16, s17, s18, s19, s20, s21, s22, s23, s24, s25, s26, s27⟩ : Inn) d9 <;> rfl
theorem rq {N : Nat} {s0 s1 s2 s3 s4 s5 s6 s7 s8 s9 s10 s11 s12 s13 s15 s21 s22 s23 s25 s26 s27 : Int} {s18 s20 : Bool} {s14 s16 s17 s19 s24 : Rows} {d0 d1 d2 d3 d4 d6 d7 d8 d9 d11 : Int} {d5 d10 : Bool} (h : Fit s14 s16 s17 s19 s24) : Qi N [.int s0, .int s1, .int s2, .int s3, .int s4, .int s5, .int s6, .int s7, .int s8, .int s9, .int s10, .int s11, .int s12, .int s13, .rows s14, .int s15, .rows s16, .rows s17, .bool s18, .rows s19, .bool s20, .int s21, .int s22, .int s23, .rows s24, .int s25, .int s26, .int s27, .int d0, .int d1, .int d2, .int d3, .int d4, .bool d5, .int d6, .int d7, .int d8, .int d9, .bool d10, .int d11] = some [.int (Od (⟨s0, s1, s2, s3, s4, s5, s6, s7, s8, s9, s10, s11, s12, s13, s14, s15, s16, s17, s18, s19, s20, s21, s22, s23, s24, s25, s26, s27⟩ : Inn) (⟨d0, d1, d2, d3, d4, d5, d6, d7, d8, d9, d10, d11⟩ : Del))] := by
 show Q7 (std (MH N) N) (xOf _) = _
 generalize hres : (some [.int (Od (⟨s0, s1, s2, s3, s4, s5, s6, s7, s8, s9, s10, s11, s12, s13, s14, s15, s16, s17, s18, s19, s20, s21, s22, s23, s24, s25, s26, s27⟩ : Inn) (⟨d0, d1, d2, d3, d4, d5, d6, d7, d8, d9, d10, d11⟩ : Del))] : Option (List PV)) = RR
 simp only [Q7, XO, UX, std, xOf, PXb, PXc, PXn, PXm, Nat.reduceAdd, Int.reduceBEq, PU, Hh h.sb]
 subst hres; simp only [Od, iK, wC]
 rw [BEq.comm (a := C3 (⟨s0, s1, s2, s3, s4, s5, s6, s7, s8, s9, s10, s11, s12, s13, s14, s15, s16, s17, s18, s19, s20, s21, s22, s23, s24, s25, s26, s27⟩ : Inn) d8)]
 cases iLt 0 d8 <;> cases iLt 0 d9 <;> cases inR d8 s24.length <;> cases inR d9 s24.length <;> cases d10 == C3 (⟨s0, s1, s2, s3, s4, s5, s6, s7, s8, s9, s10, s11, s12, s13, s14, s15, s16, s17, s18, s19, s20, s21, s22, s23, s24, s25, s26, s27⟩ : Inn) d8 <;> cases C3 (⟨s0, s1, s2, s3, s4, s5, s6, s7, s8, s9, s10, s11, s12, s13, s14, s15, s16, s17, s18, s19, s20, s21, s22, s23, s24, s25, s26, s27⟩ : Inn) d9 <;> rfl
end Go.Px
end
section
namespace Go.Px
set_option maxRecDepth 100000
structure Cre where
 batter : Int
 wides : Int
 noballs : Int
 byes : Int
 legbyes : Int
 bowler : Int
 counts : Bool
 faced : Bool
 wicket : Bool
 swap : Bool
def Cre.ls (c : Cre) : List PV := [.int c.batter, .int c.wides, .int c.noballs, .int c.byes, .int c.legbyes, .int c.bowler, .bool c.counts, .bool c.faced, .bool c.wicket, .bool c.swap]
theorem wa {N : Nat} {a : Int} {b : Int} {c : Int}  : VD N [.int a, .int b, .int c] = some [.bool (btw a b c)] := by
 show ig (std (kJ N) N) (xOf _) = _
 show some [PV.bool (cond (iLe b a) (iLe a c) false)] = _
 rw [Qd]; rfl
def NK (d : Del) : Bool :=
  cond (d.type == 2) (d.source == 0 && !(d.boundary == 6)) (cond (d.source == 0) (d.runs == 0 && d.boundary == 0)
    (cond (d.boundary == 0) (iLt 0 d.runs) (cond (d.boundary == 6) (d.source == 1 && d.runs == 0) true)))
def F3 (d : Del) : Int :=
  cond (iLt d.type 1 || iLt 3 d.type || iLt 3 d.source || iLt 10 d.how || !btw d.sector 0 8) 11
    (cond (!btw d.runs 0 7 || !btw d.short 0 d.runs || (!(d.boundary == 0) && !(d.boundary == 4) && !(d.boundary == 6))) 12
      (cond (!NK d) 11 (cond (!(d.sector == 0) && !(d.source == 1) && !(d.how == 2)) 11 (cond (!(d.boundary == 0) && !(d.how == 0)) 11
        (cond (d.crossed && !(d.how == 6) && !(d.how == 8)) 11 0)))))
theorem lW {N : Nat} {d0 d1 d2 d3 d4 d6 d7 d8 d9 d11 : Int} {d5 d10 : Bool}  : Hi N [.int d0, .int d1, .int d2, .int d3, .int d4, .bool d5, .int d6, .int d7, .int d8, .int d9, .bool d10, .int d11] = some [.bool (NK (⟨d0, d1, d2, d3, d4, d5, d6, d7, d8, d9, d10, d11⟩ : Del))] := by
 show Kx (std (Uv N) N) (xOf _) = _
 generalize hres : (some [.bool (NK (⟨d0, d1, d2, d3, d4, d5, d6, d7, d8, d9, d10, d11⟩ : Del))] : Option (List PV)) = RR
 simp only [Kx, std, xOf, PXb, PXc, PXn, PXm, Nat.reduceAdd, Int.reduceBEq]
 subst hres; simp only [NK]
 cases d0 == 2 <;> cases d1 == 0 <;> cases d4 == 0 <;> cases d4 == 6 <;> rfl
theorem f7 {N : Nat} {d0 d1 d2 d3 d4 d6 d7 d8 d9 d11 : Int} {d5 d10 : Bool}  : Gb N [.int d0, .int d1, .int d2, .int d3, .int d4, .bool d5, .int d6, .int d7, .int d8, .int d9, .bool d10, .int d11] = some [.int (F3 (⟨d0, d1, d2, d3, d4, d5, d6, d7, d8, d9, d10, d11⟩ : Del))] := by
 show RD (std (Me N) N) (xOf _) = _
 generalize hres : (some [.int (F3 (⟨d0, d1, d2, d3, d4, d5, d6, d7, d8, d9, d10, d11⟩ : Del))] : Option (List PV)) = RR
 simp only [RD, cH, Uj, std, xOf, PXb, PXc, PXn, PXm, Nat.reduceAdd, Int.reduceBEq, wa, lW]
 subst hres; simp only [F3]
def Lq (d : Del) : Bool :=
  cond (d.type == 2) (d.source == 0 && !(d.boundary == 6)) (cond (d.source == 0) (d.runs == 0 && d.boundary == 0)
    (cond (d.source == 1) (!(d.boundary == 6) || d.runs == 0) (!(d.boundary == 6) && (iLt 0 d.runs || !(d.boundary == 0)))))
theorem bB {N : Nat} {d0 d1 d2 d3 d4 d6 d7 d8 d9 d11 : Int} {d5 d10 : Bool}  : DW N [.int d0, .int d1, .int d2, .int d3, .int d4, .bool d5, .int d6, .int d7, .int d8, .int d9, .bool d10, .int d11] = some [.bool (Lq (⟨d0, d1, d2, d3, d4, d5, d6, d7, d8, d9, d10, d11⟩ : Del))] := by
 show Fb (std (ND N) N) (xOf _) = _
 generalize hres : (some [.bool (Lq (⟨d0, d1, d2, d3, d4, d5, d6, d7, d8, d9, d10, d11⟩ : Del))] : Option (List PV)) = RR
 simp only [Fb, std, xOf, PXb, PXc, PXn, PXm, Nat.reduceAdd, Int.reduceBEq]
 subst hres; simp only [Lq]
theorem yC (x a b : Int) : (!btw x a b) = (iLt x a || iLt b x) := by
 unfold btw iLe iLt
 rw [Bool.eq_iff_iff]
 simp only [Bool.not_eq_true', Bool.and_eq_false_iff, decide_eq_false_iff_not, Bool.or_eq_true, decide_eq_true_eq]
 omega
theorem xU {d : Del} (h : 0 ≤ d.runs) : (!Lq d || !d.type == 2 && d.source == 1 && d.runs == 0 && d.boundary == 0) = !NK d := by
 unfold Lq NK
 rw [lT h]
 cases h1 : d.source == 0 with
 | true =>
  rw [P8 h1 (c := 1) rfl]
  cases d.type == 2 <;> cases d.runs == 0 <;> cases d.boundary == 0 <;> cases d.boundary == 6 <;> rfl
 | false =>
  cases h2 : d.boundary == 0 with
  | true =>
   rw [P8 h2 (c := 6) rfl]
   cases d.type == 2 <;> cases d.source == 1 <;> cases d.runs == 0 <;> rfl
  | false => cases d.type == 2 <;> cases d.source == 1 <;> cases d.runs == 0 <;> cases d.boundary == 6 <;> rfl
theorem UB {N : Nat} {d0 d1 d2 d3 d4 d6 d7 d8 d9 d11 : Int} {d5 d10 : Bool}  : CC N [.int d0, .int d1, .int d2, .int d3, .int d4, .bool d5, .int d6, .int d7, .int d8, .int d9, .bool d10, .int d11] = some [.int (F3 (⟨d0, d1, d2, d3, d4, d5, d6, d7, d8, d9, d10, d11⟩ : Del))] := by
 show IQ (std (Ji N) N) (xOf _) = _
 generalize hres : (some [.int (F3 (⟨d0, d1, d2, d3, d4, d5, d6, d7, d8, d9, d10, d11⟩ : Del))] : Option (List PV)) = RR
 simp only [IQ, LH, std, xOf, PXb, PXc, PXn, PXm, Nat.reduceAdd, Int.reduceBEq, bB]
 subst hres; simp only [F3, yC, Bool.or_assoc]
 cases h2 : (iLt d2 0 || (iLt 7 d2 || (iLt d3 0 || (iLt d2 d3 || !d4 == 0 && !d4 == 4 && !d4 == 6)))) with
 | true => rfl
 | false =>
  have h3 : 0 ≤ d2 := by
   rw [Bool.or_eq_false_iff] at h2
   have := h2.1
   simp only [iLt, decide_eq_false_iff_not] at this
   omega
  have := xU (d := (⟨d0, d1, d2, d3, d4, d5, d6, d7, d8, d9, d10, d11⟩ : Del)) h3
  simp only at this
  rw [this]
theorem gx {N : Nat} {a : Int} {b : Int} {c : Int} {d : Int} {e : Int} {x : Int} {p : Bool} {q : Bool} {u : Bool} {v : Bool}  : E9 N [.int a, .int b, .int c, .int d, .int e, .int x, .bool p, .bool q, .bool u, .bool v] = some [.int (IntKind.i64.wrap (IntKind.i64.wrap (IntKind.i64.wrap (IntKind.i64.wrap (a + b) + c) + d) + e))] := by
 rfl
theorem rM {N : Nat} {a : Int} {b : Int} {c : Int} {d : Int} {e : Int} {x : Int} {p : Bool} {q : Bool} {u : Bool} {v : Bool}  : Q4 N [.int a, .int b, .int c, .int d, .int e, .int x, .bool p, .bool q, .bool u, .bool v] = some [.int (IntKind.i64.wrap (IntKind.i64.wrap (IntKind.i64.wrap (IntKind.i64.wrap (a + b) + c) + d) + e))] := by
 rfl
def jx (c : Cre) : Int := IntKind.i64.wrap (IntKind.i64.wrap (IntKind.i64.wrap (IntKind.i64.wrap (c.batter + c.wides) + c.noballs) + c.byes) + c.legbyes)
def Xp (h : Int) : Bool := iLe 1 h && iLe h 5
theorem bU {N : Nat} {h : Int}  : Db N [.int h] = some [.bool (Xp h)] := by
 show FZ (std (NR N) N) (xOf _) = _
 simp only [FZ, std, xOf, PXb, PXc, PXn, PXm, Nat.reduceAdd, Int.reduceBEq, Xp]
theorem lC {N : Nat} {h : Int}  : HR N [.int h] = some [.bool (Xp h)] := by
 show K3 (std (Ue N) N) (xOf _) = _
 simp only [K3, std, xOf, PXb, PXc, PXn, PXm, Nat.reduceAdd, Int.reduceBEq]
 refine congrArg (fun b => some [PV.bool b]) ?_
 by_cases e1 : h = 1; · subst e1; rfl
 by_cases e2 : h = 2; · subst e2; rfl
 by_cases e3 : h = 3; · subst e3; rfl
 by_cases e4 : h = 4; · subst e4; rfl
 by_cases e5 : h = 5; · subst e5; rfl
 rw [beq_false_of_ne e1, beq_false_of_ne e2, beq_false_of_ne e3, beq_false_of_ne e4, beq_false_of_ne e5]
 unfold Xp iLe
 symm
 show (_ && _) = false
 rw [Bool.and_eq_false_iff]
 simp only [decide_eq_false_iff_not]
 omega
theorem ru {N : Nat} {d0 d1 d2 d3 d4 d6 d7 d8 d9 d11 : Int} {d5 d10 : Bool}  : Le N [.int d0, .int d1, .int d2, .int d3, .int d4, .bool d5, .int d6, .int d7, .int d8, .int d9, .bool d10, .int d11] = some [.bool (!((!(d2.tmod 2 == 0)) == d5))] := by
 show Q0 (std (aH N) N) (xOf _) = _
 simp only [Q0, std, xOf, PXb, PXc, PXn, PXm, Nat.reduceAdd, Int.reduceBEq]
def ui (r : Rul) (d : Del) : Cre :=
  let n := IntKind.i64.wrap (IntKind.i64.wrap (d.runs - d.short) + d.boundary)
  let b := cond (!(d.type == 2) && d.source == 1) n 0
  let w := cond (d.type == 2) (IntKind.i64.wrap (r.wide + n)) 0
  let o := cond (d.type == 3) r.noball 0
  { batter := b, wides := w, noballs := o, byes := cond (!(d.type == 2) && d.source == 2) n 0, legbyes := cond (!(d.type == 2) && d.source == 3) n 0, bowler := IntKind.i64.wrap (IntKind.i64.wrap (b + w) + o),
    counts := d.type == 1, faced := !(d.type == 2), wicket := Xp d.how, swap := !((!(d.runs.tmod 2 == 0)) == d.crossed) }
def BC (r : Rul) (d : Del) : Cre := cond (!(F3 d == 0)) ⟨0, 0, 0, 0, 0, 0, false, false, false, false⟩ (ui r d)
theorem tB {d : Del} (h : (F3 d == 0) = true) : 0 ≤ d.runs ∧ d.runs ≤ 7 := by
 unfold F3 at h
 cases h1 : (iLt d.type 1 || iLt 3 d.type || iLt 3 d.source || iLt 10 d.how || !btw d.sector 0 8) with
 | true => rw [h1] at h; cases h
 | false =>
  cases h2 : (!btw d.runs 0 7 || !btw d.short 0 d.runs || (!(d.boundary == 0) && !(d.boundary == 4) && !(d.boundary == 6))) with
  | true => rw [h1, h2] at h; cases h
  | false =>
   rw [Bool.or_eq_false_iff, Bool.or_eq_false_iff] at h2
   have := h2.1.1
   simp only [btw, iLe, Bool.not_eq_false', Bool.and_eq_true, decide_eq_true_eq] at this
   exact this
theorem xk {n : Int} (h : 0 ≤ n ∧ n ≤ 7) (b : Bool) : ((cond b (IntKind.i64.wrap (n + 1)) n).tmod 2 == 1) = !((!(n.tmod 2 == 0)) == b) := by
 obtain ⟨k, rfl⟩ : ∃ k : Nat, n = k := ⟨n.toNat, by omega⟩
 have : k = 0 ∨ k = 1 ∨ k = 2 ∨ k = 3 ∨ k = 4 ∨ k = 5 ∨ k = 6 ∨ k = 7 := by omega
 rcases this with h | h | h | h | h | h | h | h <;> subst h <;> cases b <;> rfl
theorem Si {N : Nat} {r1 r2 r3 r4 r5 r6 r7 r9 r10 r11 r12 : Int} {r8 : Bool} {r0 : ByteArray} {r13 : Rows} {d0 d1 d2 d3 d4 d6 d7 d8 d9 d11 : Int} {d5 d10 : Bool}  : B4 N [.str r0, .int r1, .int r2, .int r3, .int r4, .int r5, .int r6, .int r7, .bool r8, .int r9, .int r10, .int r11, .int r12, .rows r13, .int d0, .int d1, .int d2, .int d3, .int d4, .bool d5, .int d6, .int d7, .int d8, .int d9, .bool d10, .int d11] = some (BC (⟨r0, r1, r2, r3, r4, r5, r6, r7, r8, r9, r10, r11, r12, r13⟩ : Rul) (⟨d0, d1, d2, d3, d4, d5, d6, d7, d8, d9, d10, d11⟩ : Del)).ls := by
 show Gm (std (Ff N) N) (xOf _) = _
 generalize hres : (some (BC (⟨r0, r1, r2, r3, r4, r5, r6, r7, r8, r9, r10, r11, r12, r13⟩ : Rul) (⟨d0, d1, d2, d3, d4, d5, d6, d7, d8, d9, d10, d11⟩ : Del)).ls : Option (List PV)) = RR
 simp only [Gm, Mo, Kn, std, xOf, PXb, PXc, PXn, PXm, Nat.reduceAdd, Int.reduceBEq, UB, bU]
 subst hres; simp only [BC, ui]
 cases hl : F3 (⟨d0, d1, d2, d3, d4, d5, d6, d7, d8, d9, d10, d11⟩ : Del) == 0 with
 | false => rfl
 | true =>
  have hs := xk (tB hl) d5
  simp only at hs
  simp only [PXb, PXc, PXn, PXm, Nat.reduceAdd, Int.reduceBEq, hs]
  cases h0 : d0 == 2 <;> cases h3 : d0 == 3 <;> cases h1 : d1 == 1 <;> cases h2 : d1 == 2 <;> cases h4 : d1 == 3 <;> first
   | rfl
   | (rw [P8 h0 (c := 3) rfl] at h3; exact absurd h3 (by decide))
   | (rw [P8 h1 (c := 2) rfl] at h2; exact absurd h2 (by decide))
   | (rw [P8 h1 (c := 3) rfl] at h4; exact absurd h4 (by decide))
   | (rw [P8 h2 (c := 3) rfl] at h4; exact absurd h4 (by decide))
theorem qf {N : Nat} {r1 r2 r3 r4 r5 r6 r7 r9 r10 r11 r12 : Int} {r8 : Bool} {r0 : ByteArray} {r13 : Rows} {d0 d1 d2 d3 d4 d6 d7 d8 d9 d11 : Int} {d5 d10 : Bool}  : Ny N [.str r0, .int r1, .int r2, .int r3, .int r4, .int r5, .int r6, .int r7, .bool r8, .int r9, .int r10, .int r11, .int r12, .rows r13, .int d0, .int d1, .int d2, .int d3, .int d4, .bool d5, .int d6, .int d7, .int d8, .int d9, .bool d10, .int d11] = some (BC (⟨r0, r1, r2, r3, r4, r5, r6, r7, r8, r9, r10, r11, r12, r13⟩ : Rul) (⟨d0, d1, d2, d3, d4, d5, d6, d7, d8, d9, d10, d11⟩ : Del)).ls := by
 show N6 (std (Hc N) N) (xOf _) = _
 generalize hres : (some (BC (⟨r0, r1, r2, r3, r4, r5, r6, r7, r8, r9, r10, r11, r12, r13⟩ : Rul) (⟨d0, d1, d2, d3, d4, d5, d6, d7, d8, d9, d10, d11⟩ : Del)).ls : Option (List PV)) = RR
 simp only [N6, XM, TY, Wh, std, xOf, PXb, PXc, PXn, PXm, Nat.reduceAdd, Int.reduceBEq, f7, lC, ru]
 subst hres; simp only [BC, ui]
 cases hl : F3 (⟨d0, d1, d2, d3, d4, d5, d6, d7, d8, d9, d10, d11⟩ : Del) == 0 with
 | false => rfl
 | true =>
  simp only [PXb, PXc, PXn, PXm, Nat.reduceAdd, Int.reduceBEq]
  cases h0 : d0 == 2 <;> cases h3 : d0 == 3 <;> cases h1 : d1 == 1 <;> cases h2 : d1 == 2 <;> cases h4 : d1 == 3 <;> first
   | rfl
   | (rw [P8 h0 (c := 3) rfl] at h3; exact absurd h3 (by decide))
   | (rw [P8 h1 (c := 2) rfl] at h2; exact absurd h2 (by decide))
   | (rw [P8 h1 (c := 3) rfl] at h4; exact absurd h4 (by decide))
   | (rw [P8 h2 (c := 3) rfl] at h4; exact absurd h4 (by decide))
end Go.Px
end
section
namespace Go.Px
set_option maxRecDepth 100000
def onS (h t : Int) : Bool :=
 cond (h == 1 || h == 2 || h == 3) (t == 1) (cond (h == 4 || h == 5) (t == 1 || t == 2) (cond (h == 7) (t == 1 || t == 3) (cond (h == 6 || h == 8) (t == 1 || t == 2 || t == 3) false)))
def ee (h : Int) : Bool := h == 6 || h == 7 || h == 8
def Qa (h : Int) : Bool := h == 6 || h == 8
def V4 (h : Int) : Bool := h == 2 || h == 4 || h == 6
theorem pS {N : Nat} {h : Int}  : Jj N [.int h] = some [.bool (ee h)] := by
 show PY (std (YQ N) N) (xOf _) = _
 simp only [PY, std, xOf, PXb, PXc, PXn, PXm, Nat.reduceAdd, Int.reduceBEq, ee]
theorem we {N : Nat} {h : Int} {t : Int}  : T1 N [.int h, .int t] = some [.bool (onS h t)] := by
 show Y3 (std (jg N) N) (xOf _) = _
 simp only [Y3, std, xOf, PXb, PXc, PXn, PXm, Nat.reduceAdd, Int.reduceBEq]
 unfold onS
 simp only [Bool.or_assoc, PXb, PXc, PXn, PXm, Nat.reduceAdd, Int.reduceBEq]
theorem l8 {N : Nat} {h : Int}  : HX N [.int h] = some [.bool (V4 h), .bool (V4 h), .bool (h == 6)] := by
 show Kw (std (Tx N) N) (xOf _) = _
 simp only [Kw, std, xOf, PXb, PXc, PXn, PXm, Nat.reduceAdd, Int.reduceBEq, V4]
def TD (d : Del) (free : Bool) : Int :=
  cond (d.how == 0) (cond (!(d.victim == 0)) 14 (cond (!(d.fielder == 0) || !(d.second == 0) || d.sub) 15 0))
    (cond (!onS d.how d.type || free && !ee d.how) 13 (cond (!Qa d.how && (!(d.source == 0) || !(d.runs == 0))) 12
      (cond (!(d.victim == 1) && !(d.victim == 2 && Qa d.how)) 14
        (cond (V4 d.how && !btw d.fielder 1 11 || !V4 d.how && !(d.fielder == 0)) 15
          (cond (!(d.second == 0) && (!(d.how == 6) || !btw d.second 1 11 || d.second == d.fielder)) 15
            (cond (d.sub && !(d.how == 2) && !(d.how == 6)) 18 0))))))
theorem lD {N : Nat} {d0 d1 d2 d3 d4 d6 d7 d8 d9 d11 : Int} {d5 d10 : Bool} {f : Bool}  : Kq N [.int d0, .int d1, .int d2, .int d3, .int d4, .bool d5, .int d6, .int d7, .int d8, .int d9, .bool d10, .int d11, .bool f] = some [.int (TD (⟨d0, d1, d2, d3, d4, d5, d6, d7, d8, d9, d10, d11⟩ : Del) f)] := by
 show Ky (std (E7 N) N) (xOf _) = _
 generalize hres : (some [.int (TD (⟨d0, d1, d2, d3, d4, d5, d6, d7, d8, d9, d10, d11⟩ : Del) f)] : Option (List PV)) = RR
 simp only [Ky, Rw, Xt, To, std, xOf, PXb, PXc, PXn, PXm, Nat.reduceAdd, Int.reduceBEq, we, pS, l8]
 subst hres; simp only [TD, yC, Qa, Bool.not_or, Bool.not_and, Bool.or_assoc]
 cases onS d6 d0 <;> cases f <;> cases ee d6 <;> rfl
def Bm : Rows := match Bd 0 [] with
 | some [.rows l] => l
 | _ => []
theorem Sj {N : Nat} : Bd N [] = some [.rows Bm] := rfl
theorem iY : Bm.length = 11 := rfl
theorem dg {N : Nat} {h : Int} {n : ByteArray} {b : Bool} {c : Bool} {d : Bool} {e : Bool} {x : Bool} {t : Int}  : Dz N [.int h, .str n, .bool b, .bool c, .bool d, .bool e, .bool x, .int t] = some [.bool (t == 1 && b || t == 2 && c || t == 3 && d)] := by
 show GF (std (OV N) N) (xOf _) = _
 simp only [GF, std, xOf, PXb, PXc, PXn, PXm, Nat.reduceAdd, Int.reduceBEq]
theorem XQ {N : Nat} {n : Int}  : Cf N [.int n] = some [.bool (btw n 1 11)] := by
 show Dm (std (KL N) N) (xOf _) = _
 simp only [Dm, std, xOf, PXb, PXc, PXn, PXm, Nat.reduceAdd, Int.reduceBEq]
 rfl
def tO (i j : Nat) : Bool := pvB (AG Bm i j)
def wOk (t : Int) (free : Bool) (i : Nat) : Bool :=
  (t == 1 && tO i 2 || t == 2 && tO i 3 || t == 3 && tO i 4) && (!free || atI Bm i 0 == 6 || atI Bm i 0 == 7 || atI Bm i 0 == 8)
def IK (t : Int) (free : Bool) : Nat → Rows
 | 0 => []
 | i + 1 => cond (wOk t free i) (IK t free i ++ [[.int (atI Bm i 0)]]) (IK t free i)
theorem iJ (t : Int) (free : Bool) : ∀ i, (IK t free i).length ≤ i
 | 0 => Nat.le_refl _
 | i + 1 => by
  have := iJ t free i
  unfold IK
  cases wOk t free i
  ·exact Nat.le_succ_of_le this
  ·simp; exact this
theorem hG {N : Nat} {t : Int} {f : Bool} (hN : 2097152 < N) : FW N [.int t, .bool f] = some [.rows (IK t f 11)] := by
 show IE (std (GC N) N) (xOf _) = _
 simp only [IE, Ml, L1, std, xOf, PXb, PXc, PXn, AA, Sj, dg]
 refine AK (Dg (len := Bm.length) (fun i => [.rows (IK t f i), .int (i : Int)]) [.rows (IK t f 11)] ?_ ?_ N (by rw [iY]; omega)) rfl
 ·intro self
  simp only [PXb, PXc, PXn, AA, Aj]
  rfl
 ·intro i self hi
  have hi2 : i < 11 := hi
  have h2 : (IK t f i ++ [[PV.int (atI Bm i 0)]]).length ≤ 4194304 := by have := iJ t f i; simp; omega
  simp only [PXb, PXc, AA, AN (show i ≤ 1099511627776 by omega), Ae hi, AP hi, A2, IK, Gx h2 (show 1 ≤ 4096 by omega)]
  unfold wOk tO
  cases ((t == 1 && pvB (AG Bm i 2) || t == 2 && pvB (AG Bm i 3) || t == 3 && pvB (AG Bm i 4)) && (!f || atI Bm i 0 == 6 || atI Bm i 0 == 7 || atI Bm i 0 == 8)) <;> rfl
theorem bn {N : Nat} {L : Rows} {v : Int} (hN : L.length < N) (hl : L.length ≤ 1048576) : D3 N [.rows L, .int v] = some [.int (SO (fun j => v == atI L j 0) L.length)] := by
 show F6 (std (N2 N) N) (xOf _) = _
 simp only [F6, std, xOf, PXb, PXc, PXn, AA]
 refine AK (Cc (len := L.length) (Gg fun j => v == atI L j 0) ?_ ?_ L.length 0 N (by omega) (by omega)) ?_
 ·intro self
  simp only [PXb, PXc, PXn, AA, Aj]
 ·intro i self hi
  simp only [PXb, PXc, PXn, AA, AN (show i ≤ 1099511627776 by omega), Ae hi, AP hi, Gg, A2]
  cases v == atI L i 0 <;> rfl
 ·unfold SO
  cases B8 (Gg fun j => v == atI L j 0) L.length 0 <;> rfl
theorem Xo {N : Nat} {L : Rows} {v : Int} (hN : L.length < N) (hl : L.length ≤ 1048576) : C1 N [.rows L, .int v] = some [.bool (G4 L L.length v)] := by
 show EA (std (Fk N) N) (xOf _) = _
 simp only [EA, JI, std, xOf, PXb, PXc, PXn, AA, bn hN hl, Kh, G4]
theorem w8 (L : Rows) (v : Int) : G4 L L.length v = LM (fun x => v == x) L := rfl
theorem yF (p : Int → Bool) (b : Bool) (L : Rows) (x : Int) : LM p (cond b (L ++ [[.int x]]) L) = (LM p L || (b && p x)) := by
 cases b with
 | false => simp
 | true => rw [cond_true, qF, Bool.true_and]; congr 1; rw [QO]; simp [AJ, pvI]
theorem oX (t : Int) (free : Bool) (p : Int → Bool) : ∀ i, LM p (IK t free i) = Ah (fun j => wOk t free j && p (atI Bm j 0)) i 0
 | 0 => rfl
 | i + 1 => by rw [eG, ← oX t free p i, IK, yF, Nat.zero_add]
theorem wi (t h : Int) (free : Bool) : G4 (IK t free 11) (IK t free 11).length h = (onS h t && (!free || ee h)) := by
 rw [w8, oX]
 have key : ∀ j, j < 11 → atI Bm j 0 = j := by
  intro j hj
  have : j = 0 ∨ j = 1 ∨ j = 2 ∨ j = 3 ∨ j = 4 ∨ j = 5 ∨ j = 6 ∨ j = 7 ∨ j = 8 ∨ j = 9 ∨ j = 10 := by omega
  rcases this with h | h | h | h | h | h | h | h | h | h | h <;> subst h <;> rfl
 by_cases hr : 0 ≤ h ∧ h ≤ 10
 ·obtain ⟨k, rfl⟩ : ∃ k : Nat, h = k := ⟨h.toNat, by omega⟩
  have : k = 0 ∨ k = 1 ∨ k = 2 ∨ k = 3 ∨ k = 4 ∨ k = 5 ∨ k = 6 ∨ k = 7 ∨ k = 8 ∨ k = 9 ∨ k = 10 := by omega
  rcases this with h | h | h | h | h | h | h | h | h | h | h <;> subst h <;> simp only [BK, Hw, wOk, onS] <;> cases free <;> cases t == 1 <;> cases t == 2 <;> cases t == 3 <;> rfl
 ·rw [GX.2 fun j _ hj => by
   rw [key j (by omega), show (h == (j : Int)) = false from beq_false_of_ne (by omega), Bool.and_false]]
  have e : ∀ n : Int, 0 ≤ n → n ≤ 10 → (h == n) = false := fun n h0 h1 => beq_false_of_ne (by omega)
  unfold onS
  rw [e 1 (by omega) (by omega), e 2 (by omega) (by omega), e 3 (by omega) (by omega), e 4 (by omega) (by omega), e 5 (by omega) (by omega), e 6 (by omega) (by omega), e 7 (by omega) (by omega), e 8 (by omega) (by omega)]
  rfl
def Yt (h : Int) : List PV := match B8 (fun i => cond (atI Bm i 0 == h) (some [.int (pvI (AG Bm i 0)), .str (pvS (AG Bm i 1)), .bool (pvB (AG Bm i 2)), .bool (pvB (AG Bm i 3)), .bool (pvB (AG Bm i 4)), .bool (pvB (AG Bm i 5)), .bool (pvB (AG Bm i 6))]) none) 11 0 with
 | some r => r
 | none => [.int 0, .str ⟨#[]⟩, .bool false, .bool false, .bool false, .bool false, .bool false]
theorem TI {ans : Nat → Option (List PV)} {r : List PV} : ∀ (k i : Nat), B8 ans k i = some r → ∃ j, i ≤ j ∧ j < i + k ∧ ans j = some r
 | 0, i, h => by cases h
 | k + 1, i, h => by
  simp only [B8] at h
  cases ha : ans i with
  | some x => rw [ha] at h; cases h; exact ⟨i, Nat.le_refl _, by omega, ha⟩
  | none =>
   rw [ha] at h
   obtain ⟨j, h1, h2, h3⟩ := TI k (i + 1) h
   exact ⟨j, by omega, by omega, h3⟩
theorem wO (h : Int) : ∃ a b c d e f g, Yt h = [.int a, .str b, .bool c, .bool d, .bool e, .bool f, .bool g] := by
 unfold Yt
 generalize hf : B8 _ 11 0 = o
 cases o with
 | none => exact ⟨_, _, _, _, _, _, _, rfl⟩
 | some r =>
  obtain ⟨j, _, _, h3⟩ := TI _ _ hf
  cases hb : atI Bm j 0 == h with
  | false => rw [hb] at h3; cases h3
  | true => rw [hb] at h3; cases h3; exact ⟨_, _, _, _, _, _, _, rfl⟩
theorem mO {N : Nat} {h : Int} (hN : 2097152 < N) : HH N [.int h] = some (Yt h) := by
 show Kp (std (Mr N) N) (xOf _) = _
 simp only [Kp, OD, std, xOf, PXb, PXc, PXn, AA, Sj]
 refine AK (Cc (len := Bm.length) (fun i => cond (atI Bm i 0 == h) (some [.int (pvI (AG Bm i 0)), .str (pvS (AG Bm i 1)), .bool (pvB (AG Bm i 2)), .bool (pvB (AG Bm i 3)), .bool (pvB (AG Bm i 4)), .bool (pvB (AG Bm i 5)), .bool (pvB (AG Bm i 6))]) none) ?_ ?_ Bm.length 0 N (by omega) (by rw [iY]; omega)) ?_
 ·intro self
  simp only [PXb, PXc, PXn, AA, Aj]
 ·intro i self hi
  have hi2 : i < 11 := hi
  simp only [PXb, PXc, PXn, AA, AN (show i ≤ 1099511627776 by omega), Ae hi, AP hi, A2]
  cases atI Bm i 0 == h <;> rfl
 ·unfold Yt
  rw [iY]
  generalize hf : B8 _ 11 0 = o
  cases o with
  | none => rfl
  | some r =>
   obtain ⟨j, _, _, h3⟩ := TI _ _ hf
   cases hb : atI Bm j 0 == h with
   | false => rw [hb] at h3; cases h3
   | true => rw [hb] at h3; cases h3; rfl
theorem vI (h : Int) : pvB (AJ (Yt h) 5) = V4 h ∧ pvB (AJ (Yt h) 6) = Qa h := by
 by_cases hr : 0 ≤ h ∧ h ≤ 10
 ·obtain ⟨k, rfl⟩ : ∃ k : Nat, h = k := ⟨h.toNat, by omega⟩
  have : k = 0 ∨ k = 1 ∨ k = 2 ∨ k = 3 ∨ k = 4 ∨ k = 5 ∨ k = 6 ∨ k = 7 ∨ k = 8 ∨ k = 9 ∨ k = 10 := by omega
  rcases this with h | h | h | h | h | h | h | h | h | h | h <;> subst h <;> exact ⟨rfl, rfl⟩
 ·have e : ∀ n : Int, 0 ≤ n → n ≤ 10 → (h == n) = false := fun n h0 h1 => beq_false_of_ne (by omega)
  have key : ∀ j, j < 11 → atI Bm j 0 = j := by
   intro j hj
   have : j = 0 ∨ j = 1 ∨ j = 2 ∨ j = 3 ∨ j = 4 ∨ j = 5 ∨ j = 6 ∨ j = 7 ∨ j = 8 ∨ j = 9 ∨ j = 10 := by omega
   rcases this with h | h | h | h | h | h | h | h | h | h | h <;> subst h <;> rfl
  unfold Yt
  generalize hf : B8 _ 11 0 = o
  cases o with
  | none =>
   unfold V4 Qa
   rw [e 2 (by omega) (by omega), e 4 (by omega) (by omega), e 6 (by omega) (by omega), e 8 (by omega) (by omega)]
   exact ⟨rfl, rfl⟩
  | some r =>
   obtain ⟨j, _, hj, h3⟩ := TI _ _ hf
   rw [key j (by omega), show ((j : Int) == h) = false from beq_false_of_ne (by omega)] at h3
   cases h3
def RJ (d : Del) (m : Bool) : Bool :=
 !(!(m == btw d.fielder 1 11) || !m && !(d.fielder == 0)) && (d.second == 0 || d.how == 6 && btw d.second 1 11 && !(d.second == d.fielder))
theorem Yi {N : Nat} {d0 d1 d2 d3 d4 d6 d7 d8 d9 d11 : Int} {d5 d10 : Bool} {a : Int} {n : ByteArray} {b : Bool} {c : Bool} {e : Bool} {f : Bool} {g : Bool}  : DE N [.int d0, .int d1, .int d2, .int d3, .int d4, .bool d5, .int d6, .int d7, .int d8, .int d9, .bool d10, .int d11, .int a, .str n, .bool b, .bool c, .bool e, .bool f, .bool g] = some [.bool (RJ (⟨d0, d1, d2, d3, d4, d5, d6, d7, d8, d9, d10, d11⟩ : Del) f)] := by
 show Ee (std (Gh N) N) (xOf _) = _
 generalize hres : (some [.bool (RJ (⟨d0, d1, d2, d3, d4, d5, d6, d7, d8, d9, d10, d11⟩ : Del) f)] : Option (List PV)) = RR
 simp only [Ee, Hr, std, xOf, PXb, PXc, PXn, PXm, Nat.reduceAdd, Int.reduceBEq, XQ]
 subst hres; simp only [RJ]
 cases d9 == 0 <;> cases d6 == 6 <;> cases f <;> cases btw d8 1 11 <;> cases d8 == 0 <;> first | rfl | (cases btw d9 1 11 <;> rfl)
theorem yp {α : Type} (a b : Bool) (x y : α) : cond (a || b) x y = cond a x (cond b x y) := by cases a <;> rfl
theorem rV (d : Del) (m : Bool) : (!RJ d m) = ((m && !btw d.fielder 1 11 || !m && !(d.fielder == 0)) || (!(d.second == 0) && (!(d.how == 6) || !btw d.second 1 11 || d.second == d.fielder))) := by
 unfold RJ
 cases hb : btw d.fielder 1 11 <;> cases hf : d.fielder == 0
 ·cases m <;> cases d.second == 0 <;> cases d.how == 6 <;> cases btw d.second 1 11 <;> cases d.second == d.fielder <;> rfl
 ·cases m <;> cases d.second == 0 <;> cases d.how == 6 <;> cases btw d.second 1 11 <;> cases d.second == d.fielder <;> rfl
 ·cases m <;> cases d.second == 0 <;> cases d.how == 6 <;> cases btw d.second 1 11 <;> cases d.second == d.fielder <;> rfl
 ·rw [beq_iff_eq.1 hf] at hb; exact absurd hb (by decide)
theorem ZD {N : Nat} {d0 d1 d2 d3 d4 d6 d7 d8 d9 d11 : Int} {d5 d10 : Bool} {f : Bool} (hN : 2097152 < N) : DF N [.int d0, .int d1, .int d2, .int d3, .int d4, .bool d5, .int d6, .int d7, .int d8, .int d9, .bool d10, .int d11, .bool f] = some [.int (TD (⟨d0, d1, d2, d3, d4, d5, d6, d7, d8, d9, d10, d11⟩ : Del) f)] := by
 show El (std (Bv N) N) (xOf _) = _
 generalize hres : (some [.int (TD (⟨d0, d1, d2, d3, d4, d5, d6, d7, d8, d9, d10, d11⟩ : Del) f)] : Option (List PV)) = RR
 have hl := iJ d0 f 11
 obtain ⟨a, b, c, d, e, m, g, hline⟩ := wO d6
 have hbits := vI d6
 rw [hline] at hbits
 have hm : m = V4 d6 := hbits.1
 have hg : g = Qa d6 := hbits.2
 have h1 : (IK d0 f 11).length < N := by omega
 have h2 : (IK d0 f 11).length ≤ 1048576 := by omega
 simp only [El, L0, H3, Ki, Ij, std, xOf, PXb, PXc, PXn, PXm, Nat.reduceAdd, Int.reduceBEq, mO hN, hline, hG hN, Xo h1 h2, wi, Yi, rV]
 subst hres; simp only [TD, yp]
 rw [hm, hg]
 unfold Qa
 cases d6 == 0 <;> cases onS d6 d0 <;> cases f <;> cases ee d6 <;> try rfl
 all_goals (cases d6 == 6 <;> cases d6 == 8 <;> cases d7 == 2 <;> rfl)
end Go.Px
end
section
namespace Go.Px
set_option maxRecDepth 100000
theorem ck {N : Nat} {a : Int} {b : Int} {c : Int}  : Dv N [.int a, .int b, .int c] = some [.bool (btw a b c)] := by
 show J4 (std (Ob N) N) (xOf _) = _
 show some [PV.bool (cond (iLe b a) (iLe a c) false)] = _
 rw [Qd]; rfl
theorem w7 {N : Nat} {a : Int} {b : Int} {c : Int}  : UG N [.int a, .int b, .int c] = some [.bool (btw a b c)] := by
 show im (std (jN N) N) (xOf _) = _
 show some [PV.bool (cond (iLe b a) (iLe a c) false)] = _
 rw [Qd]; rfl
theorem kC {N : Nat} {a : Int} {b : Int} {c : Int}  : GO N [.int a, .int b, .int c] = some [.bool (btw a b c)] := by
 show OZ (std (Sr N) N) (xOf _) = _
 show some [PV.bool (cond (iLe b a) (iLe a c) false)] = _
 rw [Qd]; rfl
theorem wx {N : Nat} {a : Int} {b : Int} {c : Int}  : UN N [.int a, .int b, .int c] = some [.bool (btw a b c)] := by
 show ip (std (jf N) N) (xOf _) = _
 show some [PV.bool (cond (iLe b a) (iLe a c) false)] = _
 rw [Qd]; rfl
def Yq (d : Del) : Int :=
  cond (iLt d.type 1 || iLt 3 d.type || iLt 3 d.source || iLt 10 d.how) 3
    (cond (!btw d.runs 0 7 || !btw d.short 0 d.runs || (!(d.boundary == 0) && !(d.boundary == 4) && !(d.boundary == 6)) || !btw d.victim 0 2 || !btw d.fielder 0 11 || !btw d.second 0 11 || !btw d.sector 0 8) 2 0)
theorem iT {N : Nat} {d0 d1 d2 d3 d4 d6 d7 d8 d9 d11 : Int} {d5 d10 : Bool}  : FM N [.int d0, .int d1, .int d2, .int d3, .int d4, .bool d5, .int d6, .int d7, .int d8, .int d9, .bool d10, .int d11] = some [.int (Yq (⟨d0, d1, d2, d3, d4, d5, d6, d7, d8, d9, d10, d11⟩ : Del))] := by
 show H8 (std (Jq N) N) (xOf _) = _
 generalize hres : (some [.int (Yq (⟨d0, d1, d2, d3, d4, d5, d6, d7, d8, d9, d10, d11⟩ : Del))] : Option (List PV)) = RR
 simp only [H8, Lb, std, xOf, PXb, PXc, PXn, PXm, Nat.reduceAdd, Int.reduceBEq, ck]
 subst hres; simp only [Yq]
theorem sD {N : Nat} {d0 d1 d2 d3 d4 d6 d7 d8 d9 d11 : Int} {d5 d10 : Bool}  : Lo N [.int d0, .int d1, .int d2, .int d3, .int d4, .bool d5, .int d6, .int d7, .int d8, .int d9, .bool d10, .int d11] = some [.int (Yq (⟨d0, d1, d2, d3, d4, d5, d6, d7, d8, d9, d10, d11⟩ : Del))] := by
 show Qo (std (SB N) N) (xOf _) = _
 generalize hres : (some [.int (Yq (⟨d0, d1, d2, d3, d4, d5, d6, d7, d8, d9, d10, d11⟩ : Del))] : Option (List PV)) = RR
 simp only [Qo, dx, std, xOf, PXb, PXc, PXn, PXm, Nat.reduceAdd, Int.reduceBEq, w7]
 subst hres; simp only [Yq]
def loS (k : Int) : Int := cond (k == 7) 0 (cond (k == 13) 1 0)
def hiS (k : Int) : Int := cond (k == 7) 11 (cond (k == 13) 99 100000)
theorem lu {N : Nat} {k : Int}  : He N [.int k] = some [.int (loS k), .int (hiS k)] := by
 show KX (std (Uc N) N) (xOf _) = _
 simp only [KX, std, xOf, PXb, PXc, PXn, PXm, Nat.reduceAdd, Int.reduceBEq]
 unfold loS hiS
 cases k == 7 <;> cases k == 13 <;> rfl
theorem uh {N : Nat} {k : Int}  : Oj N [.int k] = some [.int (loS k), .int (hiS k)] := by
 show Sw (std (cU N) N) (xOf _) = _
 simp only [Sw, std, xOf, PXb, PXc, PXn, PXm, Nat.reduceAdd, Int.reduceBEq]
 unfold loS hiS
 cases k == 7 <;> cases k == 13 <;> rfl
def uS (k : Int) : Bool := k == 1 || k == 12 || k == 14 || k == 11 || k == 13
def uP (k : Int) : Bool := k == 2 || k == 3 || k == 8 || k == 5 || k == 6 || k == 9
def uO (k : Int) : Bool := k == 2
def uY (k : Int) : Bool := k == 1 || k == 12 || k == 14 || k == 5 || k == 6 || k == 9
def uR (k : Int) : Bool := k == 7 || k == 13 || k == 15
def uV (k : Int) : Bool := k == 15
def uB (k : Int) : Bool := k == 4
theorem YE {k : Int} (h : (iLt k 1 || iLt 16 k) = false) : k = 1 ∨ k = 2 ∨ k = 3 ∨ k = 4 ∨ k = 5 ∨ k = 6 ∨ k = 7 ∨ k = 8 ∨ k = 9 ∨ k = 10 ∨ k = 11 ∨ k = 12 ∨ k = 13 ∨ k = 14 ∨ k = 15 ∨ k = 16 := by
 simp only [iLt, Bool.or_eq_false_iff, decide_eq_false_iff_not] at h
 omega
theorem w4 {k : Int} (h : (iLt k 1 || iLt 16 k) = true) (n : Int) (h1 : 1 ≤ n) (h2 : n ≤ 16) : (k == n) = false := by
 simp only [iLt, Bool.or_eq_true, decide_eq_true_eq] at h
 exact beq_false_of_ne (by omega)
def uJ : Rows := match Ft 0 [] with
 | some [.rows l] => l
 | _ => []
theorem nq {N : Nat} : Ft N [] = some [.rows uJ] := rfl
def DQ (k f : Int) : Bool := iLe 0 (Lib.indexByte (pvS (AG uJ (IntKind.u8.wrap (k - 1)).toNat 1)).data.toList f.toNat.toUInt8) || (k == 5 && f == 121)
theorem bK {N : Nat} {s : ByteArray} {f : Int}  : DV N [.str s, .int f] = some [.int (Lib.indexByte s.data.toList f.toNat.toUInt8)] := by
 show Fd (std (HB N) N) (xOf _) = _
 simp only [Fd, Hq, std, xOf, PXb, PXc, PXn, PXm, Nat.reduceAdd, Int.reduceBEq, CT, jy]
theorem cx {N : Nat} {k : Int} {f : Int} (h : (iLt k 1 || iLt 16 k) = false) : KF N [.int k, .int f] = some [.bool (DQ k f)] := by
 show Og (std (KZ N) N) (xOf _) = _
 have hi : iIn (IntKind.u8.wrap (k - 1)) (uJ.length : Int) = true := by
  rcases YE h with h | h | h | h | h | h | h | h | h | h | h | h | h | h | h | h <;> subst h <;> rfl
 simp only [Og, PH, VA, std, xOf, PXb, PXc, PXn, PXm, Nat.reduceAdd, Int.reduceBEq, nq, bK, hi, DQ]
theorem xy {k : Int} (h : (iLt k 1 || iLt 16 k) = false) : DQ k 115 = uS k ∧ DQ k 112 = uP k ∧ DQ k 111 = uO k ∧ DQ k 121 = uY k ∧ DQ k 114 = uR k ∧ DQ k 118 = uV k ∧ DQ k 98 = uB k := by
 rcases YE h with h | h | h | h | h | h | h | h | h | h | h | h | h | h | h | h <;> subst h <;> exact ⟨rfl, rfl, rfl, rfl, rfl, rfl, rfl⟩
def oM (d : Del) : Bool := d.type == 0 && (d.source == 0 && (d.runs == 0 && (d.short == 0 && (d.boundary == 0 && (d.crossed == false && (d.how == 0 && (d.victim == 0 && (d.fielder == 0 && (d.second == 0 && (d.sub == false && d.sector == 0))))))))))
def mA (e : Ev) : Bool := (!(e.side == 0) && !uS e.kind) || ((!(e.player == 0) && !uP e.kind) || ((!(e.other == 0) && !uO e.kind) || ((e.yes && !uY e.kind) || ((!(e.runs == 0) && !uR e.kind) || ((!(e.overs == 0) && !uV e.kind) || (!oM e.ball && !uB e.kind))))))
def dj (e : Ev) : Bool := (!btw e.side 1 2 && uS e.kind) || ((!btw e.player 1 11 && uP e.kind) || ((!btw e.other 1 11 && uO e.kind) || ((!btw e.runs (loS e.kind) (hiS e.kind) && uR e.kind) || (!btw e.overs 0 90 && uV e.kind))))
def evS (e : Ev) : Int := cond (iLt e.kind 1 || iLt 16 e.kind) 3 (cond (mA e) 1 (cond (dj e) 2 (cond (e.kind == 4) (Yq e.ball) 0)))
def evT (e : Ev) : Rows := [[.int 115, .bool (e.side == 0), .bool (btw e.side 1 2)], [.int 112, .bool (e.player == 0), .bool (btw e.player 1 11)], [.int 111, .bool (e.other == 0), .bool (btw e.other 1 11)], [.int 121, .bool (!e.yes), .bool true], [.int 114, .bool (e.runs == 0), .bool (btw e.runs (loS e.kind) (hiS e.kind))], [.int 118, .bool (e.overs == 0), .bool (btw e.overs 0 90)], [.int 98, .bool (oM e.ball), .bool true]]
theorem aP {N : Nat} {e0 e1 e2 e3 e5 e6 e7 e8 e9 e10 e11 e13 e14 e15 e16 e18 : Int} {e4 e12 e17 : Bool} (hN : 2097152 < N) : DL N [.int e0, .int e1, .int e2, .int e3, .bool e4, .int e5, .int e6, .int e7, .int e8, .int e9, .int e10, .int e11, .bool e12, .int e13, .int e14, .int e15, .int e16, .bool e17, .int e18] = some [.int (evS (⟨e0, e1, e2, e3, e4, e5, e6, ⟨e7, e8, e9, e10, e11, e12, e13, e14, e15, e16, e17, e18⟩⟩ : Ev))] := by
 show Iu (std (D7 N) N) (xOf _) = _
 generalize hres : (some [.int (evS (⟨e0, e1, e2, e3, e4, e5, e6, ⟨e7, e8, e9, e10, e11, e12, e13, e14, e15, e16, e17, e18⟩⟩ : Ev))] : Option (List PV)) = RR
 cases hk : iLt e0 1 || iLt 16 e0 with
 | true =>
  simp only [Iu, I3, Hv, J1, Di, std, xOf, PXb, PXc, AA, hk, ← hres, evS]
 | false =>
  simp only [Iu, I3, Hv, J1, Di, std, xOf, PXb, PXc, AA, hk, lu, kC]
  subst hres
  obtain ⟨g1, g2, g3, g4, g5, g6, g7⟩ := xy hk
  refine AK (A7 (len := 7) (fun i => !pvB (AG (evT (⟨e0, e1, e2, e3, e4, e5, e6, ⟨e7, e8, e9, e10, e11, e12, e13, e14, e15, e16, e17, e18⟩⟩ : Ev)) i 1) && !DQ e0 (pvI (AG (evT (⟨e0, e1, e2, e3, e4, e5, e6, ⟨e7, e8, e9, e10, e11, e12, e13, e14, e15, e16, e17, e18⟩⟩ : Ev)) i 0))) [.int 1] ?_ ?_ N (by omega)) ?_
  ·intro self
   rfl
  ·intro i self hi
   simp only [PXb, PXc, AA, AN (show i ≤ 1099511627776 by omega), List.length_cons, List.length_nil, Nat.reduceAdd, Ae hi, AP hi, cx hk]
   change cond (!pvB (AG (evT (⟨e0, e1, e2, e3, e4, e5, e6, ⟨e7, e8, e9, e10, e11, e12, e13, e14, e15, e16, e17, e18⟩⟩ : Ev)) i 1) && !(!pvB (AG (evT (⟨e0, e1, e2, e3, e4, e5, e6, ⟨e7, e8, e9, e10, e11, e12, e13, e14, e15, e16, e17, e18⟩⟩ : Ev)) i 1) && DQ e0 (pvI (AG (evT (⟨e0, e1, e2, e3, e4, e5, e6, ⟨e7, e8, e9, e10, e11, e12, e13, e14, e15, e16, e17, e18⟩⟩ : Ev)) i 0)))) _ _ = _
   cases pvB (AG (evT (⟨e0, e1, e2, e3, e4, e5, e6, ⟨e7, e8, e9, e10, e11, e12, e13, e14, e15, e16, e17, e18⟩⟩ : Ev)) i 1) <;> rfl
  ·have a1 : Ah (fun i => !pvB (AG (evT (⟨e0, e1, e2, e3, e4, e5, e6, ⟨e7, e8, e9, e10, e11, e12, e13, e14, e15, e16, e17, e18⟩⟩ : Ev)) i 1) && !DQ e0 (pvI (AG (evT (⟨e0, e1, e2, e3, e4, e5, e6, ⟨e7, e8, e9, e10, e11, e12, e13, e14, e15, e16, e17, e18⟩⟩ : Ev)) i 0))) 7 0 = mA (⟨e0, e1, e2, e3, e4, e5, e6, ⟨e7, e8, e9, e10, e11, e12, e13, e14, e15, e16, e17, e18⟩⟩ : Ev) := by
    simp only [BK, Hw]
    change (!(e1 == 0) && !DQ e0 115 || (!(e2 == 0) && !DQ e0 112 || (!(e3 == 0) && !DQ e0 111 || (!(!e4) && !DQ e0 121 || (!(e5 == 0) && !DQ e0 114 || (!(e6 == 0) && !DQ e0 118 || (!(oM (⟨e0, e1, e2, e3, e4, e5, e6, ⟨e7, e8, e9, e10, e11, e12, e13, e14, e15, e16, e17, e18⟩⟩ : Ev).ball) && !DQ e0 98 || false))))))) = _
    rw [g1, g2, g3, g4, g5, g6, g7, Bool.not_not, Bool.or_false]
    rfl
   rw [a1]
   simp only [evS, hk, cond_false]
   cases mA (⟨e0, e1, e2, e3, e4, e5, e6, ⟨e7, e8, e9, e10, e11, e12, e13, e14, e15, e16, e17, e18⟩⟩ : Ev) with
   | true => rfl
   | false =>
    simp only [PXb, PXc, AA]
    refine AK (A7 (len := 7) (fun i => !pvB (AG (evT (⟨e0, e1, e2, e3, e4, e5, e6, ⟨e7, e8, e9, e10, e11, e12, e13, e14, e15, e16, e17, e18⟩⟩ : Ev)) i 2) && DQ e0 (pvI (AG (evT (⟨e0, e1, e2, e3, e4, e5, e6, ⟨e7, e8, e9, e10, e11, e12, e13, e14, e15, e16, e17, e18⟩⟩ : Ev)) i 0))) [.int 2] ?_ ?_ N (by omega)) ?_
    ·intro self
     rfl
    ·intro i self hi
     simp only [PXb, PXc, AA, AN (show i ≤ 1099511627776 by omega), List.length_cons, List.length_nil, Nat.reduceAdd, Ae hi, AP hi, cx hk]
     rfl
    ·have a2 : Ah (fun i => !pvB (AG (evT (⟨e0, e1, e2, e3, e4, e5, e6, ⟨e7, e8, e9, e10, e11, e12, e13, e14, e15, e16, e17, e18⟩⟩ : Ev)) i 2) && DQ e0 (pvI (AG (evT (⟨e0, e1, e2, e3, e4, e5, e6, ⟨e7, e8, e9, e10, e11, e12, e13, e14, e15, e16, e17, e18⟩⟩ : Ev)) i 0))) 7 0 = dj (⟨e0, e1, e2, e3, e4, e5, e6, ⟨e7, e8, e9, e10, e11, e12, e13, e14, e15, e16, e17, e18⟩⟩ : Ev) := by
      simp only [BK, Hw]
      change (!(btw e1 1 2) && DQ e0 115 || (!(btw e2 1 11) && DQ e0 112 || (!(btw e3 1 11) && DQ e0 111 || (!true && DQ e0 121 || (!(btw e5 (loS e0) (hiS e0)) && DQ e0 114 || (!(btw e6 0 90) && DQ e0 118 || (!true && DQ e0 98 || false))))))) = _
      rw [g1, g2, g3, g4, g5, g6, g7]
      simp only [Bool.not_true, Bool.false_and, Bool.false_or, Bool.or_false]
      rfl
     rw [a2]
     cases dj (⟨e0, e1, e2, e3, e4, e5, e6, ⟨e7, e8, e9, e10, e11, e12, e13, e14, e15, e16, e17, e18⟩⟩ : Ev) with
     | true => rfl
     | false =>
      simp only [PXb, PXc, PXn, PXm, Nat.reduceAdd, Int.reduceBEq, Di, iT]
theorem pk {N : Nat} (k : Int) : KM N [.int k] = some [.bool (uS k), .bool (uP k), .bool (uO k), .bool (uY k), .bool (uR k), .bool (uV k), .bool (uB k), .bool (!(iLt k 1 || iLt 16 k))] := by
 cases hk : iLt k 1 || iLt 16 k with
 | false => rcases YE hk with h | h | h | h | h | h | h | h | h | h | h | h | h | h | h | h <;> subst h <;> rfl
 | true =>
  have n := w4 hk
  show PC (std (X2 N) N) (xOf _) = _
  unfold uS uP uO uY uR uV uB
  simp only [PC, std, xOf, PXb, PXc, PXn, PXm, Nat.reduceAdd, Int.reduceBEq, n 1 (by omega) (by omega), n 2 (by omega) (by omega), n 3 (by omega) (by omega), n 4 (by omega) (by omega), n 5 (by omega) (by omega), n 6 (by omega) (by omega), n 7 (by omega) (by omega), n 8 (by omega) (by omega), n 9 (by omega) (by omega), n 10 (by omega) (by omega), n 11 (by omega) (by omega), n 12 (by omega) (by omega), n 13 (by omega) (by omega), n 14 (by omega) (by omega), n 15 (by omega) (by omega), n 16 (by omega) (by omega)]
theorem c4 {c x x' y y' : Bool} {a b d z z' : Int} (h1 : x = x') (h2 : y = y') (h3 : z = z') : (some [PV.int (cond c a (cond x b (cond y d z)))] : Option (List PV)) = some [PV.int (cond c a (cond x' b (cond y' d z')))] := by subst h1; subst h2; subst h3; rfl
theorem gY {N : Nat} {e0 e1 e2 e3 e5 e6 e7 e8 e9 e10 e11 e13 e14 e15 e16 e18 : Int} {e4 e12 e17 : Bool}  : JB N [.int e0, .int e1, .int e2, .int e3, .bool e4, .int e5, .int e6, .int e7, .int e8, .int e9, .int e10, .int e11, .bool e12, .int e13, .int e14, .int e15, .int e16, .bool e17, .int e18] = some [.int (evS (⟨e0, e1, e2, e3, e4, e5, e6, ⟨e7, e8, e9, e10, e11, e12, e13, e14, e15, e16, e17, e18⟩⟩ : Ev))] := by
 show Qf (std (Fu N) N) (xOf _) = _
 generalize hres : (some [.int (evS (⟨e0, e1, e2, e3, e4, e5, e6, ⟨e7, e8, e9, e10, e11, e12, e13, e14, e15, e16, e17, e18⟩⟩ : Ev))] : Option (List PV)) = RR
 simp only [Qf, XI, ZF, dN, YD, std, xOf, PXb, PXc, PXn, PXm, Nat.reduceAdd, Int.reduceBEq, pk, uh, wx, sD]
 subst hres; simp only [evS, mA, dj, oM]
 refine c4 ?_ ?_ rfl
 ·simp only [Bool.not_and, Bool.or_assoc, Bool.and_comm]
 ·generalize uS e0 = a1
  generalize uP e0 = a2
  generalize uO e0 = a3
  generalize uR e0 = a4
  generalize uV e0 = a5
  generalize btw e1 1 2 = b1
  generalize btw e2 1 11 = b2
  generalize btw e3 1 11 = b3
  generalize btw e5 (loS e0) (hiS e0) = b4
  generalize btw e6 0 90 = b5
  cases a1 <;> cases b1 <;> cases a2 <;> cases b2 <;> try rfl
  all_goals (cases a3 <;> cases b3 <;> cases a4 <;> cases b4 <;> try rfl)
  all_goals (cases a5 <;> cases b5 <;> rfl)
end Go.Px
end
section
namespace Go.Px
set_option maxRecDepth 100000
structure Lens (s t : Inn) : Prop where
 bt : t.batters.length = s.batters.length
 bd : t.bowled.length = s.bowled.length
 sb : t.subs.length = s.subs.length
 bw : t.bowlers.length ≤ s.bowlers.length + 1
 bf : t.before.length ≤ s.before.length + s.bowlers.length + 1
theorem Lens.refl (s : Inn) : Lens s s := ⟨rfl, rfl, rfl, by omega, by omega⟩
theorem P_c {α : Type} {P : α → Prop} (b : Bool) (x y : α) (hx : P x) (hy : P y) : P (cond b x y) := by cases b <;> assumption
theorem iw (s : Inn) (d : Del) : Lens s (CX s d) := by
 have hb : ∀ (b : Bool), (cond b (J8 s.batters s.striker 2) s.batters).length = s.batters.length := fun b => by cases b <;> simp [Mn]
 have hc : ∀ (b : Bool), (cond b (J8 s.batters s.other 2) s.batters).length = s.batters.length := fun b => by cases b <;> simp [Mn]
 unfold CX
 cases (!(d.runs.tmod 2 == 0) != d.crossed) <;> refine P_c _ _ _ ⟨hb _, rfl, rfl, ?_, ?_⟩ (P_c _ _ _ ⟨hc _, rfl, rfl, ?_, ?_⟩ ⟨rfl, rfl, rfl, ?_, ?_⟩) <;> simp <;> omega
theorem dG (r : Rul) (s : Inn) (c : Bool) : Lens s (DS r s c).1 := by
 have hl : (cond (G4 s.bowlers s.bowlers.length s.bowler) s.bowlers (s.bowlers ++ [[.int s.bowler]])).length ≤ s.bowlers.length + 1 := by
  cases G4 s.bowlers s.bowlers.length s.bowler <;> simp
 have hd : (cond c (J8 s.bowled s.bowler (inc (atI s.bowled (ix s.bowler) 0))) s.bowled).length = s.bowled.length := by cases c <;> simp [Mn]
 unfold DS
 refine P_c (P := fun x : Inn × Bool => Lens s x.1) _ _ _ (Lens.refl s) (P_c (P := fun x : Inn × Bool => Lens s x.1) _ _ _ ⟨rfl, hd, rfl, hl, by simp; omega⟩ ⟨rfl, hd, rfl, by simp, ?_⟩)
 simp only
 omega
def od (a b c d : Int) : Int := cond (!(a == 0)) a (cond (!(b == 0)) b (cond (!(c == 0)) c (cond (!(d == 0)) d 0)))
def QY (r : Rul) (s : Inn) (d : Del) : Int :=
 cond (FA s.batters s.striker s.other) 6 (cond (s.bowler == 0) 7 (od (ON r s) (F3 d) (TD d s.freehit) (Od s d)))
theorem eu {N : Nat} {r1 r2 r3 r4 r5 r6 r7 r9 r10 r11 r12 : Int} {r8 : Bool} {r0 : ByteArray} {r13 : Rows} {s0 s1 s2 s3 s4 s5 s6 s7 s8 s9 s10 s11 s12 s13 s15 s21 s22 s23 s25 s26 s27 : Int} {s18 s20 : Bool} {s14 s16 s17 s19 s24 : Rows} {d0 d1 d2 d3 d4 d6 d7 d8 d9 d11 : Int} {d5 d10 : Bool} (h : Fit s14 s16 s17 s19 s24) (hN : 2097152 < N) (h13 : r13.length ≤ 1048576) : ET N [.str r0, .int r1, .int r2, .int r3, .int r4, .int r5, .int r6, .int r7, .bool r8, .int r9, .int r10, .int r11, .int r12, .rows r13, .int s0, .int s1, .int s2, .int s3, .int s4, .int s5, .int s6, .int s7, .int s8, .int s9, .int s10, .int s11, .int s12, .int s13, .rows s14, .int s15, .rows s16, .rows s17, .bool s18, .rows s19, .bool s20, .int s21, .int s22, .int s23, .rows s24, .int s25, .int s26, .int s27, .int d0, .int d1, .int d2, .int d3, .int d4, .bool d5, .int d6, .int d7, .int d8, .int d9, .bool d10, .int d11] = some [.int (QY (⟨r0, r1, r2, r3, r4, r5, r6, r7, r8, r9, r10, r11, r12, r13⟩ : Rul) (⟨s0, s1, s2, s3, s4, s5, s6, s7, s8, s9, s10, s11, s12, s13, s14, s15, s16, s17, s18, s19, s20, s21, s22, s23, s24, s25, s26, s27⟩ : Inn) (⟨d0, d1, d2, d3, d4, d5, d6, d7, d8, d9, d10, d11⟩ : Del))] := by
 show Gr (std (B6 N) N) (xOf _) = _
 generalize hres : (some [.int (QY (⟨r0, r1, r2, r3, r4, r5, r6, r7, r8, r9, r10, r11, r12, r13⟩ : Rul) (⟨s0, s1, s2, s3, s4, s5, s6, s7, s8, s9, s10, s11, s12, s13, s14, s15, s16, s17, s18, s19, s20, s21, s22, s23, s24, s25, s26, s27⟩ : Inn) (⟨d0, d1, d2, d3, d4, d5, d6, d7, d8, d9, d10, d11⟩ : Del))] : Option (List PV)) = RR
 simp only [Gr, Mv, NW, Pi, KW, Pf, std, xOf, PXb, Vm h.bt hN, nz h hN h13, UB, ZD hN, na h]
 subst hres; simp only [QY]
 cases FA s14 s12 s13 <;> try rfl
 cases s15 == 0 <;> try rfl
 simp only [PXb]
 generalize ON (⟨r0, r1, r2, r3, r4, r5, r6, r7, r8, r9, r10, r11, r12, r13⟩ : Rul) (⟨s0, s1, s2, s3, s4, s5, s6, s7, s8, s9, s10, s11, s12, s13, s14, s15, s16, s17, s18, s19, s20, s21, s22, s23, s24, s25, s26, s27⟩ : Inn) = a
 generalize F3 (⟨d0, d1, d2, d3, d4, d5, d6, d7, d8, d9, d10, d11⟩ : Del) = b
 generalize TD (⟨d0, d1, d2, d3, d4, d5, d6, d7, d8, d9, d10, d11⟩ : Del) s20 = c
 generalize Od (⟨s0, s1, s2, s3, s4, s5, s6, s7, s8, s9, s10, s11, s12, s13, s14, s15, s16, s17, s18, s19, s20, s21, s22, s23, s24, s25, s26, s27⟩ : Inn) (⟨d0, d1, d2, d3, d4, d5, d6, d7, d8, d9, d10, d11⟩ : Del) = e
 refine AK (Cc (len := 4) (fun i => cond (!(atI [[.int a], [.int b], [.int c], [.int e]] i 0 == 0)) (some [.int (atI [[.int a], [.int b], [.int c], [.int e]] i 0)]) none) ?_ ?_ 4 0 N (by omega) (by omega)) ?_
 ·intro self
  rfl
 ·intro i self hi
  simp only [PXb, AN (show i ≤ 1099511627776 by omega), List.length_cons, List.length_nil, Nat.reduceAdd, Ae hi, AP hi, A2]
  cases atI [[.int a], [.int b], [.int c], [.int e]] i 0 == 0 <;> rfl
 ·refine (Zc _).trans (congrArg (fun z => some [PV.int z]) ?_)
  unfold od
  simp only [B8]
  rw [show atI [[.int a], [.int b], [.int c], [.int e]] 0 0 = a from rfl, show atI [[.int a], [.int b], [.int c], [.int e]] (0 + 1) 0 = b from rfl, show atI [[.int a], [.int b], [.int c], [.int e]] (0 + 1 + 1) 0 = c from rfl, show atI [[.int a], [.int b], [.int c], [.int e]] (0 + 1 + 1 + 1) 0 = e from rfl]
  cases a == 0 <;> try rfl
  cases b == 0 <;> try rfl
  cases c == 0 <;> try rfl
  cases e == 0 <;> rfl
theorem LT {s t : Inn} (l : Lens s t) (h : s.Fit) (hw : s.before.length + s.bowlers.length ≤ 1048575) : t.Fit := ⟨l.bt ▸ h.bt, by have := l.bw; omega, by have := l.bf; omega, l.bd ▸ h.bd, l.sb ▸ h.sb⟩
theorem ol (s : Inn) (d : Del) : (CX s d).bowlers = s.bowlers := by
 unfold CX
 cases (!(d.runs.tmod 2 == 0) != d.crossed) <;> exact P_c (P := fun x : Inn => x.bowlers = s.bowlers) _ _ _ rfl (P_c (P := fun x : Inn => x.bowlers = s.bowlers) _ _ _ rfl rfl)
theorem pG (s : Inn) (d : Del) : (CX s d).before = s.before := by
 unfold CX
 cases (!(d.runs.tmod 2 == 0) != d.crossed) <;> exact P_c (P := fun x : Inn => x.before = s.before) _ _ _ rfl (P_c (P := fun x : Inn => x.before = s.before) _ _ _ rfl rfl)
@[reducible] def Zo (t : Inn) (a b e f g : Int) : Inn := ⟨t.side, t.target, t.overs, a, t.wickets, b, e, f, g, t.pens, t.complete, t.inover, t.striker, t.other, t.batters, t.bowler, t.bowlers, t.before, t.fresh, t.bowled, t.freehit, t.ballage, t.keeper, t.outside, t.subs, t.rev1, t.rev2, t.ending⟩
def Sz (r : Rul) (s : Inn) (d : Del) : Inn × Int :=
  cond (!(QY r s d == 0)) (s, QY r s d)
    (let c := BC r d
     let t := CX s d
     let o := DS r (Zo t (IntKind.i64.wrap (t.runs + jx c)) (IntKind.i64.wrap (t.wides + c.wides)) (IntKind.i64.wrap (t.noballs + c.noballs)) (IntKind.i64.wrap (t.byes + c.byes)) (IntKind.i64.wrap (t.legbyes + c.legbyes))) c.counts
     let t : Inn := cond o.2 (ed o.1) o.1
     ({ t with freehit := cond (d.type == 1) false (cond (d.type == 3 && r.freehit) true o.1.freehit) }, 0))
theorem mG {N : Nat} {r1 r2 r3 r4 r5 r6 r7 r9 r10 r11 r12 : Int} {r8 : Bool} {r0 : ByteArray} {r13 : Rows} {s0 s1 s2 s3 s4 s5 s6 s7 s8 s9 s10 s11 s12 s13 s15 s21 s22 s23 s25 s26 s27 : Int} {s18 s20 : Bool} {s14 s16 s17 s19 s24 : Rows} {d0 d1 d2 d3 d4 d6 d7 d8 d9 d11 : Int} {d5 d10 : Bool} (h : Fit s14 s16 s17 s19 s24) (hw : s17.length + s16.length ≤ 1000000) (hN : 2097152 < N) (hs : r0.size ≤ 1048576) (h13 : r13.length ≤ 1048576) : G6 N [.str r0, .int r1, .int r2, .int r3, .int r4, .int r5, .int r6, .int r7, .bool r8, .int r9, .int r10, .int r11, .int r12, .rows r13, .int s0, .int s1, .int s2, .int s3, .int s4, .int s5, .int s6, .int s7, .int s8, .int s9, .int s10, .int s11, .int s12, .int s13, .rows s14, .int s15, .rows s16, .rows s17, .bool s18, .rows s19, .bool s20, .int s21, .int s22, .int s23, .rows s24, .int s25, .int s26, .int s27, .int d0, .int d1, .int d2, .int d3, .int d4, .bool d5, .int d6, .int d7, .int d8, .int d9, .bool d10, .int d11] = some (AX (Sz (⟨r0, r1, r2, r3, r4, r5, r6, r7, r8, r9, r10, r11, r12, r13⟩ : Rul) (⟨s0, s1, s2, s3, s4, s5, s6, s7, s8, s9, s10, s11, s12, s13, s14, s15, s16, s17, s18, s19, s20, s21, s22, s23, s24, s25, s26, s27⟩ : Inn) (⟨d0, d1, d2, d3, d4, d5, d6, d7, d8, d9, d10, d11⟩ : Del))) := by
 show Ks (std (Bk N) N) (xOf _) = _
 generalize hres : (some (AX (Sz (⟨r0, r1, r2, r3, r4, r5, r6, r7, r8, r9, r10, r11, r12, r13⟩ : Rul) (⟨s0, s1, s2, s3, s4, s5, s6, s7, s8, s9, s10, s11, s12, s13, s14, s15, s16, s17, s18, s19, s20, s21, s22, s23, s24, s25, s26, s27⟩ : Inn) (⟨d0, d1, d2, d3, d4, d5, d6, d7, d8, d9, d10, d11⟩ : Del))) : Option (List PV)) = RR
 have l1 := iw (⟨s0, s1, s2, s3, s4, s5, s6, s7, s8, s9, s10, s11, s12, s13, s14, s15, s16, s17, s18, s19, s20, s21, s22, s23, s24, s25, s26, s27⟩ : Inn) (⟨d0, d1, d2, d3, d4, d5, d6, d7, d8, d9, d10, d11⟩ : Del)
 have f1 := LT l1 h (by simp only; omega)
 have w1 : (CX (⟨s0, s1, s2, s3, s4, s5, s6, s7, s8, s9, s10, s11, s12, s13, s14, s15, s16, s17, s18, s19, s20, s21, s22, s23, s24, s25, s26, s27⟩ : Inn) (⟨d0, d1, d2, d3, d4, d5, d6, d7, d8, d9, d10, d11⟩ : Del)).bowlers.length = s16.length := congrArg List.length (ol _ _)
 have w2 : (CX (⟨s0, s1, s2, s3, s4, s5, s6, s7, s8, s9, s10, s11, s12, s13, s14, s15, s16, s17, s18, s19, s20, s21, s22, s23, s24, s25, s26, s27⟩ : Inn) (⟨d0, d1, d2, d3, d4, d5, d6, d7, d8, d9, d10, d11⟩ : Del)).before.length = s17.length := congrArg List.length (pG _ _)
 have l2 := fun (x : Rul) (c : Bool) (a b e f g : Int) => dG x (Zo (CX (⟨s0, s1, s2, s3, s4, s5, s6, s7, s8, s9, s10, s11, s12, s13, s14, s15, s16, s17, s18, s19, s20, s21, s22, s23, s24, s25, s26, s27⟩ : Inn) (⟨d0, d1, d2, d3, d4, d5, d6, d7, d8, d9, d10, d11⟩ : Del)) a b e f g) c
 have f2 := fun (x : Rul) (c : Bool) (a b e f g : Int) => LT (l2 x c a b e f g) f1 (show (CX (⟨s0, s1, s2, s3, s4, s5, s6, s7, s8, s9, s10, s11, s12, s13, s14, s15, s16, s17, s18, s19, s20, s21, s22, s23, s24, s25, s26, s27⟩ : Inn) (⟨d0, d1, d2, d3, d4, d5, d6, d7, d8, d9, d10, d11⟩ : Del)).before.length + (CX (⟨s0, s1, s2, s3, s4, s5, s6, s7, s8, s9, s10, s11, s12, s13, s14, s15, s16, s17, s18, s19, s20, s21, s22, s23, s24, s25, s26, s27⟩ : Inn) (⟨d0, d1, d2, d3, d4, d5, d6, d7, d8, d9, d10, d11⟩ : Del)).bowlers.length ≤ 1048575 by omega)
 simp only [Ks, QP, PO, OB, TN, Ph, TZ, P4, std, xOf, PXb, PXc, PXn, PXm, Nat.reduceAdd, Int.reduceBEq, eu h hN h13, CA h, Si, o6 h, gx, Cre.ls, pf f1 (show (CX (⟨s0, s1, s2, s3, s4, s5, s6, s7, s8, s9, s10, s11, s12, s13, s14, s15, s16, s17, s18, s19, s20, s21, s22, s23, s24, s25, s26, s27⟩ : Inn) (⟨d0, d1, d2, d3, d4, d5, d6, d7, d8, d9, d10, d11⟩ : Del)).bowlers.length ≤ 1048575 by omega) hN hs, lU, kE (f2 _ _ _ _ _ _ _)]
 subst hres; simp only [Sz, Zo]
 cases QY (⟨r0, r1, r2, r3, r4, r5, r6, r7, r8, r9, r10, r11, r12, r13⟩ : Rul) (⟨s0, s1, s2, s3, s4, s5, s6, s7, s8, s9, s10, s11, s12, s13, s14, s15, s16, s17, s18, s19, s20, s21, s22, s23, s24, s25, s26, s27⟩ : Inn) (⟨d0, d1, d2, d3, d4, d5, d6, d7, d8, d9, d10, d11⟩ : Del) == 0 with
 | false => rfl
 | true =>
  obtain ⟨o, ho⟩ : ∃ o, o = DS (⟨r0, r1, r2, r3, r4, r5, r6, r7, r8, r9, r10, r11, r12, r13⟩ : Rul) (Zo (CX (⟨s0, s1, s2, s3, s4, s5, s6, s7, s8, s9, s10, s11, s12, s13, s14, s15, s16, s17, s18, s19, s20, s21, s22, s23, s24, s25, s26, s27⟩ : Inn) (⟨d0, d1, d2, d3, d4, d5, d6, d7, d8, d9, d10, d11⟩ : Del)) (IntKind.i64.wrap ((CX (⟨s0, s1, s2, s3, s4, s5, s6, s7, s8, s9, s10, s11, s12, s13, s14, s15, s16, s17, s18, s19, s20, s21, s22, s23, s24, s25, s26, s27⟩ : Inn) (⟨d0, d1, d2, d3, d4, d5, d6, d7, d8, d9, d10, d11⟩ : Del)).runs + jx (BC (⟨r0, r1, r2, r3, r4, r5, r6, r7, r8, r9, r10, r11, r12, r13⟩ : Rul) (⟨d0, d1, d2, d3, d4, d5, d6, d7, d8, d9, d10, d11⟩ : Del)))) (IntKind.i64.wrap ((CX (⟨s0, s1, s2, s3, s4, s5, s6, s7, s8, s9, s10, s11, s12, s13, s14, s15, s16, s17, s18, s19, s20, s21, s22, s23, s24, s25, s26, s27⟩ : Inn) (⟨d0, d1, d2, d3, d4, d5, d6, d7, d8, d9, d10, d11⟩ : Del)).wides + (BC (⟨r0, r1, r2, r3, r4, r5, r6, r7, r8, r9, r10, r11, r12, r13⟩ : Rul) (⟨d0, d1, d2, d3, d4, d5, d6, d7, d8, d9, d10, d11⟩ : Del)).wides)) (IntKind.i64.wrap ((CX (⟨s0, s1, s2, s3, s4, s5, s6, s7, s8, s9, s10, s11, s12, s13, s14, s15, s16, s17, s18, s19, s20, s21, s22, s23, s24, s25, s26, s27⟩ : Inn) (⟨d0, d1, d2, d3, d4, d5, d6, d7, d8, d9, d10, d11⟩ : Del)).noballs + (BC (⟨r0, r1, r2, r3, r4, r5, r6, r7, r8, r9, r10, r11, r12, r13⟩ : Rul) (⟨d0, d1, d2, d3, d4, d5, d6, d7, d8, d9, d10, d11⟩ : Del)).noballs)) (IntKind.i64.wrap ((CX (⟨s0, s1, s2, s3, s4, s5, s6, s7, s8, s9, s10, s11, s12, s13, s14, s15, s16, s17, s18, s19, s20, s21, s22, s23, s24, s25, s26, s27⟩ : Inn) (⟨d0, d1, d2, d3, d4, d5, d6, d7, d8, d9, d10, d11⟩ : Del)).byes + (BC (⟨r0, r1, r2, r3, r4, r5, r6, r7, r8, r9, r10, r11, r12, r13⟩ : Rul) (⟨d0, d1, d2, d3, d4, d5, d6, d7, d8, d9, d10, d11⟩ : Del)).byes)) (IntKind.i64.wrap ((CX (⟨s0, s1, s2, s3, s4, s5, s6, s7, s8, s9, s10, s11, s12, s13, s14, s15, s16, s17, s18, s19, s20, s21, s22, s23, s24, s25, s26, s27⟩ : Inn) (⟨d0, d1, d2, d3, d4, d5, d6, d7, d8, d9, d10, d11⟩ : Del)).legbyes + (BC (⟨r0, r1, r2, r3, r4, r5, r6, r7, r8, r9, r10, r11, r12, r13⟩ : Rul) (⟨d0, d1, d2, d3, d4, d5, d6, d7, d8, d9, d10, d11⟩ : Del)).legbyes))) (BC (⟨r0, r1, r2, r3, r4, r5, r6, r7, r8, r9, r10, r11, r12, r13⟩ : Rul) (⟨d0, d1, d2, d3, d4, d5, d6, d7, d8, d9, d10, d11⟩ : Del)).counts := ⟨_, rfl⟩
  simp only [Zo, jx] at ho ⊢
  simp only [← ho]
  obtain ⟨o1, o2⟩ := o
  cases o2 <;> cases d0 == 1 <;> cases d0 == 3 <;> cases r8 <;> rfl
theorem pl (r : Rul) (s : Inn) (b : Bool) (a c d e f : Int) : DS r (Zo s a c d e f) b = (Zo (DS r s b).1 a c d e f, (DS r s b).2) := by
 unfold DS Zo
 simp only
 cases (!inR s.bowler s.bowled.length || !(Ax r == 0)) with
 | true => rfl
 | false =>
  simp only [cond_false]
  cases iLt (cond b (inc s.inover) s.inover) r.balls <;> rfl
theorem u4 (r : Rul) (s : Inn) (b : Bool) : (DS r s b).1.runs = s.runs ∧ (DS r s b).1.wides = s.wides ∧ (DS r s b).1.noballs = s.noballs ∧ (DS r s b).1.byes = s.byes ∧ (DS r s b).1.legbyes = s.legbyes := by
  unfold DS
  exact P_c (P := fun x : Inn × Bool => x.1.runs = s.runs ∧ x.1.wides = s.wides ∧ x.1.noballs = s.noballs ∧ x.1.byes = s.byes ∧ x.1.legbyes = s.legbyes) _ _ _ ⟨rfl, rfl, rfl, rfl, rfl⟩
    (P_c (P := fun x : Inn × Bool => x.1.runs = s.runs ∧ x.1.wides = s.wides ∧ x.1.noballs = s.noballs ∧ x.1.byes = s.byes ∧ x.1.legbyes = s.legbyes) _ _ _ ⟨rfl, rfl, rfl, rfl, rfl⟩ ⟨rfl, rfl, rfl, rfl, rfl⟩)
theorem se {N : Nat} {r1 r2 r3 r4 r5 r6 r7 r9 r10 r11 r12 : Int} {r8 : Bool} {r0 : ByteArray} {r13 : Rows} {s0 s1 s2 s3 s4 s5 s6 s7 s8 s9 s10 s11 s12 s13 s15 s21 s22 s23 s25 s26 s27 : Int} {s18 s20 : Bool} {s14 s16 s17 s19 s24 : Rows} {d0 d1 d2 d3 d4 d6 d7 d8 d9 d11 : Int} {d5 d10 : Bool} (h : Fit s14 s16 s17 s19 s24) (hw : s17.length + s16.length ≤ 1000000) (hN : 2097152 < N) (hs : r0.size ≤ 1048576) (h13 : r13.length ≤ 1048576) : O1 N [.str r0, .int r1, .int r2, .int r3, .int r4, .int r5, .int r6, .int r7, .bool r8, .int r9, .int r10, .int r11, .int r12, .rows r13, .int s0, .int s1, .int s2, .int s3, .int s4, .int s5, .int s6, .int s7, .int s8, .int s9, .int s10, .int s11, .int s12, .int s13, .rows s14, .int s15, .rows s16, .rows s17, .bool s18, .rows s19, .bool s20, .int s21, .int s22, .int s23, .rows s24, .int s25, .int s26, .int s27, .int d0, .int d1, .int d2, .int d3, .int d4, .bool d5, .int d6, .int d7, .int d8, .int d9, .bool d10, .int d11] = some (AX (Sz (⟨r0, r1, r2, r3, r4, r5, r6, r7, r8, r9, r10, r11, r12, r13⟩ : Rul) (⟨s0, s1, s2, s3, s4, s5, s6, s7, s8, s9, s10, s11, s12, s13, s14, s15, s16, s17, s18, s19, s20, s21, s22, s23, s24, s25, s26, s27⟩ : Inn) (⟨d0, d1, d2, d3, d4, d5, d6, d7, d8, d9, d10, d11⟩ : Del))) := by
 show O4 (std (BJ N) N) (xOf _) = _
 generalize hres : (some (AX (Sz (⟨r0, r1, r2, r3, r4, r5, r6, r7, r8, r9, r10, r11, r12, r13⟩ : Rul) (⟨s0, s1, s2, s3, s4, s5, s6, s7, s8, s9, s10, s11, s12, s13, s14, s15, s16, s17, s18, s19, s20, s21, s22, s23, s24, s25, s26, s27⟩ : Inn) (⟨d0, d1, d2, d3, d4, d5, d6, d7, d8, d9, d10, d11⟩ : Del))) : Option (List PV)) = RR
 have l1 := iw (⟨s0, s1, s2, s3, s4, s5, s6, s7, s8, s9, s10, s11, s12, s13, s14, s15, s16, s17, s18, s19, s20, s21, s22, s23, s24, s25, s26, s27⟩ : Inn) (⟨d0, d1, d2, d3, d4, d5, d6, d7, d8, d9, d10, d11⟩ : Del)
 have f1 := LT l1 h (by simp only; omega)
 have w1 : (CX (⟨s0, s1, s2, s3, s4, s5, s6, s7, s8, s9, s10, s11, s12, s13, s14, s15, s16, s17, s18, s19, s20, s21, s22, s23, s24, s25, s26, s27⟩ : Inn) (⟨d0, d1, d2, d3, d4, d5, d6, d7, d8, d9, d10, d11⟩ : Del)).bowlers.length = s16.length := congrArg List.length (ol _ _)
 have w2 : (CX (⟨s0, s1, s2, s3, s4, s5, s6, s7, s8, s9, s10, s11, s12, s13, s14, s15, s16, s17, s18, s19, s20, s21, s22, s23, s24, s25, s26, s27⟩ : Inn) (⟨d0, d1, d2, d3, d4, d5, d6, d7, d8, d9, d10, d11⟩ : Del)).before.length = s17.length := congrArg List.length (pG _ _)
 have l2 := fun (x : Rul) (c : Bool) => dG x (CX (⟨s0, s1, s2, s3, s4, s5, s6, s7, s8, s9, s10, s11, s12, s13, s14, s15, s16, s17, s18, s19, s20, s21, s22, s23, s24, s25, s26, s27⟩ : Inn) (⟨d0, d1, d2, d3, d4, d5, d6, d7, d8, d9, d10, d11⟩ : Del)) c
 have f2 := fun (x : Rul) (c : Bool) => LT (l2 x c) f1 (show (CX (⟨s0, s1, s2, s3, s4, s5, s6, s7, s8, s9, s10, s11, s12, s13, s14, s15, s16, s17, s18, s19, s20, s21, s22, s23, s24, s25, s26, s27⟩ : Inn) (⟨d0, d1, d2, d3, d4, d5, d6, d7, d8, d9, d10, d11⟩ : Del)).before.length + (CX (⟨s0, s1, s2, s3, s4, s5, s6, s7, s8, s9, s10, s11, s12, s13, s14, s15, s16, s17, s18, s19, s20, s21, s22, s23, s24, s25, s26, s27⟩ : Inn) (⟨d0, d1, d2, d3, d4, d5, d6, d7, d8, d9, d10, d11⟩ : Del)).bowlers.length ≤ 1048575 by omega)
 simp only [O4, X9, Zr, Y8, VW, ZG, YO, cD, bE, X3, Ys, std, xOf, PXb, PXc, PXn, PXm, Nat.reduceAdd, Int.reduceBEq, bh h.bt hN, rX h hN h13, f7, lD, rq h, qf, u9 h, rM, Cre.ls, uQ f1 (show (CX (⟨s0, s1, s2, s3, s4, s5, s6, s7, s8, s9, s10, s11, s12, s13, s14, s15, s16, s17, s18, s19, s20, s21, s22, s23, s24, s25, s26, s27⟩ : Inn) (⟨d0, d1, d2, d3, d4, d5, d6, d7, d8, d9, d10, d11⟩ : Del)).bowlers.length ≤ 1048575 by omega) hN hs, lU, dS (f2 _ _)]
 subst hres; simp only [Sz, QY, od, pl]
 cases FA s14 s12 s13 <;> try rfl
 cases s15 == 0 <;> try rfl
 cases h1 : ON (⟨r0, r1, r2, r3, r4, r5, r6, r7, r8, r9, r10, r11, r12, r13⟩ : Rul) (⟨s0, s1, s2, s3, s4, s5, s6, s7, s8, s9, s10, s11, s12, s13, s14, s15, s16, s17, s18, s19, s20, s21, s22, s23, s24, s25, s26, s27⟩ : Inn) == 0 <;> (try (simp only [h1, PXb, PXc, PXn, PXm, Nat.reduceAdd, Int.reduceBEq]; done))
 cases h2 : F3 (⟨d0, d1, d2, d3, d4, d5, d6, d7, d8, d9, d10, d11⟩ : Del) == 0 <;> (try (simp only [h2, PXb, PXc, PXn, PXm, Nat.reduceAdd, Int.reduceBEq]; done))
 cases h3 : TD (⟨d0, d1, d2, d3, d4, d5, d6, d7, d8, d9, d10, d11⟩ : Del) s20 == 0 <;> (try (simp only [h3, PXb, PXc, PXn, PXm, Nat.reduceAdd, Int.reduceBEq]; done))
 cases h4 : Od (⟨s0, s1, s2, s3, s4, s5, s6, s7, s8, s9, s10, s11, s12, s13, s14, s15, s16, s17, s18, s19, s20, s21, s22, s23, s24, s25, s26, s27⟩ : Inn) (⟨d0, d1, d2, d3, d4, d5, d6, d7, d8, d9, d10, d11⟩ : Del) == 0 <;> (try (simp only [h4, PXb, PXc, PXn, PXm, Nat.reduceAdd, Int.reduceBEq]; done))
 have k := u4 (⟨r0, r1, r2, r3, r4, r5, r6, r7, r8, r9, r10, r11, r12, r13⟩ : Rul) (CX (⟨s0, s1, s2, s3, s4, s5, s6, s7, s8, s9, s10, s11, s12, s13, s14, s15, s16, s17, s18, s19, s20, s21, s22, s23, s24, s25, s26, s27⟩ : Inn) (⟨d0, d1, d2, d3, d4, d5, d6, d7, d8, d9, d10, d11⟩ : Del)) (BC (⟨r0, r1, r2, r3, r4, r5, r6, r7, r8, r9, r10, r11, r12, r13⟩ : Rul) (⟨d0, d1, d2, d3, d4, d5, d6, d7, d8, d9, d10, d11⟩ : Del)).counts
 obtain ⟨o, ho⟩ : ∃ o, o = DS (⟨r0, r1, r2, r3, r4, r5, r6, r7, r8, r9, r10, r11, r12, r13⟩ : Rul) (CX (⟨s0, s1, s2, s3, s4, s5, s6, s7, s8, s9, s10, s11, s12, s13, s14, s15, s16, s17, s18, s19, s20, s21, s22, s23, s24, s25, s26, s27⟩ : Inn) (⟨d0, d1, d2, d3, d4, d5, d6, d7, d8, d9, d10, d11⟩ : Del)) (BC (⟨r0, r1, r2, r3, r4, r5, r6, r7, r8, r9, r10, r11, r12, r13⟩ : Rul) (⟨d0, d1, d2, d3, d4, d5, d6, d7, d8, d9, d10, d11⟩ : Del)).counts := ⟨_, rfl⟩
 simp only [← ho, Zo, jx] at k ⊢
 obtain ⟨o1, o2⟩ := o
 obtain ⟨k1, k2, k3, k4, k5⟩ := k
 simp only at k1 k2 k3 k4 k5
 simp only [← k1, ← k2, ← k3, ← k4, ← k5]
 cases o2 <;> cases d0 == 1 <;> cases d0 == 3 <;> cases r8 <;> rfl
def Mk (r : Rul) (s : Inn) (side : Int) : Inn × Int := cond (!(side == s.side)) (s, 2) (cond (!(r.overs == 0)) (s, 20) ({ s with ending := 4 }, 0))
theorem fE {N : Nat} {r1 r2 r3 r4 r5 r6 r7 r9 r10 r11 r12 : Int} {r8 : Bool} {r0 : ByteArray} {r13 : Rows} {s0 s1 s2 s3 s4 s5 s6 s7 s8 s9 s10 s11 s12 s13 s15 s21 s22 s23 s25 s26 s27 : Int} {s18 s20 : Bool} {s14 s16 s17 s19 s24 : Rows} {e0 e1 e2 e3 e5 e6 e7 e8 e9 e10 e11 e13 e14 e15 e16 e18 : Int} {e4 e12 e17 : Bool} (h : Fit s14 s16 s17 s19 s24) : ES N [.str r0, .int r1, .int r2, .int r3, .int r4, .int r5, .int r6, .int r7, .bool r8, .int r9, .int r10, .int r11, .int r12, .rows r13, .int s0, .int s1, .int s2, .int s3, .int s4, .int s5, .int s6, .int s7, .int s8, .int s9, .int s10, .int s11, .int s12, .int s13, .rows s14, .int s15, .rows s16, .rows s17, .bool s18, .rows s19, .bool s20, .int s21, .int s22, .int s23, .rows s24, .int s25, .int s26, .int s27, .int e0, .int e1, .int e2, .int e3, .bool e4, .int e5, .int e6, .int e7, .int e8, .int e9, .int e10, .int e11, .bool e12, .int e13, .int e14, .int e15, .int e16, .bool e17, .int e18] = some (AX (Mk (⟨r0, r1, r2, r3, r4, r5, r6, r7, r8, r9, r10, r11, r12, r13⟩ : Rul) (⟨s0, s1, s2, s3, s4, s5, s6, s7, s8, s9, s10, s11, s12, s13, s14, s15, s16, s17, s18, s19, s20, s21, s22, s23, s24, s25, s26, s27⟩ : Inn) e1)) := by
 show Gt (std (JE N) N) (xOf _) = _
 generalize hres : (some (AX (Mk (⟨r0, r1, r2, r3, r4, r5, r6, r7, r8, r9, r10, r11, r12, r13⟩ : Rul) (⟨s0, s1, s2, s3, s4, s5, s6, s7, s8, s9, s10, s11, s12, s13, s14, s15, s16, s17, s18, s19, s20, s21, s22, s23, s24, s25, s26, s27⟩ : Inn) e1)) : Option (List PV)) = RR
 simp only [Gt, NY, std, xOf, PXb, PXc, PXn, PXm, Nat.reduceAdd, Int.reduceBEq, CA h]
 subst hres; simp only [Mk]
 cases e1 == s0 <;> cases r3 == 0 <;> rfl
def Oo (s : Inn) : Inn := { s with runs := IntKind.i64.wrap (s.runs + 5), pens := IntKind.i64.wrap (s.pens + 5) }
theorem Se {N : Nat} {s0 s1 s2 s3 s4 s5 s6 s7 s8 s9 s10 s11 s12 s13 s15 s21 s22 s23 s25 s26 s27 : Int} {s18 s20 : Bool} {s14 s16 s17 s19 s24 : Rows} (h : Fit s14 s16 s17 s19 s24) : B5 N [.int s0, .int s1, .int s2, .int s3, .int s4, .int s5, .int s6, .int s7, .int s8, .int s9, .int s10, .int s11, .int s12, .int s13, .rows s14, .int s15, .rows s16, .rows s17, .bool s18, .rows s19, .bool s20, .int s21, .int s22, .int s23, .rows s24, .int s25, .int s26, .int s27] = some (Oo (⟨s0, s1, s2, s3, s4, s5, s6, s7, s8, s9, s10, s11, s12, s13, s14, s15, s16, s17, s18, s19, s20, s21, s22, s23, s24, s25, s26, s27⟩ : Inn)).ls := by
 show Gy (std (JC N) N) (xOf _) = _
 generalize hres : (some (Oo (⟨s0, s1, s2, s3, s4, s5, s6, s7, s8, s9, s10, s11, s12, s13, s14, s15, s16, s17, s18, s19, s20, s21, s22, s23, s24, s25, s26, s27⟩ : Inn)).ls : Option (List PV)) = RR
 simp only [Gy, Nf, std, xOf, PXb, PXc, PXn, PXm, Nat.reduceAdd, Int.reduceBEq, CA h]
 subst hres; simp only [Oo]
 rfl
theorem aM {N : Nat} {s0 s1 s2 s3 s4 s5 s6 s7 s8 s9 s10 s11 s12 s13 s15 s21 s22 s23 s25 s26 s27 : Int} {s18 s20 : Bool} {s14 s16 s17 s19 s24 : Rows} (h : Fit s14 s16 s17 s19 s24) : Fr N [.int s0, .int s1, .int s2, .int s3, .int s4, .int s5, .int s6, .int s7, .int s8, .int s9, .int s10, .int s11, .int s12, .int s13, .rows s14, .int s15, .rows s16, .rows s17, .bool s18, .rows s19, .bool s20, .int s21, .int s22, .int s23, .rows s24, .int s25, .int s26, .int s27] = some (Oo (⟨s0, s1, s2, s3, s4, s5, s6, s7, s8, s9, s10, s11, s12, s13, s14, s15, s16, s17, s18, s19, s20, s21, s22, s23, s24, s25, s26, s27⟩ : Inn)).ls := by
 show MD (std (O0 N) N) (xOf _) = _
 generalize hres : (some (Oo (⟨s0, s1, s2, s3, s4, s5, s6, s7, s8, s9, s10, s11, s12, s13, s14, s15, s16, s17, s18, s19, s20, s21, s22, s23, s24, s25, s26, s27⟩ : Inn)).ls : Option (List PV)) = RR
 simp only [MD, VZ, std, xOf, PXb, PXc, PXn, PXm, Nat.reduceAdd, Int.reduceBEq, XV h]
 subst hres; simp only [Oo]
 rfl
def Mx (s : Inn) (side runs : Int) : Inn × Int :=
 cond (!(runs == 5)) (s, 23) (cond (side == s.side) (Oo s, 0) ({ s with target := cond (iLt 0 s.target) (IntKind.i64.wrap (s.target + 5)) s.target }, 0))
theorem eo {N : Nat} {s0 s1 s2 s3 s4 s5 s6 s7 s8 s9 s10 s11 s12 s13 s15 s21 s22 s23 s25 s26 s27 : Int} {s18 s20 : Bool} {s14 s16 s17 s19 s24 : Rows} {e0 e1 e2 e3 e5 e6 e7 e8 e9 e10 e11 e13 e14 e15 e16 e18 : Int} {e4 e12 e17 : Bool} (h : Fit s14 s16 s17 s19 s24) : ER N [.int s0, .int s1, .int s2, .int s3, .int s4, .int s5, .int s6, .int s7, .int s8, .int s9, .int s10, .int s11, .int s12, .int s13, .rows s14, .int s15, .rows s16, .rows s17, .bool s18, .rows s19, .bool s20, .int s21, .int s22, .int s23, .rows s24, .int s25, .int s26, .int s27, .int e0, .int e1, .int e2, .int e3, .bool e4, .int e5, .int e6, .int e7, .int e8, .int e9, .int e10, .int e11, .bool e12, .int e13, .int e14, .int e15, .int e16, .bool e17, .int e18] = some (AX (Mx (⟨s0, s1, s2, s3, s4, s5, s6, s7, s8, s9, s10, s11, s12, s13, s14, s15, s16, s17, s18, s19, s20, s21, s22, s23, s24, s25, s26, s27⟩ : Inn) e1 e5)) := by
 show Gv (std (FY N) N) (xOf _) = _
 generalize hres : (some (AX (Mx (⟨s0, s1, s2, s3, s4, s5, s6, s7, s8, s9, s10, s11, s12, s13, s14, s15, s16, s17, s18, s19, s20, s21, s22, s23, s24, s25, s26, s27⟩ : Inn) e1 e5)) : Option (List PV)) = RR
 simp only [Gv, Na, L3, std, xOf, PXb, PXc, PXn, PXm, Nat.reduceAdd, Int.reduceBEq, CA h, Se h]
 subst hres; simp only [Mx]
 cases e5 == 5 <;> cases e1 == s0 <;> cases iLt 0 s1 <;> rfl
def Ho (r : Rul) (s : Inn) (side : Int) (yes : Bool) : Inn × Int :=
 cond (!s.fresh || iLe r.reviews (cond (side == 2) s.rev2 s.rev1)) (s, 24) (cond (!yes) ({ s with rev1 := cond (side == 1) (inc s.rev1) s.rev1, rev2 := cond (side == 2) (inc s.rev2) s.rev2 }, 0) (s, 0))
theorem wr1 : IntKind.i64.wrap (1 - 1) = 0 := rfl
theorem wr2 : IntKind.i64.wrap (2 - 1) = 1 := rfl
theorem W2 : iIn 0 2 = true := rfl
theorem W1 : iIn 1 2 = true := rfl
theorem iU {N : Nat} {r1 r2 r3 r4 r5 r6 r7 r9 r10 r11 r12 : Int} {r8 : Bool} {r0 : ByteArray} {r13 : Rows} {s0 s1 s2 s3 s4 s5 s6 s7 s8 s9 s10 s11 s12 s13 s15 s21 s22 s23 s25 s26 s27 : Int} {s18 s20 : Bool} {s14 s16 s17 s19 s24 : Rows} {e0 e1 e2 e3 e5 e6 e7 e8 e9 e10 e11 e13 e14 e15 e16 e18 : Int} {e4 e12 e17 : Bool} (h : Fit s14 s16 s17 s19 s24) (he : e1 = 1 ∨ e1 = 2) : FL N [.str r0, .int r1, .int r2, .int r3, .int r4, .int r5, .int r6, .int r7, .bool r8, .int r9, .int r10, .int r11, .int r12, .rows r13, .int s0, .int s1, .int s2, .int s3, .int s4, .int s5, .int s6, .int s7, .int s8, .int s9, .int s10, .int s11, .int s12, .int s13, .rows s14, .int s15, .rows s16, .rows s17, .bool s18, .rows s19, .bool s20, .int s21, .int s22, .int s23, .rows s24, .int s25, .int s26, .int s27, .int e0, .int e1, .int e2, .int e3, .bool e4, .int e5, .int e6, .int e7, .int e8, .int e9, .int e10, .int e11, .bool e12, .int e13, .int e14, .int e15, .int e16, .bool e17, .int e18] = some (AX (Ho (⟨r0, r1, r2, r3, r4, r5, r6, r7, r8, r9, r10, r11, r12, r13⟩ : Rul) (⟨s0, s1, s2, s3, s4, s5, s6, s7, s8, s9, s10, s11, s12, s13, s14, s15, s16, s17, s18, s19, s20, s21, s22, s23, s24, s25, s26, s27⟩ : Inn) e1 e4)) := by
 show FB (std (Jo N) N) (xOf _) = _
 generalize hres : (some (AX (Ho (⟨r0, r1, r2, r3, r4, r5, r6, r7, r8, r9, r10, r11, r12, r13⟩ : Rul) (⟨s0, s1, s2, s3, s4, s5, s6, s7, s8, s9, s10, s11, s12, s13, s14, s15, s16, s17, s18, s19, s20, s21, s22, s23, s24, s25, s26, s27⟩ : Inn) e1 e4)) : Option (List PV)) = RR
 rcases he with he | he <;> subst he
 ·simp only [FB, GL, std, xOf, PXb, PXc, PXn, PXm, Nat.reduceAdd, Int.reduceBEq, CA h, wr1, wr2, W2, W1]
  subst hres; simp only [Ho, Int.reduceBEq, beq_self_eq_true, cond_true, cond_false]
  cases s18 <;> cases e4 <;> first | rfl | (cases iLe r11 s25 <;> rfl)
 ·simp only [FB, GL, std, xOf, PXb, PXc, PXn, PXm, Nat.reduceAdd, Int.reduceBEq, CA h, wr1, wr2, W2, W1]
  subst hres; simp only [Ho, Int.reduceBEq, beq_self_eq_true, cond_true, cond_false]
  cases s18 <;> cases e4 <;> first | rfl | (cases iLe r11 s26 <;> rfl)
theorem ph {N : Nat} {r1 r2 r3 r4 r5 r6 r7 r9 r10 r11 r12 : Int} {r8 : Bool} {r0 : ByteArray} {r13 : Rows} {s0 s1 s2 s3 s4 s5 s6 s7 s8 s9 s10 s11 s12 s13 s15 s21 s22 s23 s25 s26 s27 : Int} {s18 s20 : Bool} {s14 s16 s17 s19 s24 : Rows} {n : Int} {b : Bool} (he : n = 1 ∨ n = 2) : J9 N [.str r0, .int r1, .int r2, .int r3, .int r4, .int r5, .int r6, .int r7, .bool r8, .int r9, .int r10, .int r11, .int r12, .rows r13, .int s0, .int s1, .int s2, .int s3, .int s4, .int s5, .int s6, .int s7, .int s8, .int s9, .int s10, .int s11, .int s12, .int s13, .rows s14, .int s15, .rows s16, .rows s17, .bool s18, .rows s19, .bool s20, .int s21, .int s22, .int s23, .rows s24, .int s25, .int s26, .int s27, .int n, .bool b] = some (AX (Ho (⟨r0, r1, r2, r3, r4, r5, r6, r7, r8, r9, r10, r11, r12, r13⟩ : Rul) (⟨s0, s1, s2, s3, s4, s5, s6, s7, s8, s9, s10, s11, s12, s13, s14, s15, s16, s17, s18, s19, s20, s21, s22, s23, s24, s25, s26, s27⟩ : Inn) n b)) := by
 show HU (std (HW N) N) (xOf _) = _
 generalize hres : (some (AX (Ho (⟨r0, r1, r2, r3, r4, r5, r6, r7, r8, r9, r10, r11, r12, r13⟩ : Rul) (⟨s0, s1, s2, s3, s4, s5, s6, s7, s8, s9, s10, s11, s12, s13, s14, s15, s16, s17, s18, s19, s20, s21, s22, s23, s24, s25, s26, s27⟩ : Inn) n b)) : Option (List PV)) = RR
 rcases he with he | he <;> subst he
 ·simp only [HU, std, xOf, PXb, PXc, PXn, PXm, Nat.reduceAdd, Int.reduceBEq, wr1, wr2, W2, W1]
  subst hres; simp only [Ho, Int.reduceBEq, beq_self_eq_true, cond_true, cond_false]
  cases s18 <;> cases b <;> first | rfl | (cases iLe r11 s25 <;> rfl)
 ·simp only [HU, std, xOf, PXb, PXc, PXn, PXm, Nat.reduceAdd, Int.reduceBEq, wr1, wr2, W2, W1]
  subst hres; simp only [Ho, Int.reduceBEq, beq_self_eq_true, cond_true, cond_false]
  cases s18 <;> cases b <;> first | rfl | (cases iLe r11 s26 <;> rfl)
theorem kK {N : Nat} {r1 r2 r3 r4 r5 r6 r7 r9 r10 r11 r12 : Int} {r8 : Bool} {r0 : ByteArray} {r13 : Rows} {s0 s1 s2 s3 s4 s5 s6 s7 s8 s9 s10 s11 s12 s13 s15 s21 s22 s23 s25 s26 s27 : Int} {s18 s20 : Bool} {s14 s16 s17 s19 s24 : Rows}  : GA N [.str r0, .int r1, .int r2, .int r3, .int r4, .int r5, .int r6, .int r7, .bool r8, .int r9, .int r10, .int r11, .int r12, .rows r13, .int s0, .int s1, .int s2, .int s3, .int s4, .int s5, .int s6, .int s7, .int s8, .int s9, .int s10, .int s11, .int s12, .int s13, .rows s14, .int s15, .rows s16, .rows s17, .bool s18, .rows s19, .bool s20, .int s21, .int s22, .int s23, .rows s24, .int s25, .int s26, .int s27] = some [.int (eH r4 s10 s11)] := by
 rfl
theorem qs {N : Nat} {r1 r2 r3 r4 r5 r6 r7 r9 r10 r11 r12 : Int} {r8 : Bool} {r0 : ByteArray} {r13 : Rows} {s0 s1 s2 s3 s4 s5 s6 s7 s8 s9 s10 s11 s12 s13 s15 s21 s22 s23 s25 s26 s27 : Int} {s18 s20 : Bool} {s14 s16 s17 s19 s24 : Rows}  : RE N [.str r0, .int r1, .int r2, .int r3, .int r4, .int r5, .int r6, .int r7, .bool r8, .int r9, .int r10, .int r11, .int r12, .rows r13, .int s0, .int s1, .int s2, .int s3, .int s4, .int s5, .int s6, .int s7, .int s8, .int s9, .int s10, .int s11, .int s12, .int s13, .rows s14, .int s15, .rows s16, .rows s17, .bool s18, .rows s19, .bool s20, .int s21, .int s22, .int s23, .rows s24, .int s25, .int s26, .int s27] = some [.int (eH r4 s10 s11)] := by
 rfl
def Ko (r : Rul) (s : Inn) (runs overs : Int) : Inn × Int :=
  cond (r.overs == 0 || (runs == 0 && overs == 0)) (s, 25) (cond (iLt 0 runs && (s.target == 0 || iLe runs s.runs)) (s, 25)
    (cond (iLt 0 overs && (iLt r.overs overs || iLt (IntKind.i64.wrap (overs * r.balls)) (eH r.balls s.complete s.inover))) (s, 25)
      ({ s with target := cond (iLt 0 runs) runs s.target, overs := cond (iLt 0 overs) overs s.overs }, 0)))
theorem iH {N : Nat} {r1 r2 r3 r4 r5 r6 r7 r9 r10 r11 r12 : Int} {r8 : Bool} {r0 : ByteArray} {r13 : Rows} {s0 s1 s2 s3 s4 s5 s6 s7 s8 s9 s10 s11 s12 s13 s15 s21 s22 s23 s25 s26 s27 : Int} {s18 s20 : Bool} {s14 s16 s17 s19 s24 : Rows} {e0 e1 e2 e3 e5 e6 e7 e8 e9 e10 e11 e13 e14 e15 e16 e18 : Int} {e4 e12 e17 : Bool} (h : Fit s14 s16 s17 s19 s24) : FO N [.str r0, .int r1, .int r2, .int r3, .int r4, .int r5, .int r6, .int r7, .bool r8, .int r9, .int r10, .int r11, .int r12, .rows r13, .int s0, .int s1, .int s2, .int s3, .int s4, .int s5, .int s6, .int s7, .int s8, .int s9, .int s10, .int s11, .int s12, .int s13, .rows s14, .int s15, .rows s16, .rows s17, .bool s18, .rows s19, .bool s20, .int s21, .int s22, .int s23, .rows s24, .int s25, .int s26, .int s27, .int e0, .int e1, .int e2, .int e3, .bool e4, .int e5, .int e6, .int e7, .int e8, .int e9, .int e10, .int e11, .bool e12, .int e13, .int e14, .int e15, .int e16, .bool e17, .int e18] = some (AX (Ko (⟨r0, r1, r2, r3, r4, r5, r6, r7, r8, r9, r10, r11, r12, r13⟩ : Rul) (⟨s0, s1, s2, s3, s4, s5, s6, s7, s8, s9, s10, s11, s12, s13, s14, s15, s16, s17, s18, s19, s20, s21, s22, s23, s24, s25, s26, s27⟩ : Inn) e5 e6)) := by
 show II (std (F1 N) N) (xOf _) = _
 generalize hres : (some (AX (Ko (⟨r0, r1, r2, r3, r4, r5, r6, r7, r8, r9, r10, r11, r12, r13⟩ : Rul) (⟨s0, s1, s2, s3, s4, s5, s6, s7, s8, s9, s10, s11, s12, s13, s14, s15, s16, s17, s18, s19, s20, s21, s22, s23, s24, s25, s26, s27⟩ : Inn) e5 e6)) : Option (List PV)) = RR
 simp only [II, Nn, OP, std, xOf, PXb, PXc, PXn, PXm, Nat.reduceAdd, Int.reduceBEq, CA h, kK]
 subst hres; simp only [Ko]
 cases (r3 == 0 || e5 == 0 && e6 == 0) <;> try rfl
 cases (iLt 0 e5 && (s1 == 0 || iLe e5 s3)) <;> try rfl
 cases iLt 0 e6 <;> cases iLt r3 e6 <;> try rfl
 simp only [PXb, PXc, PXn, PXm, Nat.reduceAdd, Int.reduceBEq]
 cases iLt (IntKind.i64.wrap (e6 * r4)) (eH r4 s10 s11) <;> rfl
theorem qC {N : Nat} {r1 r2 r3 r4 r5 r6 r7 r9 r10 r11 r12 : Int} {r8 : Bool} {r0 : ByteArray} {r13 : Rows} {s0 s1 s2 s3 s4 s5 s6 s7 s8 s9 s10 s11 s12 s13 s15 s21 s22 s23 s25 s26 s27 : Int} {s18 s20 : Bool} {s14 s16 s17 s19 s24 : Rows} {n : Int} {m : Int}  : KB N [.str r0, .int r1, .int r2, .int r3, .int r4, .int r5, .int r6, .int r7, .bool r8, .int r9, .int r10, .int r11, .int r12, .rows r13, .int s0, .int s1, .int s2, .int s3, .int s4, .int s5, .int s6, .int s7, .int s8, .int s9, .int s10, .int s11, .int s12, .int s13, .rows s14, .int s15, .rows s16, .rows s17, .bool s18, .rows s19, .bool s20, .int s21, .int s22, .int s23, .rows s24, .int s25, .int s26, .int s27, .int n, .int m] = some (AX (Ko (⟨r0, r1, r2, r3, r4, r5, r6, r7, r8, r9, r10, r11, r12, r13⟩ : Rul) (⟨s0, s1, s2, s3, s4, s5, s6, s7, s8, s9, s10, s11, s12, s13, s14, s15, s16, s17, s18, s19, s20, s21, s22, s23, s24, s25, s26, s27⟩ : Inn) n m)) := by
 show Jz (std (E0 N) N) (xOf _) = _
 generalize hres : (some (AX (Ko (⟨r0, r1, r2, r3, r4, r5, r6, r7, r8, r9, r10, r11, r12, r13⟩ : Rul) (⟨s0, s1, s2, s3, s4, s5, s6, s7, s8, s9, s10, s11, s12, s13, s14, s15, s16, s17, s18, s19, s20, s21, s22, s23, s24, s25, s26, s27⟩ : Inn) n m)) : Option (List PV)) = RR
 simp only [Jz, XC, std, xOf, PXb, PXc, PXn, PXm, Nat.reduceAdd, Int.reduceBEq, qs]
 subst hres; simp only [Ko]
 cases r3 == 0 <;> try rfl
 cases (n == 0 && m == 0) <;> cases (iLt 0 n && (s1 == 0 || iLe n s3)) <;> cases iLt 0 m <;> cases iLt r3 m <;> try rfl
 all_goals (simp only [PXb, PXc, PXn, PXm, Nat.reduceAdd, Int.reduceBEq] <;> first | rfl | (cases iLt (IntKind.i64.wrap (m * r4)) (eH r4 s10 s11) <;> rfl))
end Go.Px
end
section
namespace Go.Px
set_option maxRecDepth 100000
def C8 (r : Rul) (s : Inn) (e : Ev) : Inn × Int :=
  cond (e.kind == 2) (Sx s e.player e.other) (cond (e.kind == 3) (Tb r s e.player) (cond (e.kind == 4) (Sz r s e.ball)
    (cond (e.kind == 5) (cond e.yes (H4 s e.player) (PJ s e.player)) (cond (e.kind == 6) (K4 s e.player e.yes) (cond (e.kind == 7) (H7 s e.runs)
      (cond (e.kind == 8) (K1 s e.player) (cond (e.kind == 9) (Pa s e.player e.yes) (cond (e.kind == 10) (H6 r s) (cond (e.kind == 11) (Mk r s e.side)
        (cond (e.kind == 13) (Mx s e.side e.runs) (cond (e.kind == 14) (Ho r s e.side e.yes) (Ko r s e.runs e.overs))))))))))))
theorem ec {e : Ev} (h : (evS e == 0) = true) : (iLt e.kind 1 || iLt 16 e.kind) = false := by
 unfold evS at h
 cases hk : (iLt e.kind 1 || iLt 16 e.kind) with
 | false => rfl
 | true => rw [hk] at h; cases h
theorem sI {e : Ev} (h : (evS e == 0) = true) (hk : e.kind = 14) : e.side = 1 ∨ e.side = 2 := by
 have h0 := ec h
 unfold evS at h
 rw [h0] at h
 cases h1 : mA e with
 | true => rw [h1] at h; cases h
 | false =>
  cases h2 : dj e with
  | true => rw [h1, h2] at h; cases h
  | false =>
   unfold dj at h2
   rw [Bool.or_eq_false_iff] at h2
   have h3 := h2.1
   rw [hk, show uS 14 = true from rfl, Bool.and_true] at h3
   simp only [btw, iLe, Bool.not_eq_false', Bool.and_eq_true, decide_eq_true_eq] at h3
   omega
set_option maxHeartbeats 4000000 in
theorem ep {N : Nat} {r1 r2 r3 r4 r5 r6 r7 r9 r10 r11 r12 : Int} {r8 : Bool} {r0 : ByteArray} {r13 : Rows} {s0 s1 s2 s3 s4 s5 s6 s7 s8 s9 s10 s11 s12 s13 s15 s21 s22 s23 s25 s26 s27 : Int} {s18 s20 : Bool} {s14 s16 s17 s19 s24 : Rows} {e0 e1 e2 e3 e5 e6 e7 e8 e9 e10 e11 e13 e14 e15 e16 e18 : Int} {e4 e12 e17 : Bool} (h : Fit s14 s16 s17 s19 s24) (hw : s17.length + s16.length ≤ 1000000) (hN : 2097152 < N) (hs : r0.size ≤ 1048576) (h13 : r13.length ≤ 1048576) (he : (evS (⟨e0, e1, e2, e3, e4, e5, e6, ⟨e7, e8, e9, e10, e11, e12, e13, e14, e15, e16, e17, e18⟩⟩ : Ev) == 0) = true) : Ec N [.str r0, .int r1, .int r2, .int r3, .int r4, .int r5, .int r6, .int r7, .bool r8, .int r9, .int r10, .int r11, .int r12, .rows r13, .int s0, .int s1, .int s2, .int s3, .int s4, .int s5, .int s6, .int s7, .int s8, .int s9, .int s10, .int s11, .int s12, .int s13, .rows s14, .int s15, .rows s16, .rows s17, .bool s18, .rows s19, .bool s20, .int s21, .int s22, .int s23, .rows s24, .int s25, .int s26, .int s27, .int e0, .int e1, .int e2, .int e3, .bool e4, .int e5, .int e6, .int e7, .int e8, .int e9, .int e10, .int e11, .bool e12, .int e13, .int e14, .int e15, .int e16, .bool e17, .int e18] = some (AX (C8 (⟨r0, r1, r2, r3, r4, r5, r6, r7, r8, r9, r10, r11, r12, r13⟩ : Rul) (⟨s0, s1, s2, s3, s4, s5, s6, s7, s8, s9, s10, s11, s12, s13, s14, s15, s16, s17, s18, s19, s20, s21, s22, s23, s24, s25, s26, s27⟩ : Inn) (⟨e0, e1, e2, e3, e4, e5, e6, ⟨e7, e8, e9, e10, e11, e12, e13, e14, e15, e16, e17, e18⟩⟩ : Ev))) := by
  show Eb (std (Ag N) N) (xOf _) = _
  generalize hres : (some (AX (C8 (⟨r0, r1, r2, r3, r4, r5, r6, r7, r8, r9, r10, r11, r12, r13⟩ : Rul) (⟨s0, s1, s2, s3, s4, s5, s6, s7, s8, s9, s10, s11, s12, s13, s14, s15, s16, s17, s18, s19, s20, s21, s22, s23, s24, s25, s26, s27⟩ : Inn) (⟨e0, e1, e2, e3, e4, e5, e6, ⟨e7, e8, e9, e10, e11, e12, e13, e14, e15, e16, e17, e18⟩⟩ : Ev))) : Option (List PV)) = RR
  have hsd : e0 = 14 → e1 = 1 ∨ e1 = 2 := sI (e := (⟨e0, e1, e2, e3, e4, e5, e6, ⟨e7, e8, e9, e10, e11, e12, e13, e14, e15, e16, e17, e18⟩⟩ : Ev)) he
  rcases YE (ec he) with hk | hk | hk | hk | hk | hk | hk | hk | hk | hk | hk | hk | hk | hk | hk | hk <;> simp only at hk <;> subst hk <;> clear he
  all_goals (first
    | (have hsd := hsd rfl
       simp only [Eb, Gk, G9, GQ, E6, Fz, Fg, Fi, F9, EN, Fj, Ep, Eo, FV, FI, std, xOf, PXb, PXc, PXn, PXm, Nat.reduceAdd, Int.reduceBEq, iU h hsd]
       subst hres
       rfl)
    | (simp only [Eb, Gk, G9, GQ, E6, Fz, Fg, Fi, F9, EN, Fj, Ep, Eo, FV, FI, std, xOf, PXb, PXc, PXn, PXm, Nat.reduceAdd, Int.reduceBEq, ng h hN, qL h hN hs, mG h hw hN hs h13, gz h hN, lc h hN, kt h hN, jV h, lg h, ba h, kw h hN hs, fE h, eo h, iH h]
       subst hres
       first
       | rfl
       | (cases e4 <;> rfl)))
def mH (r : Rul) (s : Inn) (e : Ev) : Inn × Int := cond (e.kind == 1 || e.kind == 12 || e.kind == 16) (s, 1) (C8 r s e)
set_option maxHeartbeats 4000000 in
theorem mv {N : Nat} {r1 r2 r3 r4 r5 r6 r7 r9 r10 r11 r12 : Int} {r8 : Bool} {r0 : ByteArray} {r13 : Rows} {s0 s1 s2 s3 s4 s5 s6 s7 s8 s9 s10 s11 s12 s13 s15 s21 s22 s23 s25 s26 s27 : Int} {s18 s20 : Bool} {s14 s16 s17 s19 s24 : Rows} {e0 e1 e2 e3 e5 e6 e7 e8 e9 e10 e11 e13 e14 e15 e16 e18 : Int} {e4 e12 e17 : Bool} (h : Fit s14 s16 s17 s19 s24) (hw : s17.length + s16.length ≤ 1000000) (hN : 2097152 < N) (hs : r0.size ≤ 1048576) (h13 : r13.length ≤ 1048576) (he : (evS (⟨e0, e1, e2, e3, e4, e5, e6, ⟨e7, e8, e9, e10, e11, e12, e13, e14, e15, e16, e17, e18⟩⟩ : Ev) == 0) = true) : Ro N [.str r0, .int r1, .int r2, .int r3, .int r4, .int r5, .int r6, .int r7, .bool r8, .int r9, .int r10, .int r11, .int r12, .rows r13, .int s0, .int s1, .int s2, .int s3, .int s4, .int s5, .int s6, .int s7, .int s8, .int s9, .int s10, .int s11, .int s12, .int s13, .rows s14, .int s15, .rows s16, .rows s17, .bool s18, .rows s19, .bool s20, .int s21, .int s22, .int s23, .rows s24, .int s25, .int s26, .int s27, .int e0, .int e1, .int e2, .int e3, .bool e4, .int e5, .int e6, .int e7, .int e8, .int e9, .int e10, .int e11, .bool e12, .int e13, .int e14, .int e15, .int e16, .bool e17, .int e18] = some (AX (mH (⟨r0, r1, r2, r3, r4, r5, r6, r7, r8, r9, r10, r11, r12, r13⟩ : Rul) (⟨s0, s1, s2, s3, s4, s5, s6, s7, s8, s9, s10, s11, s12, s13, s14, s15, s16, s17, s18, s19, s20, s21, s22, s23, s24, s25, s26, s27⟩ : Inn) (⟨e0, e1, e2, e3, e4, e5, e6, ⟨e7, e8, e9, e10, e11, e12, e13, e14, e15, e16, e17, e18⟩⟩ : Ev))) := by
  show M7 (std (A4 N) N) (xOf _) = _
  generalize hres : (some (AX (mH (⟨r0, r1, r2, r3, r4, r5, r6, r7, r8, r9, r10, r11, r12, r13⟩ : Rul) (⟨s0, s1, s2, s3, s4, s5, s6, s7, s8, s9, s10, s11, s12, s13, s14, s15, s16, s17, s18, s19, s20, s21, s22, s23, s24, s25, s26, s27⟩ : Inn) (⟨e0, e1, e2, e3, e4, e5, e6, ⟨e7, e8, e9, e10, e11, e12, e13, e14, e15, e16, e17, e18⟩⟩ : Ev))) : Option (List PV)) = RR
  have hsd : e0 = 14 → e1 = 1 ∨ e1 = 2 := sI (e := (⟨e0, e1, e2, e3, e4, e5, e6, ⟨e7, e8, e9, e10, e11, e12, e13, e14, e15, e16, e17, e18⟩⟩ : Ev)) he
  rcases YE (ec he) with hk | hk | hk | hk | hk | hk | hk | hk | hk | hk | hk | hk | hk | hk | hk | hk <;> simp only at hk <;> subst hk <;> clear he
  all_goals (first
    | (have hsd := hsd rfl
       simp only [M7, NF, Ra, RV, Rt, M5, Pu, OI, NO, O7, KQ, NA, O9, Nq, std, xOf, PXb, PXc, PXn, PXm, Nat.reduceAdd, Int.reduceBEq, ph hsd]
       subst hres
       rfl)
    | (simp only [M7, NF, Ra, RV, Rt, M5, Pu, OI, NO, O7, KQ, NA, O9, Nq, std, xOf, PXb, PXc, PXn, PXm, Nat.reduceAdd, Int.reduceBEq, tY h hN, su h hN hs, se h hw hN hs h13, nT h hN, qz h hN, oU h hN, nK h, o9 h, g8 h, ni h hN hs, aM h, qC]
       subst hres
       first
       | rfl
       | (cases e4 <;> rfl)
       | (unfold mH C8 Mk; simp only [PXb, PXc, PXn, PXm, Nat.reduceAdd, Int.reduceBEq]; cases e1 == s0 <;> cases r3 == 0 <;> rfl)
       | (unfold mH C8 Mx Oo; simp only [PXb, PXc, PXn, PXm, Nat.reduceAdd, Int.reduceBEq]; cases e5 == 5 <;> cases e1 == s0 <;> cases iLt 0 s1 <;> rfl)))
end Go.Px
end
section
namespace Go.Px
set_option maxRecDepth 100000
theorem Lens.of {s t : Inn} (h1 : t.batters.length = s.batters.length) (h2 : t.bowled.length = s.bowled.length) (h3 : t.subs.length = s.subs.length) (h4 : t.bowlers = s.bowlers) (h5 : t.before = s.before) : Lens s t := ⟨h1, h2, h3, by rw [h4]; omega, by rw [h5]; omega⟩
theorem L_c {s : Inn} (b : Bool) (x y : Inn × Int) (hx : Lens s x.1) (hy : Lens s y.1) : Lens s (cond b x y).1 := by cases b <;> assumption
theorem vD (s : Inn) (p q : Int) : Lens s (Sx s p q).1 := by
 unfold Sx
 exact L_c _ _ _ (Lens.refl s) (L_c _ _ _ (Lens.refl s) (L_c _ _ _ (Lens.refl s) (Lens.of (by simp [Mn]) rfl rfl rfl rfl)))
theorem vj (r : Rul) (s : Inn) (p : Int) : Lens s (Tb r s p).1 := by
 unfold Tb
 exact P_c (P := fun x : Inn => Lens s x) _ _ _ (Lens.of rfl rfl rfl rfl rfl) (Lens.refl s)
theorem vl (r : Rul) (s : Inn) (d : Del) : Lens s (Sz r s d).1 := by
 unfold Sz
 refine L_c _ _ _ (Lens.refl s) ?_
 have l1 := iw s d
 have w1 := ol s d
 have w2 := pG s d
 simp only [pl]
 have l2 := dG r (CX s d) (BC r d).counts
 cases (DS r (CX s d) (BC r d).counts).2
 ·exact ⟨l2.bt.trans l1.bt, l2.bd.trans l1.bd, l2.sb.trans l1.sb, by have := l2.bw; rw [w1] at this; exact this, by have := l2.bf; rw [w1, w2] at this; exact this⟩
 ·exact ⟨l2.bt.trans l1.bt, l2.bd.trans l1.bd, l2.sb.trans l1.sb, by have := l2.bw; rw [w1] at this; exact this, by have := l2.bf; rw [w1, w2] at this; exact this⟩
theorem oe (s : Inn) (p : Int) : Lens s (H4 s p).1 := by
 unfold H4
 exact L_c _ _ _ (Lens.of (by simp [Mn]) rfl rfl rfl rfl) (Lens.refl s)
theorem tL (s : Inn) (p : Int) : Lens s (PJ s p).1 := by
 unfold PJ
 exact L_c _ _ _ (Lens.of (by simp [Mn]) rfl rfl rfl rfl) (Lens.refl s)
theorem rl (s : Inn) (p : Int) (b : Bool) : Lens s (K4 s p b).1 := by
 unfold K4
 exact L_c _ _ _ (Lens.refl s) (L_c _ _ _ (Lens.refl s) (L_c _ _ _ (Lens.refl s) (L_c _ _ _ (Lens.refl s) (Lens.of (by simp [Mn]) rfl rfl rfl rfl))))
theorem qM (s : Inn) (n : Int) : Lens s (H7 s n).1 := by
 unfold H7
 exact L_c _ _ _ (Lens.refl s) (Lens.of rfl rfl rfl rfl rfl)
theorem rm (s : Inn) (n : Int) : Lens s (K1 s n).1 := by
 unfold K1
 exact L_c _ _ _ (Lens.refl s) (L_c _ _ _ (Lens.refl s) (L_c _ _ _ (Lens.refl s) (Lens.of rfl rfl rfl rfl rfl)))
theorem ue (s : Inn) (n : Int) (b : Bool) : Lens s (Pa s n b).1 := by
 unfold Pa
 exact L_c _ _ _ (Lens.refl s) (L_c _ _ _ (Lens.refl s) (Lens.of rfl rfl (by simp [w0]) rfl rfl))
theorem qe (r : Rul) (s : Inn) : Lens s (H6 r s).1 := by
 unfold H6
 exact L_c _ _ _ (Lens.refl s) (Lens.of rfl rfl rfl rfl rfl)
theorem pF (r : Rul) (s : Inn) (n : Int) : Lens s (Mk r s n).1 := by
 unfold Mk
 exact L_c _ _ _ (Lens.refl s) (L_c _ _ _ (Lens.refl s) (Lens.of rfl rfl rfl rfl rfl))
theorem o5 (s : Inn) (n m : Int) : Lens s (Mx s n m).1 := by
 unfold Mx
 exact L_c _ _ _ (Lens.refl s) (L_c _ _ _ (Lens.of rfl rfl rfl rfl rfl) (Lens.of rfl rfl rfl rfl rfl))
theorem rg (r : Rul) (s : Inn) (n : Int) (b : Bool) : Lens s (Ho r s n b).1 := by
 unfold Ho
 exact L_c _ _ _ (Lens.refl s) (L_c _ _ _ (Lens.of rfl rfl rfl rfl rfl) (Lens.refl s))
theorem rz (r : Rul) (s : Inn) (n m : Int) : Lens s (Ko r s n m).1 := by
 unfold Ko
 exact L_c _ _ _ (Lens.refl s) (L_c _ _ _ (Lens.refl s) (L_c _ _ _ (Lens.refl s) (Lens.of rfl rfl rfl rfl rfl)))
theorem US (r : Rul) (s : Inn) (e : Ev) : Lens s (C8 r s e).1 := by
  unfold C8
  exact L_c _ _ _ (vD ..) (L_c _ _ _ (vj ..) (L_c _ _ _ (vl ..) (L_c _ _ _ (L_c _ _ _ (oe ..) (tL ..)) (L_c _ _ _ (rl ..) (L_c _ _ _ (qM ..)
    (L_c _ _ _ (rm ..) (L_c _ _ _ (ue ..) (L_c _ _ _ (qe ..) (L_c _ _ _ (pF ..) (L_c _ _ _ (o5 ..) (L_c _ _ _ (rg ..) (rz ..))))))))))))
def Hn (r : Rul) (s : Inn) : Bool := Lw r.name r.side r.innings r.overs r.balls r.quota r.wide r.noball r.newball r.followon r.reviews r.outside r.power s.batters s.bowlers s.before s.bowled s.subs s.side s.target s.overs s.runs s.wickets s.wides s.noballs s.byes s.legbyes s.pens s.complete s.inover s.striker s.other s.bowler s.ballage s.keeper s.outside s.rev1 s.rev2 s.ending
def wI (r : Rul) (s : Inn) : Int := qW (Hn r s) s.batters s.striker s.other s.target s.overs s.runs s.complete
theorem V7 {N : Nat} {r1 r2 r3 r4 r5 r6 r7 r9 r10 r11 r12 : Int} {r8 : Bool} {r0 : ByteArray} {r13 : Rows} {s0 s1 s2 s3 s4 s5 s6 s7 s8 s9 s10 s11 s12 s13 s15 s21 s22 s23 s25 s26 s27 : Int} {s18 s20 : Bool} {s14 s16 s17 s19 s24 : Rows} (h : Fit s14 s16 s17 s19 s24) (hN : 2097152 < N) (hs : r0.size ≤ 1048576) : BF N [.str r0, .int r1, .int r2, .int r3, .int r4, .int r5, .int r6, .int r7, .bool r8, .int r9, .int r10, .int r11, .int r12, .rows r13, .int s0, .int s1, .int s2, .int s3, .int s4, .int s5, .int s6, .int s7, .int s8, .int s9, .int s10, .int s11, .int s12, .int s13, .rows s14, .int s15, .rows s16, .rows s17, .bool s18, .rows s19, .bool s20, .int s21, .int s22, .int s23, .rows s24, .int s25, .int s26, .int s27] = some [.bool (Hn (⟨r0, r1, r2, r3, r4, r5, r6, r7, r8, r9, r10, r11, r12, r13⟩ : Rul) (⟨s0, s1, s2, s3, s4, s5, s6, s7, s8, s9, s10, s11, s12, s13, s14, s15, s16, s17, s18, s19, s20, s21, s22, s23, s24, s25, s26, s27⟩ : Inn))] := by
 exact UJ N _ _ _ _ _ _ _ _ _ _ _ _ _ _ _ _ _ _ _ _ _ _ _ _ _ _ _ _ _ _ _ _ _ _ _ _ _ _ _ _ _ _ hN hs h.bt h.bw h.bf h.bd
theorem fN {N : Nat} {r1 r2 r3 r4 r5 r6 r7 r9 r10 r11 r12 : Int} {r8 : Bool} {r0 : ByteArray} {r13 : Rows} {s0 s1 s2 s3 s4 s5 s6 s7 s8 s9 s10 s11 s12 s13 s15 s21 s22 s23 s25 s26 s27 : Int} {s18 s20 : Bool} {s14 s16 s17 s19 s24 : Rows} (h : Fit s14 s16 s17 s19 s24) (hN : 2097152 < N) (hs : r0.size ≤ 1048576) : Co N [.str r0, .int r1, .int r2, .int r3, .int r4, .int r5, .int r6, .int r7, .bool r8, .int r9, .int r10, .int r11, .int r12, .rows r13, .int s0, .int s1, .int s2, .int s3, .int s4, .int s5, .int s6, .int s7, .int s8, .int s9, .int s10, .int s11, .int s12, .int s13, .rows s14, .int s15, .rows s16, .rows s17, .bool s18, .rows s19, .bool s20, .int s21, .int s22, .int s23, .rows s24, .int s25, .int s26, .int s27] = some [.bool (Hn (⟨r0, r1, r2, r3, r4, r5, r6, r7, r8, r9, r10, r11, r12, r13⟩ : Rul) (⟨s0, s1, s2, s3, s4, s5, s6, s7, s8, s9, s10, s11, s12, s13, s14, s15, s16, s17, s18, s19, s20, s21, s22, s23, s24, s25, s26, s27⟩ : Inn))] := by
 exact cE N _ _ _ _ _ _ _ _ _ _ _ _ _ _ _ _ _ _ _ _ _ _ _ _ _ _ _ _ _ _ _ _ _ _ _ _ _ _ _ _ _ _ hN hs h.bt h.bw h.bf h.bd
theorem iC {N : Nat} {r1 r2 r3 r4 r5 r6 r7 r9 r10 r11 r12 : Int} {r8 : Bool} {r0 : ByteArray} {r13 : Rows} {s0 s1 s2 s3 s4 s5 s6 s7 s8 s9 s10 s11 s12 s13 s15 s21 s22 s23 s25 s26 s27 : Int} {s18 s20 : Bool} {s14 s16 s17 s19 s24 : Rows} (h : Fit s14 s16 s17 s19 s24) (hN : 2097152 < N) (hs : r0.size ≤ 1048576) : Dd N [.str r0, .int r1, .int r2, .int r3, .int r4, .int r5, .int r6, .int r7, .bool r8, .int r9, .int r10, .int r11, .int r12, .rows r13, .int s0, .int s1, .int s2, .int s3, .int s4, .int s5, .int s6, .int s7, .int s8, .int s9, .int s10, .int s11, .int s12, .int s13, .rows s14, .int s15, .rows s16, .rows s17, .bool s18, .rows s19, .bool s20, .int s21, .int s22, .int s23, .rows s24, .int s25, .int s26, .int s27] = some [.int (wI (⟨r0, r1, r2, r3, r4, r5, r6, r7, r8, r9, r10, r11, r12, r13⟩ : Rul) (⟨s0, s1, s2, s3, s4, s5, s6, s7, s8, s9, s10, s11, s12, s13, s14, s15, s16, s17, s18, s19, s20, s21, s22, s23, s24, s25, s26, s27⟩ : Inn))] := by
 exact ew N _ _ _ _ _ _ _ _ _ _ _ _ _ _ _ _ _ _ _ _ _ _ _ _ _ _ _ _ _ _ _ _ _ _ _ _ _ _ _ _ _ _ hN hs h.bt h.bw h.bf h.bd
theorem oq {N : Nat} {r1 r2 r3 r4 r5 r6 r7 r9 r10 r11 r12 : Int} {r8 : Bool} {r0 : ByteArray} {r13 : Rows} {s0 s1 s2 s3 s4 s5 s6 s7 s8 s9 s10 s11 s12 s13 s15 s21 s22 s23 s25 s26 s27 : Int} {s18 s20 : Bool} {s14 s16 s17 s19 s24 : Rows} (h : Fit s14 s16 s17 s19 s24) (hN : 2097152 < N) (hs : r0.size ≤ 1048576) : KA N [.str r0, .int r1, .int r2, .int r3, .int r4, .int r5, .int r6, .int r7, .bool r8, .int r9, .int r10, .int r11, .int r12, .rows r13, .int s0, .int s1, .int s2, .int s3, .int s4, .int s5, .int s6, .int s7, .int s8, .int s9, .int s10, .int s11, .int s12, .int s13, .rows s14, .int s15, .rows s16, .rows s17, .bool s18, .rows s19, .bool s20, .int s21, .int s22, .int s23, .rows s24, .int s25, .int s26, .int s27] = some [.int (wI (⟨r0, r1, r2, r3, r4, r5, r6, r7, r8, r9, r10, r11, r12, r13⟩ : Rul) (⟨s0, s1, s2, s3, s4, s5, s6, s7, s8, s9, s10, s11, s12, s13, s14, s15, s16, s17, s18, s19, s20, s21, s22, s23, s24, s25, s26, s27⟩ : Inn))] := by
 exact nl N _ _ _ _ _ _ _ _ _ _ _ _ _ _ _ _ _ _ _ _ _ _ _ _ _ _ _ _ _ _ _ _ _ _ _ _ _ _ _ _ _ _ hN hs h.bt h.bw h.bf h.bd
def jS (t : Inn) (b : Bool) : Inn := ⟨t.side, t.target, t.overs, t.runs, t.wickets, t.wides, t.noballs, t.byes, t.legbyes, t.pens, t.complete, t.inover, t.striker, t.other, t.batters, t.bowler, t.bowlers, t.before, b, t.bowled, t.freehit, t.ballage, t.keeper, t.outside, t.subs, t.rev1, t.rev2, t.ending⟩
def eY (r : Rul) (t : Inn) (b : Bool) : Inn := { jS t b with ending := cond (t.ending == 0) (wI r (jS t b)) t.ending }
def tZ (s : Inn) (e : Ev) : Bool := e.kind == 1 || e.kind == 12 || e.kind == 16 || (!CU s.batters && !(e.kind == 2))
def Ct (r : Rul) (s : Inn) (e : Ev) : Inn × Int :=
  cond (!Hn r s || !(evS e == 0)) (s, 1) (cond (!(s.ending == 0)) (s, 26) (cond (tZ s e) (s, 1)
    (cond (!((C8 r s e).2 == 0)) (s, (C8 r s e).2) (eY r (C8 r s e).1 (e.kind == 4), 0))))
set_option maxHeartbeats 4000000 in
theorem QU {N : Nat} {r1 r2 r3 r4 r5 r6 r7 r9 r10 r11 r12 : Int} {r8 : Bool} {r0 : ByteArray} {r13 : Rows} {s0 s1 s2 s3 s4 s5 s6 s7 s8 s9 s10 s11 s12 s13 s15 s21 s22 s23 s25 s26 s27 : Int} {s18 s20 : Bool} {s14 s16 s17 s19 s24 : Rows} {e0 e1 e2 e3 e5 e6 e7 e8 e9 e10 e11 e13 e14 e15 e16 e18 : Int} {e4 e12 e17 : Bool} (h : Fit s14 s16 s17 s19 s24) (hw : s17.length + s16.length ≤ 1000000) (hN : 2097152 < N) (hs : r0.size ≤ 1048576) (h13 : r13.length ≤ 1048576) : Hm N [.str r0, .int r1, .int r2, .int r3, .int r4, .int r5, .int r6, .int r7, .bool r8, .int r9, .int r10, .int r11, .int r12, .rows r13, .int s0, .int s1, .int s2, .int s3, .int s4, .int s5, .int s6, .int s7, .int s8, .int s9, .int s10, .int s11, .int s12, .int s13, .rows s14, .int s15, .rows s16, .rows s17, .bool s18, .rows s19, .bool s20, .int s21, .int s22, .int s23, .rows s24, .int s25, .int s26, .int s27, .int e0, .int e1, .int e2, .int e3, .bool e4, .int e5, .int e6, .int e7, .int e8, .int e9, .int e10, .int e11, .bool e12, .int e13, .int e14, .int e15, .int e16, .bool e17, .int e18] = some (AX (Ct (⟨r0, r1, r2, r3, r4, r5, r6, r7, r8, r9, r10, r11, r12, r13⟩ : Rul) (⟨s0, s1, s2, s3, s4, s5, s6, s7, s8, s9, s10, s11, s12, s13, s14, s15, s16, s17, s18, s19, s20, s21, s22, s23, s24, s25, s26, s27⟩ : Inn) (⟨e0, e1, e2, e3, e4, e5, e6, ⟨e7, e8, e9, e10, e11, e12, e13, e14, e15, e16, e17, e18⟩⟩ : Ev))) := by
 show Kj (std (CM N) N) (xOf _) = _
 generalize hres : (some (AX (Ct (⟨r0, r1, r2, r3, r4, r5, r6, r7, r8, r9, r10, r11, r12, r13⟩ : Rul) (⟨s0, s1, s2, s3, s4, s5, s6, s7, s8, s9, s10, s11, s12, s13, s14, s15, s16, s17, s18, s19, s20, s21, s22, s23, s24, s25, s26, s27⟩ : Inn) (⟨e0, e1, e2, e3, e4, e5, e6, ⟨e7, e8, e9, e10, e11, e12, e13, e14, e15, e16, e17, e18⟩⟩ : Ev))) : Option (List PV)) = RR
 have l1 := US (⟨r0, r1, r2, r3, r4, r5, r6, r7, r8, r9, r10, r11, r12, r13⟩ : Rul) (⟨s0, s1, s2, s3, s4, s5, s6, s7, s8, s9, s10, s11, s12, s13, s14, s15, s16, s17, s18, s19, s20, s21, s22, s23, s24, s25, s26, s27⟩ : Inn) (⟨e0, e1, e2, e3, e4, e5, e6, ⟨e7, e8, e9, e10, e11, e12, e13, e14, e15, e16, e17, e18⟩⟩ : Ev)
 have f1 := LT l1 h (by simp only; omega)
 simp only [Kj, QX, R7, QL, P7, GD, Gl, std, xOf, PXb, V7 h hN hs, aP hN, CA h, i4 h.bt hN]
 subst hres; simp only [Ct, tZ]
 cases Hn (⟨r0, r1, r2, r3, r4, r5, r6, r7, r8, r9, r10, r11, r12, r13⟩ : Rul) (⟨s0, s1, s2, s3, s4, s5, s6, s7, s8, s9, s10, s11, s12, s13, s14, s15, s16, s17, s18, s19, s20, s21, s22, s23, s24, s25, s26, s27⟩ : Inn)
 ·rfl
 cases he : evS (⟨e0, e1, e2, e3, e4, e5, e6, ⟨e7, e8, e9, e10, e11, e12, e13, e14, e15, e16, e17, e18⟩⟩ : Ev) == 0
 ·simp only [PXb, PXc, PXn, PXm, Nat.reduceAdd, Int.reduceBEq, he]
 simp only [PXb, PXc, PXn, PXm, Nat.reduceAdd, Int.reduceBEq, he]
 cases s27 == 0 <;> try rfl
 cases (e0 == 1 || e0 == 12 || e0 == 16) <;> cases CU s14 <;> cases e0 == 2 <;> try rfl
 all_goals (simp only [PXb, PXc, PXn, PXm, Nat.reduceAdd, Int.reduceBEq, GD, Gl, ep h hw hN hs h13 he, iC f1 hN hs])
 all_goals (unfold eY jS; cases (C8 (⟨r0, r1, r2, r3, r4, r5, r6, r7, r8, r9, r10, r11, r12, r13⟩ : Rul) (⟨s0, s1, s2, s3, s4, s5, s6, s7, s8, s9, s10, s11, s12, s13, s14, s15, s16, s17, s18, s19, s20, s21, s22, s23, s24, s25, s26, s27⟩ : Inn) (⟨e0, e1, e2, e3, e4, e5, e6, ⟨e7, e8, e9, e10, e11, e12, e13, e14, e15, e16, e17, e18⟩⟩ : Ev)).2 == 0 <;> cases (C8 (⟨r0, r1, r2, r3, r4, r5, r6, r7, r8, r9, r10, r11, r12, r13⟩ : Rul) (⟨s0, s1, s2, s3, s4, s5, s6, s7, s8, s9, s10, s11, s12, s13, s14, s15, s16, s17, s18, s19, s20, s21, s22, s23, s24, s25, s26, s27⟩ : Inn) (⟨e0, e1, e2, e3, e4, e5, e6, ⟨e7, e8, e9, e10, e11, e12, e13, e14, e15, e16, e17, e18⟩⟩ : Ev)).1.ending == 0 <;> rfl)
end Go.Px
end
