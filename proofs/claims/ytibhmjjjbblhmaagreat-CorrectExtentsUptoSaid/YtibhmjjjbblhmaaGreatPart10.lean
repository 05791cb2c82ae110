/- Part 10. -/
import Derived.Test.YtibhmjjjbblhmaaGreatPart07
import Derived.Test.YtibhmjjjbblhmaaGreatPart09
set_option linter.unusedVariables false
set_option linter.unusedSimpArgs false
section
namespace Go.Px
set_option maxRecDepth 100000
theorem HL {N : Nat} {s0 s1 s2 s3 s4 s5 s6 s7 s8 s9 s10 s11 s12 s13 s15 s21 s22 s23 s25 s26 s27 : Int} {s18 s20 : Bool} {s14 s16 s17 s19 s24 : Rows} (h : Fit s14 s16 s17 s19 s24) : Ar N [.int s0, .int s1, .int s2, .int s3, .int s4, .int s5, .int s6, .int s7, .int s8, .int s9, .int s10, .int s11, .int s12, .int s13, .rows s14, .int s15, .rows s16, .rows s17, .bool s18, .rows s19, .bool s20, .int s21, .int s22, .int s23, .rows s24, .int s25, .int s26, .int s27] = some [.int s0, .int s1, .int s2, .int s3, .int s4, .int s5, .int s6, .int s7, .int s8, .int s9, .int s10, .int s11, .int s12, .int s13, .rows s14, .int s15, .rows s16, .rows s17, .bool s18, .rows s19, .bool s20, .int s21, .int s22, .int s23, .rows s24, .int s25, .int s26, .int s27] := by
 show Nu (std (HP N) N) (xOf _) = _
 simp only [Nu, Mi, Pd, O8, std, xOf, PXb, PXc, PXn, PXm, Nat.reduceAdd, Int.reduceBEq, AU, Af, Ab, BO h.bt (show 1 ≤ 4096 by omega), BO h.bw' (show 8 ≤ 4096 by omega), BO h.bf (show 8 ≤ 4096 by omega), BO h.bd (show 8 ≤ 4096 by omega), BO h.sb (show 1 ≤ 4096 by omega)]
theorem B0 {N : Nat} {s0 s1 s2 s3 s4 s5 s6 s7 s8 s9 s10 s11 s12 s13 s15 s21 s22 s23 s25 s26 s27 : Int} {s18 s20 : Bool} {s14 s16 s17 s19 s24 : Rows} (h : Fit s14 s16 s17 s19 s24) : AO N [.int s0, .int s1, .int s2, .int s3, .int s4, .int s5, .int s6, .int s7, .int s8, .int s9, .int s10, .int s11, .int s12, .int s13, .rows s14, .int s15, .rows s16, .rows s17, .bool s18, .rows s19, .bool s20, .int s21, .int s22, .int s23, .rows s24, .int s25, .int s26, .int s27] = some [.int s0, .int s1, .int s2, .int s3, .int s4, .int s5, .int s6, .int s7, .int s8, .int s9, .int s10, .int s11, .int s12, .int s13, .rows s14, .int s15, .rows s16, .rows s17, .bool s18, .rows s19, .bool s20, .int s21, .int s22, .int s23, .rows s24, .int s25, .int s26, .int s27] := by
 show Qs (std (am N) N) (xOf _) = _
 simp only [Qs, std, xOf, PXb, PXc, PXn, PXm, Nat.reduceAdd, Int.reduceBEq, KO h.bt (show 1 ≤ 4096 by omega), KO h.bw' (show 8 ≤ 4096 by omega), KO h.bf (show 8 ≤ 4096 by omega), KO h.bd (show 8 ≤ 4096 by omega), KO h.sb (show 1 ≤ 4096 by omega)]
theorem Hp {N : Nat} {s0 s1 s2 s3 s4 s5 s6 s7 s8 s9 s10 s11 s12 s13 s15 s21 s22 s23 s25 s26 s27 : Int} {s18 s20 : Bool} {s14 s16 s17 s19 s24 : Rows} {p : Int}  : Au N [.int s0, .int s1, .int s2, .int s3, .int s4, .int s5, .int s6, .int s7, .int s8, .int s9, .int s10, .int s11, .int s12, .int s13, .rows s14, .int s15, .rows s16, .rows s17, .bool s18, .rows s19, .bool s20, .int s21, .int s22, .int s23, .rows s24, .int s25, .int s26, .int s27, .int p] = some [.bool (inR p s14.length)] := by
 show Kc (std (Ur N) N) (xOf _) = _
 simp only [Kc, std, xOf, PXb, PXc, PXn, PXm, Nat.reduceAdd, Int.reduceBEq]
 rfl
theorem PR {N : Nat} {s0 s1 s2 s3 s4 s5 s6 s7 s8 s9 s10 s11 s12 s13 s15 s21 s22 s23 s25 s26 s27 : Int} {s18 s20 : Bool} {s14 s16 s17 s19 s24 : Rows} {p : Int}  : BV N [.int s0, .int s1, .int s2, .int s3, .int s4, .int s5, .int s6, .int s7, .int s8, .int s9, .int s10, .int s11, .int s12, .int s13, .rows s14, .int s15, .rows s16, .rows s17, .bool s18, .rows s19, .bool s20, .int s21, .int s22, .int s23, .rows s24, .int s25, .int s26, .int s27, .int p] = some [.bool (inR p s14.length)] := by
 show PA (std (X7 N) N) (xOf _) = _
 simp only [PA, std, xOf, PXb, PXc, PXn, PXm, Nat.reduceAdd, Int.reduceBEq]
 rfl
def CX (s : Inn) (d : Del) : Inn :=
  let odd := !(d.runs.tmod 2 == 0) != d.crossed
  let t : Inn := cond odd { s with striker := s.other, other := s.striker } s
  let k : Bool := d.how == 0
  cond (!k && (d.victim == 1 && !(s.striker == 0)))
    { t with striker := cond odd t.striker 0, other := cond odd 0 t.other, batters := cond (inR s.striker s.batters.length) (J8 s.batters s.striker 2) s.batters, wickets := IntKind.i64.wrap (s.wickets + 1) }
    (cond (!k && (d.victim == 2 && !(s.other == 0)))
      { t with striker := cond odd 0 t.striker, other := cond odd t.other 0, batters := cond (inR s.other s.batters.length) (J8 s.batters s.other 2) s.batters, wickets := IntKind.i64.wrap (s.wickets + 1) }
      t)
theorem o6 {N : Nat} {s0 s1 s2 s3 s4 s5 s6 s7 s8 s9 s10 s11 s12 s13 s15 s21 s22 s23 s25 s26 s27 : Int} {s18 s20 : Bool} {s14 s16 s17 s19 s24 : Rows} {d0 d1 d2 d3 d4 d6 d7 d8 d9 d11 : Int} {d5 d10 : Bool} (h : Fit s14 s16 s17 s19 s24) : Jt N [.int s0, .int s1, .int s2, .int s3, .int s4, .int s5, .int s6, .int s7, .int s8, .int s9, .int s10, .int s11, .int s12, .int s13, .rows s14, .int s15, .rows s16, .rows s17, .bool s18, .rows s19, .bool s20, .int s21, .int s22, .int s23, .rows s24, .int s25, .int s26, .int s27, .int d0, .int d1, .int d2, .int d3, .int d4, .bool d5, .int d6, .int d7, .int d8, .int d9, .bool d10, .int d11] = some (CX (⟨s0, s1, s2, s3, s4, s5, s6, s7, s8, s9, s10, s11, s12, s13, s14, s15, s16, s17, s18, s19, s20, s21, s22, s23, s24, s25, s26, s27⟩ : Inn) (⟨d0, d1, d2, d3, d4, d5, d6, d7, d8, d9, d10, d11⟩ : Del)).ls := by
 show Nj (std (Kf N) N) (xOf _) = _
 simp only [Nj, VQ, S8, std, xOf, PXb, PXc, PXn, PXm, Nat.reduceAdd, Int.reduceBEq, HL h, Hp, ud h.bt]
 unfold CX
 cases d5 <;> cases d2.tmod 2 == 0 <;> cases d6 == 0 <;> cases d7 == 1 <;> cases d7 == 2 <;> cases s12 == 0 <;> cases s13 == 0 <;> rfl
def ed (s : Inn) : Inn := { s with striker := s.other, other := s.striker }
theorem kE {N : Nat} {s0 s1 s2 s3 s4 s5 s6 s7 s8 s9 s10 s11 s12 s13 s15 s21 s22 s23 s25 s26 s27 : Int} {s18 s20 : Bool} {s14 s16 s17 s19 s24 : Rows} (h : Fit s14 s16 s17 s19 s24) : GR N [.int s0, .int s1, .int s2, .int s3, .int s4, .int s5, .int s6, .int s7, .int s8, .int s9, .int s10, .int s11, .int s12, .int s13, .rows s14, .int s15, .rows s16, .rows s17, .bool s18, .rows s19, .bool s20, .int s21, .int s22, .int s23, .rows s24, .int s25, .int s26, .int s27] = some (ed (⟨s0, s1, s2, s3, s4, s5, s6, s7, s8, s9, s10, s11, s12, s13, s14, s15, s16, s17, s18, s19, s20, s21, s22, s23, s24, s25, s26, s27⟩ : Inn)).ls := by
 show Jf (std (LQ N) N) (xOf _) = _
 simp only [Jf, SA, std, xOf, PXb, PXc, PXn, PXm, Nat.reduceAdd, Int.reduceBEq, HL h]
 rfl
theorem dS {N : Nat} {s0 s1 s2 s3 s4 s5 s6 s7 s8 s9 s10 s11 s12 s13 s15 s21 s22 s23 s25 s26 s27 : Int} {s18 s20 : Bool} {s14 s16 s17 s19 s24 : Rows} (h : Fit s14 s16 s17 s19 s24) : FJ N [.int s0, .int s1, .int s2, .int s3, .int s4, .int s5, .int s6, .int s7, .int s8, .int s9, .int s10, .int s11, .int s12, .int s13, .rows s14, .int s15, .rows s16, .rows s17, .bool s18, .rows s19, .bool s20, .int s21, .int s22, .int s23, .rows s24, .int s25, .int s26, .int s27] = some (ed (⟨s0, s1, s2, s3, s4, s5, s6, s7, s8, s9, s10, s11, s12, s13, s14, s15, s16, s17, s18, s19, s20, s21, s22, s23, s24, s25, s26, s27⟩ : Inn)).ls := by
 show PM (std (QC N) N) (xOf _) = _
 simp only [PM, XG, std, xOf, PXb, PXc, PXn, PXm, Nat.reduceAdd, Int.reduceBEq, B0 h]
 rfl
theorem u9 {N : Nat} {s0 s1 s2 s3 s4 s5 s6 s7 s8 s9 s10 s11 s12 s13 s15 s21 s22 s23 s25 s26 s27 : Int} {s18 s20 : Bool} {s14 s16 s17 s19 s24 : Rows} {d0 d1 d2 d3 d4 d6 d7 d8 d9 d11 : Int} {d5 d10 : Bool} (h : Fit s14 s16 s17 s19 s24) : Wa N [.int s0, .int s1, .int s2, .int s3, .int s4, .int s5, .int s6, .int s7, .int s8, .int s9, .int s10, .int s11, .int s12, .int s13, .rows s14, .int s15, .rows s16, .rows s17, .bool s18, .rows s19, .bool s20, .int s21, .int s22, .int s23, .rows s24, .int s25, .int s26, .int s27, .int d0, .int d1, .int d2, .int d3, .int d4, .bool d5, .int d6, .int d7, .int d8, .int d9, .bool d10, .int d11] = some (CX (⟨s0, s1, s2, s3, s4, s5, s6, s7, s8, s9, s10, s11, s12, s13, s14, s15, s16, s17, s18, s19, s20, s21, s22, s23, s24, s25, s26, s27⟩ : Inn) (⟨d0, d1, d2, d3, d4, d5, d6, d7, d8, d9, d10, d11⟩ : Del)).ls := by
 show WU (std (L2 N) N) (xOf _) = _
 simp only [WU, bD, ZI, Yp, std, xOf, PXb, PXc, PXn, PXm, Nat.reduceAdd, Int.reduceBEq, B0 h, PR, ud h.bt, dS h, ed, CX]
 cases h71 : d7 == 1
 ·cases d5 <;> cases d2.tmod 2 == 0 <;> cases d6 == 0 <;> cases d7 == 2 <;> cases s12 == 0 <;> cases s13 == 0 <;> rfl
 ·rw [ll h71]
  cases d5 <;> cases d2.tmod 2 == 0 <;> cases d6 == 0 <;> cases s12 == 0 <;> rfl
theorem ij {N : Nat} {v : Int}  : Cx N [.int v] = some [.bool (!(v == 0))] := by
 show M1 (std (Rr N) N) (xOf _) = _
 rfl
theorem fA {N : Nat} {v : Int}  : EX N [.int v] = some [.bool (!(v == 0))] := by
 show LL (std (Pm N) N) (xOf _) = _
 rfl
theorem Yh {N : Nat} {s0 s1 s2 s3 s4 s5 s6 s7 s8 s9 s10 s11 s12 s13 s15 s21 s22 s23 s25 s26 s27 : Int} {s18 s20 : Bool} {s14 s16 s17 s19 s24 : Rows} (h : s14.length ≤ 1048576) (hN : 2097152 < N) : Bw N [.int s0, .int s1, .int s2, .int s3, .int s4, .int s5, .int s6, .int s7, .int s8, .int s9, .int s10, .int s11, .int s12, .int s13, .rows s14, .int s15, .rows s16, .rows s17, .bool s18, .rows s19, .bool s20, .int s21, .int s22, .int s23, .rows s24, .int s25, .int s26, .int s27] = some [.bool (CU s14)] := by
 show E1 (std (E5 N) N) (xOf _) = _
 simp only [E1, Gj, std, xOf, PXb, PXc, PXn, AA]
 rw [show CU s14 = iLe 0 (SO (fun i => !(atI s14 i 0 == 0)) s14.length) from (Kh _ _).symm]
 rw [Option.bind_assoc]
 refine AK (Cc (len := s14.length) (Gg fun i => !(atI s14 i 0 == 0)) ?_ ?_ s14.length 0 N (by omega) (by omega)) ?_
 ·intro self
  simp only [PXb, PXc, PXn, AA, Aj]
 ·intro i self hi
  simp only [PXb, PXc, PXn, AA, AN (show i ≤ 1099511627776 by omega), Ae hi, AP hi, Gg, A2, Gj, ij]
  cases atI s14 i 0 == 0 <;> rfl
 ·unfold SO
  cases B8 (Gg fun i => !(atI s14 i 0 == 0)) s14.length 0 <;> rfl
theorem i4 {N : Nat} {s0 s1 s2 s3 s4 s5 s6 s7 s8 s9 s10 s11 s12 s13 s15 s21 s22 s23 s25 s26 s27 : Int} {s18 s20 : Bool} {s14 s16 s17 s19 s24 : Rows} (h : s14.length ≤ 1048576) (hN : 2097152 < N) : GK N [.int s0, .int s1, .int s2, .int s3, .int s4, .int s5, .int s6, .int s7, .int s8, .int s9, .int s10, .int s11, .int s12, .int s13, .rows s14, .int s15, .rows s16, .rows s17, .bool s18, .rows s19, .bool s20, .int s21, .int s22, .int s23, .rows s24, .int s25, .int s26, .int s27] = some [.bool (CU s14)] := by
 show Jb (std (LI N) N) (xOf _) = _
 simp only [Jb, Fh, std, xOf, PXb, PXc, PXn, AA]
 rw [show CU s14 = iLe 0 (SO (fun i => !(atI s14 i 0 == 0)) s14.length) from (Kh _ _).symm]
 rw [Option.bind_assoc]
 refine AK (Cc (len := s14.length) (Gg fun i => !(atI s14 i 0 == 0)) ?_ ?_ s14.length 0 N (by omega) (by omega)) ?_
 ·intro self
  simp only [PXb, PXc, PXn, AA, Aj]
 ·intro i self hi
  simp only [PXb, PXc, PXn, AA, AN (show i ≤ 1099511627776 by omega), Ae hi, AP hi, Gg, A2, Fh, fA]
  cases atI s14 i 0 == 0 <;> rfl
 ·unfold SO
  cases B8 (Gg fun i => !(atI s14 i 0 == 0)) s14.length 0 <;> rfl
theorem W5 {N : Nat} {s0 s1 s2 s3 s4 s5 s6 s7 s8 s9 s10 s11 s12 s13 s15 s21 s22 s23 s25 s26 s27 : Int} {s18 s20 : Bool} {s14 s16 s17 s19 s24 : Rows} (h : s14.length ≤ 1048576) (hN : 2097152 < N) : BX N [.int s0, .int s1, .int s2, .int s3, .int s4, .int s5, .int s6, .int s7, .int s8, .int s9, .int s10, .int s11, .int s12, .int s13, .rows s14, .int s15, .rows s16, .rows s17, .bool s18, .rows s19, .bool s20, .int s21, .int s22, .int s23, .rows s24, .int s25, .int s26, .int s27] = some [.bool (CU s14)] := by
 show JA (std (R6 N) N) (xOf _) = _
 simp only [JA, std, xOf, PXb, PXc, PXn, AA]
 refine AK (A7 (len := s14.length) (fun i => !(atI s14 i 0 == 0)) [.bool true] ?_ ?_ N (by omega)) ?_
 ·intro self
  simp only [PXb, PXc, PXn, AA, Aj]
 ·intro i self hi
  simp only [PXb, PXc, PXn, AA, AN (show i ≤ 1099511627776 by omega), Ae hi, AP hi, A2]
 ·unfold CU
  cases Ah (fun i => !(atI s14 i 0 == 0)) s14.length 0 <;> rfl
theorem Vm {N : Nat} {s0 s1 s2 s3 s4 s5 s6 s7 s8 s9 s10 s11 s12 s13 s15 s21 s22 s23 s25 s26 s27 : Int} {s18 s20 : Bool} {s14 s16 s17 s19 s24 : Rows} (h : s14.length ≤ 1048576) (hN : 2097152 < N) : BH N [.int s0, .int s1, .int s2, .int s3, .int s4, .int s5, .int s6, .int s7, .int s8, .int s9, .int s10, .int s11, .int s12, .int s13, .rows s14, .int s15, .rows s16, .rows s17, .bool s18, .rows s19, .bool s20, .int s21, .int s22, .int s23, .rows s24, .int s25, .int s26, .int s27] = some [.bool (FA s14 s12 s13)] := by
 show EC (std (EO N) N) (xOf _) = _
 simp only [EC, QQ, std, xOf, PXb, PXc, PXn, PXm, Nat.reduceAdd, Int.reduceBEq, Yh h hN]
 rfl
theorem bh {N : Nat} {s0 s1 s2 s3 s4 s5 s6 s7 s8 s9 s10 s11 s12 s13 s15 s21 s22 s23 s25 s26 s27 : Int} {s18 s20 : Bool} {s14 s16 s17 s19 s24 : Rows} (h : s14.length ≤ 1048576) (hN : 2097152 < N) : CE N [.int s0, .int s1, .int s2, .int s3, .int s4, .int s5, .int s6, .int s7, .int s8, .int s9, .int s10, .int s11, .int s12, .int s13, .rows s14, .int s15, .rows s16, .rows s17, .bool s18, .rows s19, .bool s20, .int s21, .int s22, .int s23, .rows s24, .int s25, .int s26, .int s27] = some [.bool (FA s14 s12 s13)] := by
 show Hg (std (HD N) N) (xOf _) = _
 simp only [Hg, Wm, std, xOf, PXb, PXc, PXn, PXm, Nat.reduceAdd, Int.reduceBEq, W5 h hN]
 rfl
theorem nM {N : Nat} {s0 s1 s2 s3 s4 s5 s6 s7 s8 s9 s10 s11 s12 s13 s15 s21 s22 s23 s25 s26 s27 : Int} {s18 s20 : Bool} {s14 s16 s17 s19 s24 : Rows} (h : s14.length ≤ 1048576) (hN : 2097152 < N) : Cs N [.int s0, .int s1, .int s2, .int s3, .int s4, .int s5, .int s6, .int s7, .int s8, .int s9, .int s10, .int s11, .int s12, .int s13, .rows s14, .int s15, .rows s16, .rows s17, .bool s18, .rows s19, .bool s20, .int s21, .int s22, .int s23, .rows s24, .int s25, .int s26, .int s27] = some [.rows (Bt s14 s14.length)] := by
 show Fp (std (PW N) N) (xOf _) = _
 simp only [Fp, std, xOf, PXb, PXc, PXn, AA]
 refine AK (Dg (len := s14.length) (fun i => [.rows (Bt s14 i), .int (i : Int)]) [.rows (Bt s14 s14.length)] ?_ ?_ N (by omega)) rfl
 ·intro self
  simp only [PXb, PXc, PXn, AA, Aj]
 ·intro i self hi
  have h2 : (Bt s14 i ++ [[PV.int ((i : Int) + 1)]]).length ≤ 4194304 := by have := UU s14 i; simp; omega
  simp only [PXb, PXc, PXn, AA, AN (show i ≤ 1099511627776 by omega), Ae hi, AP hi, A2, Bt, Gx h2 (show 8 ≤ 4096 by omega)]
  cases (atI s14 i 0 == 0 || atI s14 i 0 == 3) <;> rfl
theorem uN {N : Nat} {s0 s1 s2 s3 s4 s5 s6 s7 s8 s9 s10 s11 s12 s13 s15 s21 s22 s23 s25 s26 s27 : Int} {s18 s20 : Bool} {s14 s16 s17 s19 s24 : Rows} (h : s14.length ≤ 1048576) (hN : 2097152 < N) : Eh N [.int s0, .int s1, .int s2, .int s3, .int s4, .int s5, .int s6, .int s7, .int s8, .int s9, .int s10, .int s11, .int s12, .int s13, .rows s14, .int s15, .rows s16, .rows s17, .bool s18, .rows s19, .bool s20, .int s21, .int s22, .int s23, .rows s24, .int s25, .int s26, .int s27] = some [.rows (Bt s14 s14.length)] := by
 show LA (std (U6 N) N) (xOf _) = _
 simp only [LA, std, xOf, PXb, PXc, PXn, AA]
 refine AK (Dg (len := s14.length) (fun i => [.rows (Bt s14 i), .int (i : Int)]) [.rows (Bt s14 s14.length)] ?_ ?_ N (by omega)) rfl
 ·intro self
  simp only [PXb, PXc, PXn, AA, Aj]
 ·intro i self hi
  have h2 : (Bt s14 i ++ [[PV.int ((i : Int) + 1)]]).length ≤ 4194304 := by have := UU s14 i; simp; omega
  simp only [PXb, PXc, PXn, AA, AN (show i ≤ 1099511627776 by omega), Ae hi, AP hi, A2, Bt, Gx h2 (show 8 ≤ 4096 by omega)]
  cases (atI s14 i 0 == 0 || atI s14 i 0 == 3) <;> rfl
def Sx (s : Inn) (p q : Int) : Inn × Int :=
  cond (CU s.batters) (s, 1) (cond (!inR p s.batters.length || !inR q s.batters.length) (s, 3) (cond (p == q) (s, 4)
    ({ s with batters := J8 (J8 s.batters p 1) q 1, striker := p, other := q }, 0)))
theorem ng {N : Nat} {s0 s1 s2 s3 s4 s5 s6 s7 s8 s9 s10 s11 s12 s13 s15 s21 s22 s23 s25 s26 s27 : Int} {s18 s20 : Bool} {s14 s16 s17 s19 s24 : Rows} {p : Int} {q : Int} (h : Fit s14 s16 s17 s19 s24) (hN : 2097152 < N) : Is N [.int s0, .int s1, .int s2, .int s3, .int s4, .int s5, .int s6, .int s7, .int s8, .int s9, .int s10, .int s11, .int s12, .int s13, .rows s14, .int s15, .rows s16, .rows s17, .bool s18, .rows s19, .bool s20, .int s21, .int s22, .int s23, .rows s24, .int s25, .int s26, .int s27, .int p, .int q] = some (AX (Sx (⟨s0, s1, s2, s3, s4, s5, s6, s7, s8, s9, s10, s11, s12, s13, s14, s15, s16, s17, s18, s19, s20, s21, s22, s23, s24, s25, s26, s27⟩ : Inn) p q)) := by
 show MY (std (GB N) N) (xOf _) = _
 generalize hres : (some (AX (Sx (⟨s0, s1, s2, s3, s4, s5, s6, s7, s8, s9, s10, s11, s12, s13, s14, s15, s16, s17, s18, s19, s20, s21, s22, s23, s24, s25, s26, s27⟩ : Inn) p q)) : Option (List PV)) = RR
 simp only [MY, UQ, R9, R1, std, xOf, PXb, PXc, PXn, PXm, Nat.reduceAdd, Int.reduceBEq, HL h, Yh h.bt hN, Hp]
 subst hres; simp only [Sx]
 cases CU s14 <;> try rfl
 cases hp : inR p s14.length <;> cases hq : inR q s14.length <;> try rfl
 rw [DT hp h.bt, DT hq h.bt]
 cases p == q <;> rfl
theorem tY {N : Nat} {s0 s1 s2 s3 s4 s5 s6 s7 s8 s9 s10 s11 s12 s13 s15 s21 s22 s23 s25 s26 s27 : Int} {s18 s20 : Bool} {s14 s16 s17 s19 s24 : Rows} {p : Int} {q : Int} (h : Fit s14 s16 s17 s19 s24) (hN : 2097152 < N) : TP N [.int s0, .int s1, .int s2, .int s3, .int s4, .int s5, .int s6, .int s7, .int s8, .int s9, .int s10, .int s11, .int s12, .int s13, .rows s14, .int s15, .rows s16, .rows s17, .bool s18, .rows s19, .bool s20, .int s21, .int s22, .int s23, .rows s24, .int s25, .int s26, .int s27, .int p, .int q] = some (AX (Sx (⟨s0, s1, s2, s3, s4, s5, s6, s7, s8, s9, s10, s11, s12, s13, s14, s15, s16, s17, s18, s19, s20, s21, s22, s23, s24, s25, s26, s27⟩ : Inn) p q)) := by
 show TB (std (Jm N) N) (xOf _) = _
 generalize hres : (some (AX (Sx (⟨s0, s1, s2, s3, s4, s5, s6, s7, s8, s9, s10, s11, s12, s13, s14, s15, s16, s17, s18, s19, s20, s21, s22, s23, s24, s25, s26, s27⟩ : Inn) p q)) : Option (List PV)) = RR
 simp only [TB, Zp, Yv, Xv, std, xOf, PXb, PXc, PXn, PXm, Nat.reduceAdd, Int.reduceBEq, B0 h, W5 h.bt hN, PR]
 subst hres; simp only [Sx]
 cases CU s14 <;> try rfl
 cases hp : inR p s14.length <;> cases hq : inR q s14.length <;> try rfl
 rw [DT hp h.bt, DT hq h.bt]
 cases p == q <;> rfl
def LP (s : Inn) (p : Int) : Int :=
 cond (!inR p s.batters.length) 3 (cond (!FA s.batters s.striker s.other || atI s.batters (ix p) 0 == 1) 4 (cond (atI s.batters (ix p) 0 == 2) 5 0))
theorem ct {N : Nat} {s0 s1 s2 s3 s4 s5 s6 s7 s8 s9 s10 s11 s12 s13 s15 s21 s22 s23 s25 s26 s27 : Int} {s18 s20 : Bool} {s14 s16 s17 s19 s24 : Rows} {p : Int} (h : s14.length ≤ 1048576) (hN : 2097152 < N) : D5 N [.int s0, .int s1, .int s2, .int s3, .int s4, .int s5, .int s6, .int s7, .int s8, .int s9, .int s10, .int s11, .int s12, .int s13, .rows s14, .int s15, .rows s16, .rows s17, .bool s18, .rows s19, .bool s20, .int s21, .int s22, .int s23, .rows s24, .int s25, .int s26, .int s27, .int p] = some [.int (LP (⟨s0, s1, s2, s3, s4, s5, s6, s7, s8, s9, s10, s11, s12, s13, s14, s15, s16, s17, s18, s19, s20, s21, s22, s23, s24, s25, s26, s27⟩ : Inn) p)] := by
 show PP (std (K9 N) N) (xOf _) = _
 generalize hres : (some [.int (LP (⟨s0, s1, s2, s3, s4, s5, s6, s7, s8, s9, s10, s11, s12, s13, s14, s15, s16, s17, s18, s19, s20, s21, s22, s23, s24, s25, s26, s27⟩ : Inn) p)] : Option (List PV)) = RR
 simp only [PP, SI, TW, std, xOf, PXb, PXc, PXn, PXm, Nat.reduceAdd, Int.reduceBEq, Hp, Vm h hN]
 subst hres; simp only [LP]
 cases hp : inR p s14.length <;> try rfl
 rw [DT hp h]
 cases FA s14 s12 s13 <;> try rfl
 simp only [PXb, PXc, PXn, PXm, Nat.reduceAdd, Int.reduceBEq, atI, ix]
theorem gR {N : Nat} {s0 s1 s2 s3 s4 s5 s6 s7 s8 s9 s10 s11 s12 s13 s15 s21 s22 s23 s25 s26 s27 : Int} {s18 s20 : Bool} {s14 s16 s17 s19 s24 : Rows} {p : Int} (h : s14.length ≤ 1048576) (hN : 2097152 < N) : Et N [.int s0, .int s1, .int s2, .int s3, .int s4, .int s5, .int s6, .int s7, .int s8, .int s9, .int s10, .int s11, .int s12, .int s13, .rows s14, .int s15, .rows s16, .rows s17, .bool s18, .rows s19, .bool s20, .int s21, .int s22, .int s23, .rows s24, .int s25, .int s26, .int s27, .int p] = some [.int (LP (⟨s0, s1, s2, s3, s4, s5, s6, s7, s8, s9, s10, s11, s12, s13, s14, s15, s16, s17, s18, s19, s20, s21, s22, s23, s24, s25, s26, s27⟩ : Inn) p)] := by
 show Qn (std (ME N) N) (xOf _) = _
 generalize hres : (some [.int (LP (⟨s0, s1, s2, s3, s4, s5, s6, s7, s8, s9, s10, s11, s12, s13, s14, s15, s16, s17, s18, s19, s20, s21, s22, s23, s24, s25, s26, s27⟩ : Inn) p)] : Option (List PV)) = RR
 simp only [Qn, Wt, W7, std, xOf, PXb, PXc, PXn, PXm, Nat.reduceAdd, Int.reduceBEq, PR, bh h hN]
 subst hres; simp only [LP]
 cases hp : inR p s14.length <;> try rfl
 rw [DT hp h]
 cases FA s14 s12 s13 <;> try rfl
 simp only [PXb, PXc, PXn, PXm, Nat.reduceAdd, Int.reduceBEq, atI, ix]
theorem WR {s : Inn} {p : Int} (h : (LP s p == 0) = true) : inR p s.batters.length = true := by
 unfold LP at h
 cases hp : inR p s.batters.length with
 | true => rfl
 | false => rw [hp] at h; cases h
def PJ (s : Inn) (p : Int) : Inn × Int :=
 cond (LP s p == 0) ({ s with batters := J8 s.batters p 1, striker := cond (s.striker == 0) p s.striker, other := cond (s.striker == 0) s.other p }, 0) (s, LP s p)
def H4 (s : Inn) (p : Int) : Inn × Int :=
 cond (LP s p == 0) ({ s with batters := J8 s.batters p 2, wickets := IntKind.i64.wrap (s.wickets + 1) }, 0) (s, LP s p)
theorem lc {N : Nat} {s0 s1 s2 s3 s4 s5 s6 s7 s8 s9 s10 s11 s12 s13 s15 s21 s22 s23 s25 s26 s27 : Int} {s18 s20 : Bool} {s14 s16 s17 s19 s24 : Rows} {p : Int} (h : Fit s14 s16 s17 s19 s24) (hN : 2097152 < N) : HC N [.int s0, .int s1, .int s2, .int s3, .int s4, .int s5, .int s6, .int s7, .int s8, .int s9, .int s10, .int s11, .int s12, .int s13, .rows s14, .int s15, .rows s16, .rows s17, .bool s18, .rows s19, .bool s20, .int s21, .int s22, .int s23, .rows s24, .int s25, .int s26, .int s27, .int p] = some (AX (PJ (⟨s0, s1, s2, s3, s4, s5, s6, s7, s8, s9, s10, s11, s12, s13, s14, s15, s16, s17, s18, s19, s20, s21, s22, s23, s24, s25, s26, s27⟩ : Inn) p)) := by
 show Kt (std (H2 N) N) (xOf _) = _
 generalize hres : (some (AX (PJ (⟨s0, s1, s2, s3, s4, s5, s6, s7, s8, s9, s10, s11, s12, s13, s14, s15, s16, s17, s18, s19, s20, s21, s22, s23, s24, s25, s26, s27⟩ : Inn) p)) : Option (List PV)) = RR
 simp only [Kt, TE, TG, std, xOf, PXb, PXc, PXn, PXm, Nat.reduceAdd, Int.reduceBEq, HL h, ct h.bt hN]
 subst hres; simp only [PJ]
 cases hm : LP (⟨s0, s1, s2, s3, s4, s5, s6, s7, s8, s9, s10, s11, s12, s13, s14, s15, s16, s17, s18, s19, s20, s21, s22, s23, s24, s25, s26, s27⟩ : Inn) p == 0 <;> try rfl
 rw [DT (WR hm) h.bt]
 cases s12 == 0 <;> rfl
theorem qz {N : Nat} {s0 s1 s2 s3 s4 s5 s6 s7 s8 s9 s10 s11 s12 s13 s15 s21 s22 s23 s25 s26 s27 : Int} {s18 s20 : Bool} {s14 s16 s17 s19 s24 : Rows} {p : Int} (h : Fit s14 s16 s17 s19 s24) (hN : 2097152 < N) : RC N [.int s0, .int s1, .int s2, .int s3, .int s4, .int s5, .int s6, .int s7, .int s8, .int s9, .int s10, .int s11, .int s12, .int s13, .rows s14, .int s15, .rows s16, .rows s17, .bool s18, .rows s19, .bool s20, .int s21, .int s22, .int s23, .rows s24, .int s25, .int s26, .int s27, .int p] = some (AX (PJ (⟨s0, s1, s2, s3, s4, s5, s6, s7, s8, s9, s10, s11, s12, s13, s14, s15, s16, s17, s18, s19, s20, s21, s22, s23, s24, s25, s26, s27⟩ : Inn) p)) := by
 show RG (std (MQ N) N) (xOf _) = _
 generalize hres : (some (AX (PJ (⟨s0, s1, s2, s3, s4, s5, s6, s7, s8, s9, s10, s11, s12, s13, s14, s15, s16, s17, s18, s19, s20, s21, s22, s23, s24, s25, s26, s27⟩ : Inn) p)) : Option (List PV)) = RR
 simp only [RG, YA, Xs, std, xOf, PXb, PXc, PXn, PXm, Nat.reduceAdd, Int.reduceBEq, B0 h, gR h.bt hN]
 subst hres; simp only [PJ]
 cases hm : LP (⟨s0, s1, s2, s3, s4, s5, s6, s7, s8, s9, s10, s11, s12, s13, s14, s15, s16, s17, s18, s19, s20, s21, s22, s23, s24, s25, s26, s27⟩ : Inn) p == 0 <;> try rfl
 rw [DT (WR hm) h.bt]
 cases s12 == 0 <;> rfl
theorem gz {N : Nat} {s0 s1 s2 s3 s4 s5 s6 s7 s8 s9 s10 s11 s12 s13 s15 s21 s22 s23 s25 s26 s27 : Int} {s18 s20 : Bool} {s14 s16 s17 s19 s24 : Rows} {p : Int} (h : Fit s14 s16 s17 s19 s24) (hN : 2097152 < N) : FR N [.int s0, .int s1, .int s2, .int s3, .int s4, .int s5, .int s6, .int s7, .int s8, .int s9, .int s10, .int s11, .int s12, .int s13, .rows s14, .int s15, .rows s16, .rows s17, .bool s18, .rows s19, .bool s20, .int s21, .int s22, .int s23, .rows s24, .int s25, .int s26, .int s27, .int p] = some (AX (H4 (⟨s0, s1, s2, s3, s4, s5, s6, s7, s8, s9, s10, s11, s12, s13, s14, s15, s16, s17, s18, s19, s20, s21, s22, s23, s24, s25, s26, s27⟩ : Inn) p)) := by
 show ID (std (Ds N) N) (xOf _) = _
 generalize hres : (some (AX (H4 (⟨s0, s1, s2, s3, s4, s5, s6, s7, s8, s9, s10, s11, s12, s13, s14, s15, s16, s17, s18, s19, s20, s21, s22, s23, s24, s25, s26, s27⟩ : Inn) p)) : Option (List PV)) = RR
 simp only [ID, RW, Pc, Ru, std, xOf, PXb, PXc, PXn, PXm, Nat.reduceAdd, Int.reduceBEq, HL h, ct h.bt hN, Hp]
 subst hres; simp only [H4]
 cases hm : LP (⟨s0, s1, s2, s3, s4, s5, s6, s7, s8, s9, s10, s11, s12, s13, s14, s15, s16, s17, s18, s19, s20, s21, s22, s23, s24, s25, s26, s27⟩ : Inn) p == 0 <;> try rfl
 have hk : inR p s14.length = true := WR hm
 rw [DT hk h.bt, hk]
 rfl
theorem nT {N : Nat} {s0 s1 s2 s3 s4 s5 s6 s7 s8 s9 s10 s11 s12 s13 s15 s21 s22 s23 s25 s26 s27 : Int} {s18 s20 : Bool} {s14 s16 s17 s19 s24 : Rows} {p : Int} (h : Fit s14 s16 s17 s19 s24) (hN : 2097152 < N) : Mh N [.int s0, .int s1, .int s2, .int s3, .int s4, .int s5, .int s6, .int s7, .int s8, .int s9, .int s10, .int s11, .int s12, .int s13, .rows s14, .int s15, .rows s16, .rows s17, .bool s18, .rows s19, .bool s20, .int s21, .int s22, .int s23, .rows s24, .int s25, .int s26, .int s27, .int p] = some (AX (H4 (⟨s0, s1, s2, s3, s4, s5, s6, s7, s8, s9, s10, s11, s12, s13, s14, s15, s16, s17, s18, s19, s20, s21, s22, s23, s24, s25, s26, s27⟩ : Inn) p)) := by
 show L7 (std (JJ N) N) (xOf _) = _
 generalize hres : (some (AX (H4 (⟨s0, s1, s2, s3, s4, s5, s6, s7, s8, s9, s10, s11, s12, s13, s14, s15, s16, s17, s18, s19, s20, s21, s22, s23, s24, s25, s26, s27⟩ : Inn) p)) : Option (List PV)) = RR
 simp only [L7, VS, Va, std, xOf, PXb, PXc, PXn, PXm, Nat.reduceAdd, Int.reduceBEq, B0 h, gR h.bt hN]
 subst hres; simp only [H4]
 cases hm : LP (⟨s0, s1, s2, s3, s4, s5, s6, s7, s8, s9, s10, s11, s12, s13, s14, s15, s16, s17, s18, s19, s20, s21, s22, s23, s24, s25, s26, s27⟩ : Inn) p == 0 <;> try rfl
 rw [DT (WR hm) h.bt]
 rfl
def K4 (s : Inn) (p : Int) (hurt : Bool) : Inn × Int :=
  cond (!inR p s.batters.length) (s, 3) (cond (s.striker == 0 || s.other == 0) (s, 6) (cond (!(p == s.striker) && !(p == s.other)) (s, 4)
    (cond (hurt && ((Bt s.batters s.batters.length).length : Int) == 0) (s, 19)
      ({ s with striker := cond (p == s.striker) 0 s.striker, other := cond (p == s.striker) s.other 0, batters := J8 s.batters p (cond hurt 3 2), wickets := cond hurt s.wickets (IntKind.i64.wrap (s.wickets + 1)) }, 0))))
theorem kt {N : Nat} {s0 s1 s2 s3 s4 s5 s6 s7 s8 s9 s10 s11 s12 s13 s15 s21 s22 s23 s25 s26 s27 : Int} {s18 s20 : Bool} {s14 s16 s17 s19 s24 : Rows} {p : Int} {b : Bool} (h : Fit s14 s16 s17 s19 s24) (hN : 2097152 < N) : GV N [.int s0, .int s1, .int s2, .int s3, .int s4, .int s5, .int s6, .int s7, .int s8, .int s9, .int s10, .int s11, .int s12, .int s13, .rows s14, .int s15, .rows s16, .rows s17, .bool s18, .rows s19, .bool s20, .int s21, .int s22, .int s23, .rows s24, .int s25, .int s26, .int s27, .int p, .bool b] = some (AX (K4 (⟨s0, s1, s2, s3, s4, s5, s6, s7, s8, s9, s10, s11, s12, s13, s14, s15, s16, s17, s18, s19, s20, s21, s22, s23, s24, s25, s26, s27⟩ : Inn) p b)) := by
 show Jd (std (Ed N) N) (xOf _) = _
 generalize hres : (some (AX (K4 (⟨s0, s1, s2, s3, s4, s5, s6, s7, s8, s9, s10, s11, s12, s13, s14, s15, s16, s17, s18, s19, s20, s21, s22, s23, s24, s25, s26, s27⟩ : Inn) p b)) : Option (List PV)) = RR
 simp only [Jd, RU, SD, QK, std, xOf, PXb, PXc, PXn, PXm, Nat.reduceAdd, Int.reduceBEq, HL h, Hp, nM h.bt hN]
 subst hres; simp only [K4]
 cases hp : inR p s14.length <;> try rfl
 rw [DT hp h.bt]
 cases s12 == 0 <;> cases s13 == 0 <;> try rfl
 cases p == s12 <;> cases p == s13 <;> cases b <;> try rfl
 all_goals (simp only [PXb, PXc, PXn, PXm, Nat.reduceAdd, Int.reduceBEq]; cases ((Bt s14 s14.length).length : Int) == 0 <;> rfl)
theorem v4 (L : Rows) (p a b : Int) : J8 (J8 L p a) p b = J8 L p b := by
 unfold J8
 rw [List.set_set]
 rcases Nat.lt_or_ge (ix p) L.length with h | h
 ·have : A1 (L.set (ix p) (Br (A1 L (ix p)) 0 [.int a])) (ix p) = Br (A1 L (ix p)) 0 [.int a] := by
   unfold A1
   simp [List.getD_eq_getElem?_getD, List.getElem?_set, h]
  rw [this]
  simp only [Br, List.set_set]
 ·rw [List.set_eq_of_length_le h, List.set_eq_of_length_le h]
theorem oU {N : Nat} {s0 s1 s2 s3 s4 s5 s6 s7 s8 s9 s10 s11 s12 s13 s15 s21 s22 s23 s25 s26 s27 : Int} {s18 s20 : Bool} {s14 s16 s17 s19 s24 : Rows} {p : Int} {b : Bool} (h : Fit s14 s16 s17 s19 s24) (hN : 2097152 < N) : PG N [.int s0, .int s1, .int s2, .int s3, .int s4, .int s5, .int s6, .int s7, .int s8, .int s9, .int s10, .int s11, .int s12, .int s13, .rows s14, .int s15, .rows s16, .rows s17, .bool s18, .rows s19, .bool s20, .int s21, .int s22, .int s23, .rows s24, .int s25, .int s26, .int s27, .int p, .bool b] = some (AX (K4 (⟨s0, s1, s2, s3, s4, s5, s6, s7, s8, s9, s10, s11, s12, s13, s14, s15, s16, s17, s18, s19, s20, s21, s22, s23, s24, s25, s26, s27⟩ : Inn) p b)) := by
 show Ox (std (G1 N) N) (xOf _) = _
 generalize hres : (some (AX (K4 (⟨s0, s1, s2, s3, s4, s5, s6, s7, s8, s9, s10, s11, s12, s13, s14, s15, s16, s17, s18, s19, s20, s21, s22, s23, s24, s25, s26, s27⟩ : Inn) p b)) : Option (List PV)) = RR
 simp only [Ox, Wv, Xb, VI, std, xOf, PXb, PXc, PXn, PXm, Nat.reduceAdd, Int.reduceBEq, B0 h, PR, uN h.bt hN]
 subst hres; simp only [K4]
 rw [BEq.comm (a := s12) (b := p), BEq.comm (a := s13) (b := p)]
 cases hp : inR p s14.length <;> try rfl
 simp only [DT hp h.bt, PXb, PXc, PXn, PXm, Nat.reduceAdd, Int.reduceBEq]
 have e := v4 s14 p 3 2
 cases s12 == 0 <;> cases s13 == 0 <;> try rfl
 cases p == s12 <;> cases p == s13 <;> cases b <;> try rfl
 all_goals (simp only [PXb, PXc, PXn, PXm, Nat.reduceAdd, Int.reduceBEq]; first | rfl | (cases ((Bt s14 s14.length).length : Int) == 0 <;> first | rfl | (rw [← e]; rfl)) | (rw [← e]; rfl))
end Go.Px
end
section
namespace Go.Px
set_option maxRecDepth 100000
def btw (a b c : Int) : Bool := iLe b a && iLe a c
theorem Dy (N : Nat) (a b c : Int) : Ak N [.int a, .int b, .int c] = some [.bool (btw a b c)] := by
 show some [PV.bool (cond (iLe b a) (iLe a c) false)] = _
 rw [Qd]; rfl
theorem Mu (N : Nat) (a b c : Int) : CY N [.int a, .int b, .int c] = some [.bool (btw a b c)] := by
 show some [PV.bool (cond (iLe b a) (iLe a c) false)] = _
 rw [Qd]; rfl
theorem uw (N : Nat) (a b c : Int) : U1 N [.int a, .int b, .int c] = some [.bool (btw a b c)] := by
 show some [PV.bool (cond (iLe b a) (iLe a c) false)] = _
 rw [Qd]; rfl
theorem dp (N : Nat) (a b c : Int) : FU N [.int a, .int b, .int c] = some [.bool (btw a b c)] := by
 show some [PV.bool (cond (iLe b a) (iLe a c) false)] = _
 rw [Qd]; rfl
def Ga (x1 x2 x3 x4 x5 x6 x7 x9 x10 x11 x12 : Int) : Bool := btw x1 2 11 && btw x2 1 2 && btw x3 0 90 && btw x4 4 8 && btw x5 0 90 && btw x6 1 5 && btw x7 1 5 && btw x9 0 200 && btw x10 0 1000 && btw x11 0 9 && btw x12 0 11
theorem hZ (N : Nat) (x0 : ByteArray) (x1 x2 x3 x4 x5 x6 x7 x9 x10 x11 x12 : Int) (x8 : Bool) (x13 : Rows) :
   F0 N [.str x0, .int x1, .int x2, .int x3, .int x4, .int x5, .int x6, .int x7, .bool x8, .int x9, .int x10, .int x11, .int x12, .rows x13] = some [.bool (Ga x1 x2 x3 x4 x5 x6 x7 x9 x10 x11 x12)] := by
  show JN (std (LJ N) N) (xOf _) = _
  have e : ∀ ls, LJ N 86 [] ls = CY N ls := fun ls => rfl
  simp only [JN, std, xOf, e, Mu, PXb, PXc, PXn, AA, Ga]
def QM (s : ByteArray) (i : Nat) : Bool := !(iLe 65 (Mf s i) && iLe (Mf s i) 90) && ((i : Int) == 0 || ((!(Mf s i == 95) && !(Mf s i == 45)) && (iLt (Mf s i) 48 || iLt 57 (Mf s i))))
def LX (s : ByteArray) : Bool := !Ah (QM s) s.size 0 && (iLe 1 s.size && iLe s.size 16)
theorem xz (s : ByteArray) : (GU s).length = s.size := by
 simp only [GU, List.length_map, Array.length_toList]; rfl
theorem yo (s : ByteArray) (i : Nat) (h : i < s.size) : pvI (AG (GU s) i 0) = Mf s i := by
 unfold AG A1 AJ GU Mf
 simp only [List.getD_eq_getElem?_getD, List.getElem?_map]
 have : i < s.data.toList.length := by simpa using h
 rw [List.getElem?_eq_getElem this]
 simp [List.getElem?_eq_getElem this]
theorem oh (N : Nat) (s : ByteArray) (hN : s.size < N) (hs : s.size ≤ 1048576) : Lz N [.str s] = some [.bool (LX s)] := by
 show Q6 (std (ae N) N) (xOf _) = _
 simp only [Q6, std, xOf, xz, PXb, PXc, PXn, AA]
 refine AK (A7 (len := s.size) (QM s) [.bool false] ?_ ?_ N hN) ?_
 ·intro self
  simp only [PXb, PXc, PXn, AA, Aj]
 ·intro i self hi
  simp only [PXb, PXc, PXn, AA, Int.toNat_natCast, yo s i hi, AN (show i ≤ 1099511627776 by omega), Ae hi, AP hi, QM]
 ·unfold LX
  cases Ah (QM s) s.size 0 <;> rfl
theorem wX (bs : ByteArray) (i : Nat) (r : List UInt8) : (ByteArray.toList.loop bs i r).length = r.length + (bs.size - i) := by
 induction i, r using ByteArray.toList.loop.induct (bs := bs) with
 | case1 i r h ih => unfold ByteArray.toList.loop; rw [if_pos h, ih]; simp; omega
 | case2 i r h => unfold ByteArray.toList.loop; rw [if_neg h]; simp; omega
theorem jM (bs : ByteArray) : bs.toList.length = bs.size := by
 unfold ByteArray.toList; rw [wX]; simp
theorem rW (s : ByteArray) : (s.toList == (⟨#[]⟩ : ByteArray).toList) = !iLe 1 (s.size : Int) := by
 have h := jM s
 have h0 := jM (⟨#[]⟩ : ByteArray)
 rw [Bool.eq_iff_iff]
 simp only [beq_iff_eq, iLe, Bool.not_eq_true', decide_eq_false_iff_not]
 constructor
 ·intro e; rw [e, h0] at h
  have : (⟨#[]⟩ : ByteArray).size = 0 := rfl
  omega
 ·intro e
  have e1 : s.toList = [] := List.eq_nil_of_length_eq_zero (by omega)
  have e2 : (⟨#[]⟩ : ByteArray).toList = [] := List.eq_nil_of_length_eq_zero h0
  rw [e1, e2]
theorem rK (N : Nat) (s : ByteArray) (hN : s.size < N) (hs : s.size ≤ 1048576) : Nw N [.str s] = some [.bool (LX s)] := by
 show S0 (std (dZ N) N) (xOf _) = _
 simp only [S0, std, xOf, PXb, PXc, PXn, AA, rW]
 have e : iLe 1 (s.size : Int) = false ∨ iLe 1 (s.size : Int) = true := by cases iLe 1 (s.size : Int) <;> simp
 have e2 : iLt 16 (s.size : Int) = !iLe (s.size : Int) 16 := by unfold iLt iLe; rw [Bool.eq_iff_iff]; simp
 rw [e2]
 cases h : iLe 1 (s.size : Int) && iLe (s.size : Int) 16 with
 | false =>
  have : (!iLe 1 (s.size : Int) || !iLe (s.size : Int) 16) = true := by rw [← Bool.not_and, h]; rfl
  simp only [this, cond_true, LX, h, Bool.and_false]
 | true =>
  have : (!iLe 1 (s.size : Int) || !iLe (s.size : Int) 16) = false := by rw [← Bool.not_and, h]; rfl
  simp only [this, cond_false, LX, h, Bool.and_true]
  refine AK (A7 (len := s.size) (QM s) [.bool false] ?_ ?_ N hN) ?_
  ·intro self
   simp only [PXb, PXc, PXn, AA, Aj]
  ·intro i self hi
   simp only [PXb, PXc, AA, Int.toNat_natCast, AN (show i ≤ 1099511627776 by omega), Ae hi, AP hi, QM]
   cases (iLe 65 (Mf s i) && iLe (Mf s i) 90) <;> rfl
  ·cases Ah (QM s) s.size 0 <;> rfl
end Go.Px
end
section
namespace Go.Px
set_option maxRecDepth 100000
theorem sW {i len : Nat} (h : i < len) (hl : len ≤ 1099511627776) : (!iLt 0 (i : Int) || iIn (IntKind.i64.wrap ((i : Int) - 1)) (len : Int)) = true := by
 rw [EZ (by omega) (by omega)]
 simp only [iLt, iIn, Bool.or_eq_true, Bool.not_eq_true', decide_eq_false_iff_not, decide_eq_true_eq]
 omega
def um (L : Rows) (ov : Int) (i : Nat) : Bool := (iLt (atI L i 0) 1 || iLt (atI L i 1) (atI L i 0) || iLt ov (atI L i 1)) || !btw (atI L i 2) 0 11
def pD (L : Rows) (i : Nat) : Bool := iLt 0 (i : Int) && iLe (atI L i 0) (pvI (AG L (IntKind.i64.wrap ((i : Int) - 1)).toNat 1))
def j6 (L : Rows) (ov : Int) (i : Nat) : Option (List PV) := cond (um L ov i) (some [.int 2]) (cond (pD L i) (some [.int 8]) none)
def vz : Option (List PV) → Int
 | none => 0
 | some r => pvI (AJ r 0)
def kf (L : Rows) (ov : Int) : Int := cond (iLt 8 (L.length : Int)) 9 (vz (B8 (j6 L ov) L.length 0))
theorem Zc (o : Option (List PV)) : cond (pvI (AJ (Th o) 0) == ((0 : Nat) : Int)) (some [PV.int (pvI (AJ (Th o) 1))]) (some [PV.int 0]) = some [PV.int (vz o)] := by
 cases o <;> rfl
theorem jh (N : Nat) (x0 : ByteArray) (x1 x2 x3 x4 x5 x6 x7 x9 x10 x11 x12 : Int) (x8 : Bool) (L : Rows) (hN : 2097152 < N) :
   HY N [.str x0, .int x1, .int x2, .int x3, .int x4, .int x5, .int x6, .int x7, .bool x8, .int x9, .int x10, .int x11, .int x12, .rows L] = some [.int (kf L x3)] := by
  show LB (std (Mj N) N) (xOf _) = _
  have e : ∀ ls, Mj N 86 [] ls = CY N ls := fun ls => rfl
  simp only [LB, std, xOf, e, Mu, PXb, PXc, PXn, AA, kf]
  cases h8 : iLt 8 (L.length : Int) with
  | true => rfl
  | false =>
    have hl : L.length ≤ 8 := by simp [iLt] at h8; omega
    simp only [cond_false]
    refine AK (Cc (len := L.length) (j6 L x3) ?_ ?_ L.length 0 N (by omega) (by omega)) ?_
    · intro self
      simp only [PXb, PXc, PXn, AA, Aj]
    · intro i self hi
      simp only [PXb, PXc, PXn, AA, Int.toNat_natCast, AN (show i ≤ 1099511627776 by omega), Ae hi, AP hi, Mu, e, sW hi (by omega)]
      simp only [j6, um, pD, atI]
      cases (iLt (pvI (AG L i 0)) 1 || iLt (pvI (AG L i 1)) (pvI (AG L i 0)) || iLt x3 (pvI (AG L i 1)) || !btw (pvI (AG L i 2)) 0 11) <;>
      cases (iLt 0 (i : Int) && iLe (pvI (AG L i 0)) (pvI (AG L (IntKind.i64.wrap ((i : Int) - 1)).toNat 1))) <;> rfl
    · exact Zc _
def Dx (x0 : ByteArray) (x1 x2 x3 x4 x5 x6 x7 x9 x10 x11 x12 : Int) (L : Rows) : Int :=
  cond (!LX x0) 5 (cond (!Ga x1 x2 x3 x4 x5 x6 x7 x9 x10 x11 x12) 2
    (cond ((!(x10 == 0) && x2 == 1) || ((!(x5 == 0) || iLt 0 (L.length : Int)) && x3 == 0)) 1
      (cond (!(x5 == 0) && iLt (IntKind.i64.wrap (x5 * x1)) x3) 13 (kf L x3))))
theorem YM (N : Nat) (x0 : ByteArray) (x1 x2 x3 x4 x5 x6 x7 x9 x10 x11 x12 : Int) (x8 : Bool) (L : Rows) (hN : 2097152 < N) (hs : x0.size ≤ 1048576) :
   AS N [.str x0, .int x1, .int x2, .int x3, .int x4, .int x5, .int x6, .int x7, .bool x8, .int x9, .int x10, .int x11, .int x12, .rows L] = some [.int (Dx x0 x1 x2 x3 x4 x5 x6 x7 x9 x10 x11 x12 L)] := by
  show Mb (std (F7 N) N) (xOf _) = _
  have e : ∀ ls, F7 N 53 [] ls = Lz N ls := fun ls => rfl
  have e2 : ∀ ls, F7 N 54 [] ls = F0 N ls := fun ls => rfl
  have e3 : ∀ ls, F7 N 55 [] ls = HY N ls := fun ls => rfl
  simp only [Mb, std, xOf, e, e2, e3, oh N x0 (by omega) hs, hZ, jh N _ _ _ _ _ _ _ _ _ _ _ _ _ _ hN, PXb, PXc, AA, Dx]
  cases LX x0 <;> cases Ga x1 x2 x3 x4 x5 x6 x7 x9 x10 x11 x12 <;> try rfl
  simp only [PXb, PXc, AA, Bool.not_true]
  cases (!(x10 == 0) && x2 == 1) <;> cases ((!(x5 == 0) || iLt 0 (L.length : Int)) && x3 == 0) <;> try rfl
  cases (!(x5 == 0) && iLt (IntKind.i64.wrap (x5 * x1)) x3) <;> rfl
theorem cT (N : Nat) (x0 : ByteArray) (x1 x2 x3 x4 x5 x6 x7 x9 x10 x11 x12 : Int) (x8 : Bool) (L : Rows) (hN : 2097152 < N) (hs : x0.size ≤ 1048576) :
   AY N [.str x0, .int x1, .int x2, .int x3, .int x4, .int x5, .int x6, .int x7, .bool x8, .int x9, .int x10, .int x11, .int x12, .rows L] = some [.int (Dx x0 x1 x2 x3 x4 x5 x6 x7 x9 x10 x11 x12 L)] := by
  show Qp (std (MT N) N) (xOf _) = _
  have e : ∀ ls, MT N 80 [] ls = Nw N ls := fun ls => rfl
  have e2 : ∀ ls, MT N 81 [] ls = U1 N ls := fun ls => rfl
  simp only [Qp, std, xOf, e, e2, rK N x0 (by omega) hs, uw, PXb, PXc, PXn, AA]
  simp only [← Bool.not_and, Dx]
  rw [show (btw x1 2 11 && btw x2 1 2 && btw x3 0 90 && btw x4 4 8 && btw x5 0 90 && btw x6 1 5 && btw x7 1 5 && btw x9 0 200 && btw x10 0 1000 && btw x11 0 9 && btw x12 0 11) = Ga x1 x2 x3 x4 x5 x6 x7 x9 x10 x11 x12 from rfl]
  rw [Bool.and_comm (x3 == 0)]
  cases LX x0 <;> cases Ga x1 x2 x3 x4 x5 x6 x7 x9 x10 x11 x12 <;> try rfl
  cases (!(x10 == 0) && x2 == 1) || ((!(x5 == 0) || iLt 0 (L.length : Int)) && x3 == 0) <;> try rfl
  cases (!(x5 == 0) && iLt (IntKind.i64.wrap (x5 * x1)) x3) <;> try rfl
  simp only [Bool.not_true, cond_false, kf]
  cases h8 : iLt 8 (L.length : Int) with
  | true => rfl
  | false =>
    have hl : L.length ≤ 8 := by simp [iLt] at h8; omega
    simp only [cond_false]
    refine AK (Cc (len := L.length) (j6 L x3) ?_ ?_ L.length 0 N (by omega) (by omega)) ?_
    · intro self
      simp only [PXb, PXc, PXn, AA, Aj]
    · intro i self hi
      simp only [PXb, PXc, PXn, AA, Int.toNat_natCast, AN (show i ≤ 1099511627776 by omega), Ae hi, AP hi, sW hi (by omega)]
      simp only [j6, um, pD, atI]
      cases (iLt (pvI (AG L i 0)) 1 || iLt (pvI (AG L i 1)) (pvI (AG L i 0)) || iLt x3 (pvI (AG L i 1)) || !btw (pvI (AG L i 2)) 0 11) <;>
      cases (iLt 0 (i : Int) && iLe (pvI (AG L i 0)) (pvI (AG L (IntKind.i64.wrap ((i : Int) - 1)).toNat 1))) <;> rfl
    · exact Zc _
end Go.Px
end
section
namespace Go.Px
set_option maxRecDepth 100000
theorem bG (N : Nat) (L : Rows) (v : Int) (hN : L.length < N) (hl : L.length ≤ 2097152) : D1 N [.rows L, .int v] = some [.int (SO (fun j => v == atI L j 0) L.length)] := by
 show F2 (std (N7 N) N) (xOf _) = _
 simp only [F2, std, xOf, PXb, PXc, PXn, AA]
 refine AK (Cc (len := L.length) (Gg fun j => v == atI L j 0) ?_ ?_ L.length 0 N (by omega) (by omega)) ?_
 ·intro self
  simp only [PXb, PXc, PXn, AA, Aj]
 ·intro i self hi
  simp only [PXb, PXc, PXn, AA, AN (show i ≤ 1099511627776 by omega), Ae hi, AP hi, Gg, A2]
  cases v == atI L i 0 <;> rfl
 ·unfold SO
  cases B8 (Gg fun j => v == atI L j 0) L.length 0 <;> rfl
def G4 (L : Rows) (k : Nat) (v : Int) : Bool := Ah (fun j => v == atI L j 0) k 0
theorem LW (N : Nat) (L : Rows) (v : Int) (hN : L.length < N) (hl : L.length ≤ 2097152) : Am N [.rows L, .int v] = some [.bool (G4 L L.length v)] := by
 show D9 (std (Fl N) N) (xOf _) = _
 have e : ∀ ls, Fl N 121 [] ls = D1 N ls := fun ls => rfl
 simp only [D9, std, xOf, PXb, PXc, PXn, AA, e, bG N L v hN hl, Kh, G4]
theorem xA (L : Rows) (i : Nat) (v : Int) (h : i ≤ L.length) : G4 (L.take i) (L.take i).length v = G4 L i v := by
 rw [List.length_take, Nat.min_eq_left h]
 exact j5 i 0 (fun j _ hj => by rw [qG (by omega)])
def Ke (L : Rows) (n : Int) (i : Nat) : Bool := !btw (atI L i 0) 1 n || G4 L i (atI L i 0)
def GE (L : Rows) (n : Int) : Bool := !Ah (Ke L n) L.length 0
theorem Oe (N : Nat) (L : Rows) (n : Int) (hN : L.length < N) (hl : L.length ≤ 2097152) : Da N [.rows L, .int n] = some [.bool (GE L n)] := by
 show Fc (std (D8 N) N) (xOf _) = _
 have e : ∀ ls, D8 N 89 [] ls = Ak N ls := fun ls => rfl
 have e2 : ∀ ls, D8 N 105 [] ls = Am N ls := fun ls => rfl
 simp only [Fc, std, xOf, PXb, PXc, PXn, AA]
 refine AK (A7 (len := L.length) (Ke L n) [.bool false] ?_ ?_ N hN) ?_
 ·intro self
  simp only [PXb, PXc, PXn, AA, Aj]
 ·intro i self hi
  have h1 : (L.take i).length ≤ L.length := List.length_take_le' i L
  simp only [PXb, PXc, PXn, AA, AN (show i ≤ 1099511627776 by omega), Ae hi, AP hi, e, e2, Dy, xG (Nat.le_of_lt hi), Int.toNat_zero, List.drop_zero, LW N (L.take i) _ (by omega) (by omega), xA L i _ (by omega), A2, Ke]
  cases btw (atI L i 0) 1 n <;> cases G4 L i (atI L i 0) <;> rfl
 ·unfold GE
  cases Ah (Ke L n) L.length 0 <;> rfl
theorem kn (N : Nat) (L : Rows) (n : Int) (hN : L.length < N) (hl : L.length ≤ 2097152) : RZ N [.rows L, .int n] = some [.bool (GE L n)] := by
 show V9 (std (XY N) N) (xOf _) = _
 have e : ∀ ls, XY N 185 [] ls = FU N ls := fun ls => rfl
 simp only [V9, std, xOf, PXb, PXc, PXn, AA]
 refine AK (A7 (len := L.length) (Ke L n) [.bool false] ?_ ?_ N hN) ?_
 ·intro self
  simp only [PXb, PXc, PXn, AA, Aj]
 ·intro i self hi
  have h1 : (L.take i).length = i := by rw [List.length_take]; omega
  simp only [PXb, PXc, PXn, AA, AN (show i ≤ 1099511627776 by omega), Ae hi, AP hi, e, dp, xG (Nat.le_of_lt hi), Int.toNat_zero, List.drop_zero, A2, Ke, h1]
  cases btw (atI L i 0) 1 n with
  | false => rfl
  | true =>
   simp only [PXb, PXc, PXn, AA]
   refine AK (Zv (len := i) (fun j => [.int (j : Int)]) (fun j => atI L i 0 == atI L j 0) [.int 0, .bool false] [.int 1, .int (i : Int)] ?_ ?_ N (by omega)) ?_
   ·intro self
    simp only [PXb, PXc, PXn, AA, Aj]
   ·intro j self hj
    simp only [PXb, PXc, PXn, AA, AN (show j ≤ 1099511627776 by omega), Ae hj, AP hj, qG hj]
    rfl
   ·unfold G4
    cases Ah (fun j => atI L i 0 == atI L j 0) i 0 <;> rfl
 ·unfold GE
  cases Ah (Ke L n) L.length 0 <;> rfl
theorem et (N : Nat) (v : Int) : Cx N [.int v] = some [.bool (!(v == 0))] := rfl
def lsI (L14 L16 L17 L19 L24 : Rows) (b18 b20 : Bool) (x0 x1 x2 x3 x4 x5 x6 x7 x8 x9 x10 x11 x12 x13 x15 x21 x22 x23 x25 x26 x27 : Int) : List PV :=
 [.int x0, .int x1, .int x2, .int x3, .int x4, .int x5, .int x6, .int x7, .int x8, .int x9, .int x10, .int x11, .int x12, .int x13, .rows L14, .int x15, .rows L16, .rows L17, .bool b18, .rows L19, .bool b20, .int x21, .int x22, .int x23, .rows L24, .int x25, .int x26, .int x27]
section
variable (N : Nat) (L14 L16 L17 L19 L24 : Rows) (b18 b20 : Bool) (x0 x1 x2 x3 x4 x5 x6 x7 x8 x9 x10 x11 x12 x13 x15 x21 x22 x23 x25 x26 x27 : Int)
theorem jK (hN : L14.length < N) (hl : L14.length ≤ 2097152) : Bw N (lsI L14 L16 L17 L19 L24 b18 b20 x0 x1 x2 x3 x4 x5 x6 x7 x8 x9 x10 x11 x12 x13 x15 x21 x22 x23 x25 x26 x27) = some [.bool (CU L14)] := by
 show E1 (std (E5 N) N) (xOf (lsI ..)) = _
 have e : ∀ ls, E5 N 179 [] ls = Cx N ls := fun ls => rfl
 simp only [E1, std, xOf, lsI, PXb, PXc, PXn, AA]
 rw [show CU L14 = iLe 0 (SO (fun i => !(atI L14 i 0 == 0)) L14.length) from (Kh _ _).symm]
 rw [Option.bind_assoc]
 refine AK (Cc (len := L14.length) (Gg fun i => !(atI L14 i 0 == 0)) ?_ ?_ L14.length 0 N (by omega) (by omega)) ?_
 ·intro self
  simp only [PXb, PXc, PXn, AA, Aj]
 ·intro i self hi
  simp only [PXb, PXc, PXn, AA, AN (show i ≤ 1099511627776 by omega), Ae hi, AP hi, Gg, A2, e, et]
  cases atI L14 i 0 == 0 <;> rfl
 ·unfold SO
  cases B8 (Gg fun i => !(atI L14 i 0 == 0)) L14.length 0 <;> rfl
theorem cm (hN : L14.length < N) (hl : L14.length ≤ 2097152) : BX N (lsI L14 L16 L17 L19 L24 b18 b20 x0 x1 x2 x3 x4 x5 x6 x7 x8 x9 x10 x11 x12 x13 x15 x21 x22 x23 x25 x26 x27) = some [.bool (CU L14)] := by
 show JA (std (R6 N) N) (xOf (lsI ..)) = _
 simp only [JA, std, xOf, lsI, PXb, PXc, PXn, AA]
 refine AK (A7 (len := L14.length) (fun i => !(atI L14 i 0 == 0)) [.bool true] ?_ ?_ N hN) ?_
 ·intro self
  simp only [PXb, PXc, PXn, AA, Aj]
 ·intro i self hi
  simp only [PXb, PXc, PXn, AA, AN (show i ≤ 1099511627776 by omega), Ae hi, AP hi, A2]
 ·unfold CU
  cases Ah (fun i => !(atI L14 i 0 == 0)) L14.length 0 <;> rfl
theorem iI (hN : L14.length < N) (hl : L14.length ≤ 2097152) : BH N (lsI L14 L16 L17 L19 L24 b18 b20 x0 x1 x2 x3 x4 x5 x6 x7 x8 x9 x10 x11 x12 x13 x15 x21 x22 x23 x25 x26 x27) = some [.bool (FA L14 x12 x13)] := by
 show EC (std (EO N) N) (xOf (lsI ..)) = _
 have e : ∀ ls, EO N 156 [] ls = Bw N ls := fun ls => rfl
 have := jK N L14 L16 L17 L19 L24 b18 b20 x0 x1 x2 x3 x4 x5 x6 x7 x8 x9 x10 x11 x12 x13 x15 x21 x22 x23 x25 x26 x27 hN hl
 simp only [lsI] at this
 simp only [EC, std, xOf, lsI, PXb, PXc, PXn, AA, e, this, FA]
theorem nL (hN : L14.length < N) (hl : L14.length ≤ 2097152) : CE N (lsI L14 L16 L17 L19 L24 b18 b20 x0 x1 x2 x3 x4 x5 x6 x7 x8 x9 x10 x11 x12 x13 x15 x21 x22 x23 x25 x26 x27) = some [.bool (FA L14 x12 x13)] := by
 show Hg (std (HD N) N) (xOf (lsI ..)) = _
 have e : ∀ ls, HD N 188 [] ls = BX N ls := fun ls => rfl
 have := cm N L14 L16 L17 L19 L24 b18 b20 x0 x1 x2 x3 x4 x5 x6 x7 x8 x9 x10 x11 x12 x13 x15 x21 x22 x23 x25 x26 x27 hN hl
 simp only [lsI] at this
 simp only [Hg, std, xOf, lsI, PXb, PXc, PXn, AA, e, this, FA]
theorem lR (hN : L14.length < N) (hl : L14.length ≤ 2097152) : Cs N (lsI L14 L16 L17 L19 L24 b18 b20 x0 x1 x2 x3 x4 x5 x6 x7 x8 x9 x10 x11 x12 x13 x15 x21 x22 x23 x25 x26 x27) = some [.rows (Bt L14 L14.length)] := by
 show Fp (std (PW N) N) (xOf (lsI ..)) = _
 simp only [Fp, std, xOf, lsI, PXb, PXc, PXn, AA]
 refine AK (Dg (len := L14.length) (fun i => [.rows (Bt L14 i), .int (i : Int)]) [.rows (Bt L14 L14.length)] ?_ ?_ N hN) rfl
 ·intro self
  simp only [PXb, PXc, PXn, AA, Aj]
 ·intro i self hi
  have h2 : (Bt L14 i ++ [[PV.int ((i : Int) + 1)]]).length ≤ 4194304 := by have := UU L14 i; simp; omega
  simp only [PXb, PXc, PXn, AA, AN (show i ≤ 1099511627776 by omega), Ae hi, AP hi, A2, Bt, Gx h2 (show 8 ≤ 4096 by omega)]
  cases (atI L14 i 0 == 0 || atI L14 i 0 == 3) <;> rfl
theorem rn (hN : L14.length < N) (hl : L14.length ≤ 2097152) : Eh N (lsI L14 L16 L17 L19 L24 b18 b20 x0 x1 x2 x3 x4 x5 x6 x7 x8 x9 x10 x11 x12 x13 x15 x21 x22 x23 x25 x26 x27) = some [.rows (Bt L14 L14.length)] := by
 show LA (std (U6 N) N) (xOf (lsI ..)) = _
 simp only [LA, std, xOf, lsI, PXb, PXc, PXn, AA]
 refine AK (Dg (len := L14.length) (fun i => [.rows (Bt L14 i), .int (i : Int)]) [.rows (Bt L14 L14.length)] ?_ ?_ N hN) rfl
 ·intro self
  simp only [PXb, PXc, PXn, AA, Aj]
 ·intro i self hi
  have h2 : (Bt L14 i ++ [[PV.int ((i : Int) + 1)]]).length ≤ 4194304 := by have := UU L14 i; simp; omega
  simp only [PXb, PXc, PXn, AA, AN (show i ≤ 1099511627776 by omega), Ae hi, AP hi, A2, Bt, Gx h2 (show 8 ≤ 4096 by omega)]
  cases (atI L14 i 0 == 0 || atI L14 i 0 == 3) <;> rfl
end
theorem Ze (N : Nat) (v : Int) : DX N [.int v] = some [.bool (!btw v 0 1000000000)] := by
 show Fe (std (HZ N) N) (xOf _) = _
 have e : ∀ ls, HZ N 89 [] ls = Ak N ls := fun ls => rfl
 simp only [Fe, std, xOf, PXb, PXc, PXn, AA, e, Dy]
end Go.Px
end
section
namespace Go.Px
set_option maxRecDepth 100000
def pIs (L : Rows) (v : Int) (i : Nat) : Bool := atI L i 0 == v
def Yx (s n : Int) (i : Nat) : Bool := s == (i : Int) + 1 || n == (i : Int) + 1
def TR (L : Rows) (s n : Int) (i : Nat) : Bool := iLt 3 (atI L i 0) || (pIs L 1 i && !Yx s n i)
def WX (L : Rows) (s n : Int) (i : Nat) : Bool := iLt 3 (atI L i 0) || !(pIs L 1 i == Yx s n i)
def iX (L : Rows) : Int := CH (pIs L 2) L.length
def ins (L : Rows) : Int := CH (pIs L 1) L.length
def two (s n : Int) : Int := cond (!(n == 0)) (IntKind.i64.wrap (cond (!(s == 0)) (IntKind.i64.wrap (0 + 1)) 0 + 1)) (cond (!(s == 0)) (IntKind.i64.wrap (0 + 1)) 0)
def oL (L : Rows) (s n wk k : Int) : Bool :=
 !Ah (TR L s n) L.length 0 && ((btw s 0 k && btw n 0 k) && (!(s == n && !(s == 0)) && ((two s n == ins L && (!CU L || iLt 0 (two s n))) && iX L == wk)))
def WN (L : Rows) (s n wk : Int) : Bool :=
 !Ah (WX L s n) L.length 0 && (!((CU L && iLt (ins L) 1) || (!(s == 0) && s == n)) && wk == iX L)
def td (L : Rows) : Nat → Bool
 | 0 => false
 | i + 1 => td L i || !(atI L i 0 == 0)
theorem sG (L : Rows) : ∀ i, td L i = Ah (fun j => !(atI L j 0 == 0)) i 0
 | 0 => rfl
 | i + 1 => by rw [eG, Nat.zero_add, ← sG L i]; rfl
section
variable (N : Nat) (L14 L16 L17 L19 L24 : Rows) (b18 b20 : Bool) (x0 x1 x2 x3 x4 x5 x6 x7 x8 x9 x10 x11 x12 x13 x15 x21 x22 x23 x25 x26 x27 : Int)
theorem cO (k : Int) (hN : L14.length < N) (hl : L14.length ≤ 2097152) : EU N (lsI L14 L16 L17 L19 L24 b18 b20 x0 x1 x2 x3 x4 x5 x6 x7 x8 x9 x10 x11 x12 x13 x15 x21 x22 x23 x25 x26 x27 ++ [.int k]) = some [.bool (oL L14 x12 x13 x4 k)] := by
  simp only [lsI, List.cons_append, List.nil_append]
  show Gp (std (JF N) N) (xOf _) = _
  have e : ∀ ls, JF N 89 [] ls = Ak N ls := fun ls => rfl
  simp only [Gp, std, xOf, lsI, PXb, PXc, PXn, AA]
  refine AK (Zv (len := L14.length) (fun i => [.int (CH (pIs L14 2) i), .int (CH (pIs L14 1) i), .bool (td L14 i), .int (i : Int)])
    (TR L14 x12 x13) [.int 0, .bool false] [.int 1, .int (iX L14), .int (ins L14), .bool (CU L14)] ?_ ?_ N hN) ?_
  · intro self
    simp only [PXb, PXc, PXn, AA, Aj, sG]
    rfl
  · intro i self hi
    simp only [PXb, PXc, AA, AN (show i ≤ 1099511627776 by omega), Ae hi, AP hi, A2, Zm (pIs L14 2) (show i ≤ 1099511627776 by omega), Zm (pIs L14 1) (show i ≤ 1099511627776 by omega)]
    unfold TR pIs Yx
    simp only [CH, td]
    cases h3 : iLt 3 (atI L14 i 0) with
    | true => rfl
    | false =>
      cases h1 : atI L14 i 0 == 1 with
      | true =>
        rw [ll h1]
        cases x12 == (i : Int) + 1 <;> cases x13 == (i : Int) + 1 <;> rfl
      | false => cases h2 : atI L14 i 0 == 2 <;> rfl
  · unfold oL
    simp only [e, Dy]
    cases Ah (TR L14 x12 x13) L14.length 0 with
    | true => rfl
    | false =>
      simp only [PXb, PXc, PXn, AA]
      unfold two
      cases btw x12 0 k <;> cases btw x13 0 k <;> try rfl
      cases x12 == 0 <;> cases x13 == 0 <;> cases x12 == x13 <;> try rfl
theorem lS (hN : L14.length < N) (hl : L14.length ≤ 2097152) : Iq N (lsI L14 L16 L17 L19 L24 b18 b20 x0 x1 x2 x3 x4 x5 x6 x7 x8 x9 x10 x11 x12 x13 x15 x21 x22 x23 x25 x26 x27) = some [.bool (WN L14 x12 x13 x4)] := by
  show MV (std (Ov N) N) (xOf (lsI ..)) = _
  have e : ∀ ls, Ov N 188 [] ls = BX N ls := fun ls => rfl
  have h70 := cm N L14 L16 L17 L19 L24 b18 b20 x0 x1 x2 x3 x4 x5 x6 x7 x8 x9 x10 x11 x12 x13 x15 x21 x22 x23 x25 x26 x27 hN hl
  simp only [lsI] at h70
  simp only [MV, std, xOf, lsI, PXb, PXc, PXn, AA, e, h70]
  refine AK (Zv (len := L14.length) (fun i => [.int (CH (pIs L14 2) i), .int (CH (pIs L14 1) i), .int (i : Int)])
    (WX L14 x12 x13) [.int 0, .bool false] [.int 1, .int (iX L14), .int (ins L14)] ?_ ?_ N hN) ?_
  · intro self
    simp only [PXb, PXc, PXn, AA, Aj]
    rfl
  · intro i self hi
    simp only [PXb, PXc, AA, AN (show i ≤ 1099511627776 by omega), Ae hi, AP hi, A2, Zm (pIs L14 2) (show i ≤ 1099511627776 by omega), Zm (pIs L14 1) (show i ≤ 1099511627776 by omega)]
    unfold WX pIs Yx
    simp only [CH]
    cases h3 : iLt 3 (atI L14 i 0) with
    | true => rfl
    | false =>
      cases h1 : atI L14 i 0 == 1 with
      | true =>
        rw [ll h1]
        cases x12 == (i : Int) + 1 <;> cases x13 == (i : Int) + 1 <;> rfl
      | false => cases h2 : atI L14 i 0 == 2 <;> cases x12 == (i : Int) + 1 <;> cases x13 == (i : Int) + 1 <;> rfl
  · unfold WN
    cases Ah (WX L14 x12 x13) L14.length 0 with
    | true => rfl
    | false =>
      simp only [PXb, PXc, PXn, AA]
      cases CU L14 <;> cases h : iLt (ins L14) 1 <;> cases x12 == 0 <;> cases x12 == x13 <;> first | rfl | (simp [Th, AJ, h])
end
end Go.Px
end
section
namespace Go.Px
set_option maxRecDepth 100000
theorem xg (s n : Int) : two s n = cond (!(s == 0)) 1 0 + cond (!(n == 0)) 1 0 := by
 unfold two
 cases s == 0 <;> cases n == 0 <;> rfl
theorem xv {s n : Int} {len : Nat} (h1 : 0 ≤ s ∧ s ≤ (len : Int)) (h2 : 0 ≤ n ∧ n ≤ (len : Int)) (hd : (s == n && !(s == 0)) = false) : two s n = CH (Yx s n) len := by
 have hs : iLe s (len : Int) = true := by simp only [iLe, decide_eq_true_eq]; omega
 have hn : iLe n (len : Int) = true := by simp only [iLe, decide_eq_true_eq]; omega
 unfold Yx
 rw [vT (p := fun i => s == (i : Int) + 1) (q := fun i => n == (i : Int) + 1) len (fun j _ hp => by
  have e1 : s = (j : Int) + 1 := by simpa using hp
  show (n == (j : Int) + 1) = false
  rw [beq_eq_false_iff_ne]
  intro e2
  have e3 : (s == n) = true := by rw [beq_iff_eq]; omega
  have e4 : (s == 0) = false := by rw [beq_eq_false_iff_ne]; omega
  rw [e3, e4] at hd; cases hd), oo s len h1.1, oo n len h2.1, hs, hn, Bool.and_true, Bool.and_true, xg]
theorem xR (x : Int) : iLt 0 x = !iLt x 1 := by
 unfold iLt
 rw [Bool.eq_iff_iff]
 simp only [decide_eq_true_eq, Bool.not_eq_true', decide_eq_false_iff_not]
 omega
theorem wm {L : Rows} {s n : Int} (h1 : 0 ≤ s ∧ s ≤ (L.length : Int)) (h2 : 0 ≤ n ∧ n ≤ (L.length : Int)) (hd : (s == n && !(s == 0)) = false) :
    (!Ah (TR L s n) L.length 0 && two s n == ins L) = !Ah (WX L s n) L.length 0 := by
  have h2c := xv h1 h2 hd
  rw [Bool.eq_iff_iff]
  simp only [Bool.and_eq_true, Bool.not_eq_true', GX, beq_iff_eq]
  constructor
  · intro ⟨ha, hb⟩ j _ hj
    have hm : ∀ j, j < L.length → pIs L 1 j = true → Yx s n j = true := fun j hj hp => by
      have := ha j (Nat.zero_le _) (by omega)
      unfold TR at this
      rw [hp] at this
      simp only [Bool.or_eq_false_iff, Bool.true_and, Bool.not_eq_false'] at this
      exact this.2
    have he := u6 L.length hm (by rw [← h2c, hb]; rfl) j (by omega)
    have := ha j (Nat.zero_le _) hj
    unfold TR at this
    unfold WX
    rw [Bool.or_eq_false_iff] at this ⊢
    exact ⟨this.1, by rw [he]; simp⟩
  · intro ha
    have hm : ∀ j, j < L.length → pIs L 1 j = Yx s n j := fun j hj => by
      have := ha j (Nat.zero_le _) (by omega)
      unfold WX at this
      rw [Bool.or_eq_false_iff] at this
      simpa using this.2
    refine ⟨fun j h0 hj => ?_, ?_⟩
    · have := ha j h0 hj
      unfold WX at this
      unfold TR
      rw [Bool.or_eq_false_iff] at this ⊢
      refine ⟨this.1, ?_⟩
      rw [hm j (by omega)]
      cases Yx s n j <;> rfl
    · rw [h2c]
      exact (nE L.length hm).symm
theorem yL (L : Rows) (s n wk k : Int) (hk : (L.length : Int) = k) : oL L s n wk k = (btw s 0 k && btw n 0 k && WN L s n wk) := by
 subst hk
 unfold oL WN
 cases hs : btw s 0 (L.length : Int) with
 | false => simp only [Bool.false_and, Bool.and_false]
 | true =>
  cases hn : btw n 0 (L.length : Int) with
  | false => simp only [Bool.false_and, Bool.and_false]
  | true =>
   have h1 : 0 ≤ s ∧ s ≤ (L.length : Int) := by simpa [btw, iLe] using hs
   have h2 : 0 ≤ n ∧ n ≤ (L.length : Int) := by simpa [btw, iLe] using hn
   simp only [Bool.true_and]
   cases hd : (s == n && !(s == 0)) with
   | true =>
    have : (!(s == 0) && s == n) = true := by rw [Bool.and_comm]; exact hd
    rw [this]
    simp only [Bool.or_true, Bool.not_true, Bool.false_and, Bool.and_false]
   | false =>
    have : (!(s == 0) && s == n) = false := by rw [Bool.and_comm]; exact hd
    rw [this, ← wm h1 h2 hd]
    simp only [Bool.or_false, Bool.not_false, Bool.true_and]
    rw [show (wk == iX L) = (iX L == wk) from BEq.comm]
    cases hA : Ah (TR L s n) L.length 0 with
    | true => rfl
    | false =>
     cases hB : two s n == ins L with
     | false => rfl
     | true =>
      rw [beq_iff_eq.1 hB, xR]
      simp only [Bool.true_and, Bool.not_false, Bool.not_and]
end Go.Px
end
section
namespace Go.Px
set_option maxRecDepth 100000
def DC (v : Int) : Bool := !btw v 0 1000000000
def ZK (x1 x3 x5 x6 x7 x8 x9 x10 x21 x23 x25 x26 : Int) : Rows := [[.int x1], [.int x3], [.int x5], [.int x6], [.int x7], [.int x8], [.int x9], [.int x10], [.int x21], [.int x23], [.int x25], [.int x26]]
section
variable (N : Nat) (L14 L16 L17 L19 L24 : Rows) (b18 b20 : Bool) (x0 x1 x2 x3 x4 x5 x6 x7 x8 x9 x10 x11 x12 x13 x15 x21 x22 x23 x25 x26 x27 : Int)
theorem dC (hN : 2097152 < N) (hl : L19.length ≤ 1048576) : EW N (lsI L14 L16 L17 L19 L24 b18 b20 x0 x1 x2 x3 x4 x5 x6 x7 x8 x9 x10 x11 x12 x13 x15 x21 x22 x23 x25 x26 x27) = some [.bool (!(LM DC (ZK x1 x3 x5 x6 x7 x8 x9 x10 x21 x23 x25 x26) || LM DC L19))] := by
 show Gw (std (JH N) N) (xOf (lsI ..)) = _
 have e : ∀ ls, JH N 107 [] ls = DX N ls := fun ls => rfl
 rw [← qF]
 simp only [Gw, std, xOf, lsI, PXb, PXc, PXn, AA, ZK]
 generalize hM : ([PV.int x1] :: [PV.int x3] :: [PV.int x5] :: [PV.int x6] :: [PV.int x7] :: [PV.int x8] :: [PV.int x9] :: [PV.int x10] :: [PV.int x21] :: [PV.int x23] :: [PV.int x25] :: [PV.int x26] :: L19 : Rows) = M
 have hM2 : M.length ≤ 2097152 := by rw [← hM]; simp only [List.length_cons]; omega
 rw [Gx (n := M.length) (by omega) (by omega)]
 simp only [PXb, PXc, PXn, AA]
 rw [Option.bind_assoc]
 refine AK (Cc (len := M.length) (Gg fun i => DC (atI M i 0)) ?_ ?_ M.length 0 N (by omega) (by omega)) ?_
 ·intro self
  simp only [PXb, PXc, PXn, AA, Aj]
 ·intro i self hi
  simp only [PXb, PXc, PXn, AA, AN (show i ≤ 1099511627776 by omega), Ae hi, AP hi, Gg, A2, e, Ze, DC]
  cases btw (atI M i 0) 0 1000000000 <;> rfl
 ·unfold LM
  rw [← Kh]
  unfold SO
  cases B8 (Gg fun i => DC (atI M i 0)) M.length 0 <;> rfl
end
def M8 (a3 x2 : Int) : Bool := cond (a3 == 0) (x2 == 0) (btw x2 1 a3)
def Lw (s : ByteArray) (a1 a2 a3 a4 a5 a6 a7 a9 a10 a11 a12 : Int) (La L14 L16 L17 L19 L24 : Rows) (x0 x1 x2 x3 x4 x5 x6 x7 x8 x9 x10 x11 x12 x13 x15 x21 x22 x23 x25 x26 x27 : Int) : Bool :=
  Dx s a1 a2 a3 a4 a5 a6 a7 a9 a10 a11 a12 La == 0 && (btw x0 1 2 && ((L14.length : Int) == a1 && ((L19.length : Int) == a1 && ((L24.length : Int) == a1 && (!iLt 5 x27 &&
    (btw x12 0 a1 && (btw x13 0 a1 && (WN L14 x12 x13 x4 && (btw x15 0 a1 && (btw x22 0 a1 && (GE L16 a1 && (GE L17 a1 && (M8 a3 x2 && (btw x11 0 (IntKind.i64.wrap (a4 - 1)) &&
      (!LM DC (ZK x1 x3 x5 x6 x7 x8 x9 x10 x21 x23 x25 x26) && !LM DC L19)))))))))))))))
theorem tx {s : ByteArray} {a1 a2 a3 a4 a5 a6 a7 a9 a10 a11 a12 : Int} {La : Rows} (h : (Dx s a1 a2 a3 a4 a5 a6 a7 a9 a10 a11 a12 La == 0) = true) : 0 ≤ a3 := by
 unfold Dx at h
 cases hn : LX s with
 | false => rw [hn] at h; exact absurd h Bool.false_ne_true
 | true =>
  cases hr : Ga a1 a2 a3 a4 a5 a6 a7 a9 a10 a11 a12 with
  | false => rw [hn, hr] at h; exact absurd h Bool.false_ne_true
  | true =>
   unfold Ga at hr
   simp only [Bool.and_eq_true] at hr
   have := hr.1.1.1.1.1.1.1.1.2
   unfold btw iLe at this
   simp only [Bool.and_eq_true, decide_eq_true_eq] at this
   omega
theorem lT {a : Int} (h : 0 ≤ a) : iLt 0 a = !(a == 0) := by
 unfold iLt
 rw [Bool.eq_iff_iff]
 simp only [decide_eq_true_eq, Bool.not_eq_true', beq_eq_false_iff_ne]
 omega
section
variable (N : Nat) (s : ByteArray) (a1 a2 a3 a4 a5 a6 a7 a9 a10 a11 a12 : Int) (a8 : Bool) (La : Rows) (L14 L16 L17 L19 L24 : Rows) (b18 b20 : Bool) (x0 x1 x2 x3 x4 x5 x6 x7 x8 x9 x10 x11 x12 x13 x15 x21 x22 x23 x25 x26 x27 : Int)
theorem UJ (hN : 2097152 < N) (hs : s.size ≤ 1048576) (h14 : L14.length ≤ 1048576) (h16 : L16.length ≤ 1048576) (h17 : L17.length ≤ 1048576) (h19 : L19.length ≤ 1048576) : BF N ([.str s, .int a1, .int a2, .int a3, .int a4, .int a5, .int a6, .int a7, .bool a8, .int a9, .int a10, .int a11, .int a12, .rows La] ++ lsI L14 L16 L17 L19 L24 b18 b20 x0 x1 x2 x3 x4 x5 x6 x7 x8 x9 x10 x11 x12 x13 x15 x21 x22 x23 x25 x26 x27) = some [.bool (Lw s a1 a2 a3 a4 a5 a6 a7 a9 a10 a11 a12 La L14 L16 L17 L19 L24 x0 x1 x2 x3 x4 x5 x6 x7 x8 x9 x10 x11 x12 x13 x15 x21 x22 x23 x25 x26 x27)] := by
 simp only [lsI, List.cons_append, List.nil_append]
 show JK (std (CW N) N) (xOf _) = _
 have e1 : ∀ ls, CW N 35 [] ls = AS N ls := fun ls => rfl
 have e2 : ∀ ls, CW N 89 [] ls = Ak N ls := fun ls => rfl
 have e3 : ∀ ls, CW N 90 [] ls = EU N ls := fun ls => rfl
 have e4 : ∀ ls, CW N 91 [] ls = Da N ls := fun ls => rfl
 have e5 : ∀ ls, CW N 92 [] ls = EW N ls := fun ls => rfl
 have l54 := cO N L14 L16 L17 L19 L24 b18 b20 x0 x1 x2 x3 x4 x5 x6 x7 x8 x9 x10 x11 x12 x13 x15 x21 x22 x23 x25 x26 x27 a1 (by omega) (by omega)
 have l56 := dC N L14 L16 L17 L19 L24 b18 b20 x0 x1 x2 x3 x4 x5 x6 x7 x8 x9 x10 x11 x12 x13 x15 x21 x22 x23 x25 x26 x27 (by omega) (by omega)
 simp only [lsI, List.cons_append, List.nil_append] at l54 l56
 simp only [JK, std, xOf, PXb, PXc, PXn, AA, e1, e2, e3, e4, e5, YM N s _ _ _ _ _ _ _ _ _ _ _ _ _ hN hs, Dy, l54, l56, Oe N L16 _ (by omega) (by omega), Oe N L17 _ (by omega) (by omega)]
 unfold Lw M8
 cases hc : Dx s a1 a2 a3 a4 a5 a6 a7 a9 a10 a11 a12 La == 0 <;> try rfl
 cases btw x0 1 2 <;> try rfl
 cases h14 : (L14.length : Int) == a1 <;> try rfl
 cases (L19.length : Int) == a1 <;> try rfl
 cases (L24.length : Int) == a1 <;> try rfl
 cases iLt 5 x27 <;> try rfl
 rw [yL L14 x12 x13 x4 a1 (beq_iff_eq.1 h14)]
 cases btw x12 0 a1 <;> try rfl
 cases btw x13 0 a1 <;> try rfl
 cases WN L14 x12 x13 x4 <;> try rfl
 cases btw x15 0 a1 <;> try rfl
 cases btw x22 0 a1 <;> try rfl
 cases GE L16 a1 <;> try rfl
 cases GE L17 a1 <;> try rfl
 cases a3 == 0 <;> cases x2 == 0 <;> cases btw x2 1 a3 <;> rfl
theorem cE (hN : 2097152 < N) (hs : s.size ≤ 1048576) (h14 : L14.length ≤ 1048576) (h16 : L16.length ≤ 1048576) (h17 : L17.length ≤ 1048576) (h19 : L19.length ≤ 1048576) : Co N ([.str s, .int a1, .int a2, .int a3, .int a4, .int a5, .int a6, .int a7, .bool a8, .int a9, .int a10, .int a11, .int a12, .rows La] ++ lsI L14 L16 L17 L19 L24 b18 b20 x0 x1 x2 x3 x4 x5 x6 x7 x8 x9 x10 x11 x12 x13 x15 x21 x22 x23 x25 x26 x27) = some [.bool (Lw s a1 a2 a3 a4 a5 a6 a7 a9 a10 a11 a12 La L14 L16 L17 L19 L24 x0 x1 x2 x3 x4 x5 x6 x7 x8 x9 x10 x11 x12 x13 x15 x21 x22 x23 x25 x26 x27)] := by
 simp only [lsI, List.cons_append, List.nil_append]
 show Qk (std (Fv N) N) (xOf _) = _
 have e1 : ∀ ls, Fv N 49 [] ls = AY N ls := fun ls => rfl
 have e2 : ∀ ls, Fv N 185 [] ls = FU N ls := fun ls => rfl
 have e3 : ∀ ls, Fv N 187 [] ls = Iq N ls := fun ls => rfl
 have e4 : ∀ ls, Fv N 186 [] ls = RZ N ls := fun ls => rfl
 have l60 := lS N L14 L16 L17 L19 L24 b18 b20 x0 x1 x2 x3 x4 x5 x6 x7 x8 x9 x10 x11 x12 x13 x15 x21 x22 x23 x25 x26 x27 (by omega) (by omega)
 simp only [lsI, List.cons_append, List.nil_append] at l60
 simp only [Qk, std, xOf, PXb, PXc, PXn, AA, e1, e2, e3, e4, cT N s _ _ _ _ _ _ _ _ _ _ _ _ _ hN hs, dp, l60, kn N L16 _ (by omega) (by omega), kn N L17 _ (by omega) (by omega)]
 unfold Lw M8
 cases hc : Dx s a1 a2 a3 a4 a5 a6 a7 a9 a10 a11 a12 La == 0 <;> try rfl
 rw [lT (tx hc)]
 cases btw x0 1 2 <;> try rfl
 cases h14 : (L14.length : Int) == a1 <;> try rfl
 cases (L19.length : Int) == a1 <;> try rfl
 cases (L24.length : Int) == a1 <;> try rfl
 cases iLt 5 x27 <;> try rfl
 cases btw x12 0 a1 <;> try rfl
 cases btw x13 0 a1 <;> try rfl
 cases WN L14 x12 x13 x4
 ·simp only [PXb, PXc, PXn, AA]
 cases btw x15 0 a1 <;> try rfl
 cases btw x22 0 a1 <;> try rfl
 cases GE L16 a1 <;> try rfl
 cases GE L17 a1 <;> try rfl
 have ho : (a3 == 0 && !(x2 == 0) || !(a3 == 0) && (a3 == 0 && !(x2 == 0) || !!(a3 == 0) || !btw x2 1 a3) || !btw x11 0 (IntKind.i64.wrap (a4 - 1))) = !(M8 a3 x2 && btw x11 0 (IntKind.i64.wrap (a4 - 1))) := by
  unfold M8
  cases a3 == 0 <;> cases x2 == 0 <;> cases btw x2 1 a3 <;> cases btw x11 0 (IntKind.i64.wrap (a4 - 1)) <;> rfl
 rw [ho]
 show _ = some [PV.bool (M8 a3 x2 && (btw x11 0 (IntKind.i64.wrap (a4 - 1)) && _))]
 rw [← Bool.and_assoc]
 cases M8 a3 x2 && btw x11 0 (IntKind.i64.wrap (a4 - 1)) <;> try rfl
 simp only [PXb, PXc, PXn, AA]
 change (IP (fun s11 c11 => cond (iLt (pvI (AJ c11 0)) ((ZK x1 x3 x5 x6 x7 x8 x9 x10 x21 x23 x25 x26).length : Int)) (cond (iIn (pvI (AJ c11 0)) ((ZK x1 x3 x5 x6 x7 x8 x9 x10 x21 x23 x25 x26).length : Int)) (cond (!btw (pvI (AG (ZK x1 x3 x5 x6 x7 x8 x9 x10 x21 x23 x25 x26) (pvI (AJ c11 0)).toNat 0)) 0 1000000000) (some [PV.int 0, PV.bool false]) (s11 [Leaf.int (IntKind.i64.wrap (pvI (AJ c11 0) + 1))])) none) (some [PV.int 1])) N [PV.int 0]).bind _ = _
 generalize hM : ZK x1 x3 x5 x6 x7 x8 x9 x10 x21 x23 x25 x26 = M
 have hM2 : M.length = 12 := by rw [← hM]; rfl
 refine AK (A7 (len := M.length) (fun i => DC (atI M i 0)) [.bool false] ?_ ?_ N (by omega)) ?_
 ·intro self
  simp only [PXb, PXc, PXn, AA, Aj]
 ·intro i self hi
  simp only [PXb, PXc, PXn, AA, AN (show i ≤ 1099511627776 by omega), Ae hi, AP hi, A2, DC]
 ·show _ = some [PV.bool (!Ah (fun i => DC (atI M i 0)) M.length 0 && _)]
  cases Ah (fun i => DC (atI M i 0)) M.length 0 <;> try rfl
  refine AK (A7 (len := L19.length) (fun i => DC (atI L19 i 0)) [.bool false] ?_ ?_ N (by omega)) ?_
  ·intro self
   simp only [PXb, PXc, PXn, AA, Aj]
  ·intro i self hi
   simp only [PXb, PXc, PXn, AA, AN (show i ≤ 1099511627776 by omega), Ae hi, AP hi, A2, DC]
  ·show _ = some [PV.bool (!Ah (fun i => DC (atI L19 i 0)) L19.length 0)]
   cases Ah (fun i => DC (atI L19 i 0)) L19.length 0 <;> rfl
end
end Go.Px
end
section
namespace Go.Px
set_option maxRecDepth 100000
def qW (v : Bool) (L : Rows) (s n : Int) (x1 x2 x3 x10 : Int) : Int :=
 cond (!v) 0 (cond (iLt 0 x1 && iLe x1 x3) 3 (cond (FA L s n && ((Bt L L.length).length : Int) == 0) 1 (cond (iLt 0 x2 && iLe x2 x10) 2 0)))
theorem ym {c : Int} {n : Nat} (hc : 0 ≤ c) : iRg 0 (cond (iLt c (n : Int)) c (n : Int)) (n : Int) = true := by
 cases h : iLt c (n : Int) with
 | true => simp only [iLt, decide_eq_true_eq] at h; simp only [cond_true, iRg, decide_eq_true_eq]; omega
 | false => simp only [cond_false, iRg, decide_eq_true_eq]; omega
def cut (L : Rows) (c : Int) : Rows := (L.take (cond (iLt c (L.length : Int)) c (L.length : Int)).toNat).drop (0 : Int).toNat
end Go.Px
end
section
namespace Go.Px
set_option maxRecDepth 100000
section
variable (N : Nat) (s : ByteArray) (a1 a2 a3 a4 a5 a6 a7 a9 a10 a11 a12 : Int) (a8 : Bool) (La : Rows) (L14 L16 L17 L19 L24 : Rows) (b18 b20 : Bool) (x0 x1 x2 x3 x4 x5 x6 x7 x8 x9 x10 x11 x12 x13 x15 x21 x22 x23 x25 x26 x27 : Int)
theorem ew (hN : 2097152 < N) (hs : s.size ≤ 1048576) (h14 : L14.length ≤ 1048576) (h16 : L16.length ≤ 1048576) (h17 : L17.length ≤ 1048576) (h19 : L19.length ≤ 1048576) : Dd N ([.str s, .int a1, .int a2, .int a3, .int a4, .int a5, .int a6, .int a7, .bool a8, .int a9, .int a10, .int a11, .int a12, .rows La] ++ lsI L14 L16 L17 L19 L24 b18 b20 x0 x1 x2 x3 x4 x5 x6 x7 x8 x9 x10 x11 x12 x13 x15 x21 x22 x23 x25 x26 x27) =
    some [.int (qW (Lw s a1 a2 a3 a4 a5 a6 a7 a9 a10 a11 a12 La L14 L16 L17 L19 L24 x0 x1 x2 x3 x4 x5 x6 x7 x8 x9 x10 x11 x12 x13 x15 x21 x22 x23 x25 x26 x27) L14 x12 x13 x1 x2 x3 x10)] := by
  simp only [lsI, List.cons_append, List.nil_append]
  show H5 (std (Dr N) N) (xOf _) = _
  have e1 : ∀ ls, Dr N 61 [] ls = BF N ls := fun ls => rfl
  have e2 : ∀ ls, Dr N 140 [] ls = BH N ls := fun ls => rfl
  have e3 : ∀ ls, Dr N 141 [] ls = Cs N ls := fun ls => rfl
  have l16 := UJ N s a1 a2 a3 a4 a5 a6 a7 a9 a10 a11 a12 a8 La L14 L16 L17 L19 L24 b18 b20 x0 x1 x2 x3 x4 x5 x6 x7 x8 x9 x10 x11 x12 x13 x15 x21 x22 x23 x25 x26 x27 hN hs h14 h16 h17 h19
  have l61 := iI N L14 L16 L17 L19 L24 b18 b20 x0 x1 x2 x3 x4 x5 x6 x7 x8 x9 x10 x11 x12 x13 x15 x21 x22 x23 x25 x26 x27 (by omega) (by omega)
  have l62 := lR N L14 L16 L17 L19 L24 b18 b20 x0 x1 x2 x3 x4 x5 x6 x7 x8 x9 x10 x11 x12 x13 x15 x21 x22 x23 x25 x26 x27 (by omega) (by omega)
  simp only [lsI, List.cons_append, List.nil_append] at l16 l61 l62
  simp only [H5, std, xOf, PXb, PXc, PXn, AA, e1, e2, e3, l16, l61, l62, qW]
  cases Lw s a1 a2 a3 a4 a5 a6 a7 a9 a10 a11 a12 La L14 L16 L17 L19 L24 x0 x1 x2 x3 x4 x5 x6 x7 x8 x9 x10 x11 x12 x13 x15 x21 x22 x23 x25 x26 x27 <;> try rfl
  cases (iLt 0 x1 && iLe x1 x3) <;> try rfl
  cases FA L14 x12 x13
  · cases (iLt 0 x2 && iLe x2 x10) <;> rfl
  · simp only [PXb, PXc, PXn, AA]
    cases ((Bt L14 L14.length).length : Int) == 0 <;> cases (iLt 0 x2 && iLe x2 x10) <;> rfl
theorem nl (hN : 2097152 < N) (hs : s.size ≤ 1048576) (h14 : L14.length ≤ 1048576) (h16 : L16.length ≤ 1048576) (h17 : L17.length ≤ 1048576) (h19 : L19.length ≤ 1048576) : KA N ([.str s, .int a1, .int a2, .int a3, .int a4, .int a5, .int a6, .int a7, .bool a8, .int a9, .int a10, .int a11, .int a12, .rows La] ++ lsI L14 L16 L17 L19 L24 b18 b20 x0 x1 x2 x3 x4 x5 x6 x7 x8 x9 x10 x11 x12 x13 x15 x21 x22 x23 x25 x26 x27) =
    some [.int (qW (Lw s a1 a2 a3 a4 a5 a6 a7 a9 a10 a11 a12 La L14 L16 L17 L19 L24 x0 x1 x2 x3 x4 x5 x6 x7 x8 x9 x10 x11 x12 x13 x15 x21 x22 x23 x25 x26 x27) L14 x12 x13 x1 x2 x3 x10)] := by
  simp only [lsI, List.cons_append, List.nil_append]
  show Nl (std (HI N) N) (xOf _) = _
  have e1 : ∀ ls, HI N 172 [] ls = Co N ls := fun ls => rfl
  have e2 : ∀ ls, HI N 208 [] ls = CE N ls := fun ls => rfl
  have e3 : ∀ ls, HI N 209 [] ls = Eh N ls := fun ls => rfl
  have l16 := cE N s a1 a2 a3 a4 a5 a6 a7 a9 a10 a11 a12 a8 La L14 L16 L17 L19 L24 b18 b20 x0 x1 x2 x3 x4 x5 x6 x7 x8 x9 x10 x11 x12 x13 x15 x21 x22 x23 x25 x26 x27 hN hs h14 h16 h17 h19
  have l61 := nL N L14 L16 L17 L19 L24 b18 b20 x0 x1 x2 x3 x4 x5 x6 x7 x8 x9 x10 x11 x12 x13 x15 x21 x22 x23 x25 x26 x27 (by omega) (by omega)
  have l62 := rn N L14 L16 L17 L19 L24 b18 b20 x0 x1 x2 x3 x4 x5 x6 x7 x8 x9 x10 x11 x12 x13 x15 x21 x22 x23 x25 x26 x27 (by omega) (by omega)
  simp only [lsI, List.cons_append, List.nil_append] at l16 l61 l62
  simp only [Nl, std, xOf, PXb, PXc, PXn, AA, e1, e2, e3, l16, l61, l62, qW]
  cases Lw s a1 a2 a3 a4 a5 a6 a7 a9 a10 a11 a12 La L14 L16 L17 L19 L24 x0 x1 x2 x3 x4 x5 x6 x7 x8 x9 x10 x11 x12 x13 x15 x21 x22 x23 x25 x26 x27 <;> try rfl
  cases (iLt 0 x1 && iLe x1 x3) <;> try rfl
  cases FA L14 x12 x13
  · cases (iLt 0 x2 && iLe x2 x10) <;> rfl
  · simp only [PXb, PXc, PXn, AA]
    cases ((Bt L14 L14.length).length : Int) == 0 <;> cases (iLt 0 x2 && iLe x2 x10) <;> rfl
end
end Go.Px
end
section
namespace Go.Px
set_option maxRecDepth 100000
section
variable (N : Nat) (s : ByteArray) (a1 a2 a3 a4 a5 a6 a7 a9 a10 a11 a12 : Int) (a8 : Bool) (La : Rows) (L14 L16 L17 L19 L24 : Rows) (b18 b20 : Bool) (x0 x1 x2 x3 x4 x5 x6 x7 x8 x9 x10 x11 x12 x13 x15 x21 x22 x23 x25 x26 x27 : Int)
def eH (a4 x10 x11 : Int) : Int := IntKind.i64.wrap (IntKind.i64.wrap (x10 * a4) + x11)
end
end Go.Px
end
section
namespace Go.Px
set_option maxRecDepth 100000
def Ax (r : Rul) : Int := Dx r.name r.side r.innings r.overs r.balls r.quota r.wide r.noball r.newball r.followon r.reviews r.outside r.power
theorem DI {N : Nat} {r1 r2 r3 r4 r5 r6 r7 r9 r10 r11 r12 : Int} {r8 : Bool} {r0 : ByteArray} {r13 : Rows} (hN : 2097152 < N) (hs : r0.size ≤ 1048576) : AS N [.str r0, .int r1, .int r2, .int r3, .int r4, .int r5, .int r6, .int r7, .bool r8, .int r9, .int r10, .int r11, .int r12, .rows r13] = some [.int (Ax (⟨r0, r1, r2, r3, r4, r5, r6, r7, r8, r9, r10, r11, r12, r13⟩ : Rul))] := by
 exact YM N _ _ _ _ _ _ _ _ _ _ _ _ _ _ hN hs
theorem Dl {N : Nat} {r1 r2 r3 r4 r5 r6 r7 r9 r10 r11 r12 : Int} {r8 : Bool} {r0 : ByteArray} {r13 : Rows} (hN : 2097152 < N) (hs : r0.size ≤ 1048576) : AY N [.str r0, .int r1, .int r2, .int r3, .int r4, .int r5, .int r6, .int r7, .bool r8, .int r9, .int r10, .int r11, .int r12, .rows r13] = some [.int (Ax (⟨r0, r1, r2, r3, r4, r5, r6, r7, r8, r9, r10, r11, r12, r13⟩ : Rul))] := by
 exact cT N _ _ _ _ _ _ _ _ _ _ _ _ _ _ hN hs
theorem Wl {N : Nat} {s0 s1 s2 s3 s4 s5 s6 s7 s8 s9 s10 s11 s12 s13 s15 s21 s22 s23 s25 s26 s27 : Int} {s18 s20 : Bool} {s14 s16 s17 s19 s24 : Rows} (h : Fit s14 s16 s17 s19 s24) : Cl N [.int s0, .int s1, .int s2, .int s3, .int s4, .int s5, .int s6, .int s7, .int s8, .int s9, .int s10, .int s11, .int s12, .int s13, .rows s14, .int s15, .rows s16, .rows s17, .bool s18, .rows s19, .bool s20, .int s21, .int s22, .int s23, .rows s24, .int s25, .int s26, .int s27] = some [.int s0, .int s1, .int s2, .int s3, .int s4, .int s5, .int s6, .int s7, .int s8, .int s9, .int s10, .int s11, .int s12, .int s13, .rows s14, .int s15, .rows s16, .rows s17, .bool s18, .rows s19, .bool s20, .int s21, .int s22, .int s23, .rows s24, .int s25, .int s26, .int s27] := by
 show Qj (std (Ix N) N) (xOf _) = _
 simp only [Qj, Nc, QT, Pk, std, xOf, PXb, PXc, PXn, PXm, Nat.reduceAdd, Int.reduceBEq, AU, Af, Ab, BO h.bt (show 1 ≤ 4096 by omega), BO h.bw' (show 8 ≤ 4096 by omega), BO h.bf (show 8 ≤ 4096 by omega), BO h.bd (show 8 ≤ 4096 by omega), BO h.sb (show 1 ≤ 4096 by omega)]
theorem Wz {N : Nat} {s0 s1 s2 s3 s4 s5 s6 s7 s8 s9 s10 s11 s12 s13 s15 s21 s22 s23 s25 s26 s27 : Int} {s18 s20 : Bool} {s14 s16 s17 s19 s24 : Rows} (h : Fit s14 s16 s17 s19 s24) : Cp N [.int s0, .int s1, .int s2, .int s3, .int s4, .int s5, .int s6, .int s7, .int s8, .int s9, .int s10, .int s11, .int s12, .int s13, .rows s14, .int s15, .rows s16, .rows s17, .bool s18, .rows s19, .bool s20, .int s21, .int s22, .int s23, .rows s24, .int s25, .int s26, .int s27] = some [.int s0, .int s1, .int s2, .int s3, .int s4, .int s5, .int s6, .int s7, .int s8, .int s9, .int s10, .int s11, .int s12, .int s13, .rows s14, .int s15, .rows s16, .rows s17, .bool s18, .rows s19, .bool s20, .int s21, .int s22, .int s23, .rows s24, .int s25, .int s26, .int s27] := by
 show Qm (std (Ib N) N) (xOf _) = _
 simp only [Qm, Nb, QN, Pg, std, xOf, PXb, PXc, PXn, PXm, Nat.reduceAdd, Int.reduceBEq, AU, Af, Ab, BO h.bt (show 1 ≤ 4096 by omega), BO h.bw' (show 8 ≤ 4096 by omega), BO h.bf (show 8 ≤ 4096 by omega), BO h.bd (show 8 ≤ 4096 by omega), BO h.sb (show 1 ≤ 4096 by omega)]
theorem CA {N : Nat} {s0 s1 s2 s3 s4 s5 s6 s7 s8 s9 s10 s11 s12 s13 s15 s21 s22 s23 s25 s26 s27 : Int} {s18 s20 : Bool} {s14 s16 s17 s19 s24 : Rows} (h : Fit s14 s16 s17 s19 s24) : AR N [.int s0, .int s1, .int s2, .int s3, .int s4, .int s5, .int s6, .int s7, .int s8, .int s9, .int s10, .int s11, .int s12, .int s13, .rows s14, .int s15, .rows s16, .rows s17, .bool s18, .rows s19, .bool s20, .int s21, .int s22, .int s23, .rows s24, .int s25, .int s26, .int s27] = some [.int s0, .int s1, .int s2, .int s3, .int s4, .int s5, .int s6, .int s7, .int s8, .int s9, .int s10, .int s11, .int s12, .int s13, .rows s14, .int s15, .rows s16, .rows s17, .bool s18, .rows s19, .bool s20, .int s21, .int s22, .int s23, .rows s24, .int s25, .int s26, .int s27] := by
 show JT (std (EV N) N) (xOf _) = _
 simp only [JT, Km, M0, LV, std, xOf, PXb, PXc, PXn, PXm, Nat.reduceAdd, Int.reduceBEq, AU, Af, Ab, BO h.bt (show 1 ≤ 4096 by omega), BO h.bw' (show 8 ≤ 4096 by omega), BO h.bf (show 8 ≤ 4096 by omega), BO h.bd (show 8 ≤ 4096 by omega), BO h.sb (show 1 ≤ 4096 by omega)]
theorem XV {N : Nat} {s0 s1 s2 s3 s4 s5 s6 s7 s8 s9 s10 s11 s12 s13 s15 s21 s22 s23 s25 s26 s27 : Int} {s18 s20 : Bool} {s14 s16 s17 s19 s24 : Rows} (h : Fit s14 s16 s17 s19 s24) : C6 N [.int s0, .int s1, .int s2, .int s3, .int s4, .int s5, .int s6, .int s7, .int s8, .int s9, .int s10, .int s11, .int s12, .int s13, .rows s14, .int s15, .rows s16, .rows s17, .bool s18, .rows s19, .bool s20, .int s21, .int s22, .int s23, .rows s24, .int s25, .int s26, .int s27] = some [.int s0, .int s1, .int s2, .int s3, .int s4, .int s5, .int s6, .int s7, .int s8, .int s9, .int s10, .int s11, .int s12, .int s13, .rows s14, .int s15, .rows s16, .rows s17, .bool s18, .rows s19, .bool s20, .int s21, .int s22, .int s23, .rows s24, .int s25, .int s26, .int s27] := by
 show Qr (std (SG N) N) (xOf _) = _
 simp only [Qr, Xf, std, xOf, PXb, PXc, PXn, PXm, Nat.reduceAdd, Int.reduceBEq, B0 h]
theorem SE {N : Nat} {s0 s1 s2 s3 s4 s5 s6 s7 s8 s9 s10 s11 s12 s13 s15 s21 s22 s23 s25 s26 s27 : Int} {s18 s20 : Bool} {s14 s16 s17 s19 s24 : Rows} {p : Int}  : Bs N [.int s0, .int s1, .int s2, .int s3, .int s4, .int s5, .int s6, .int s7, .int s8, .int s9, .int s10, .int s11, .int s12, .int s13, .rows s14, .int s15, .rows s16, .rows s17, .bool s18, .rows s19, .bool s20, .int s21, .int s22, .int s23, .rows s24, .int s25, .int s26, .int s27, .int p] = some [.bool (inR p s19.length)] := by
 show Mc (std (WQ N) N) (xOf _) = _
 simp only [Mc, std, xOf, PXb, PXc, PXn, PXm, Nat.reduceAdd, Int.reduceBEq]
 rfl
theorem U5 {N : Nat} {s0 s1 s2 s3 s4 s5 s6 s7 s8 s9 s10 s11 s12 s13 s15 s21 s22 s23 s25 s26 s27 : Int} {s18 s20 : Bool} {s14 s16 s17 s19 s24 : Rows} {p : Int}  : CG N [.int s0, .int s1, .int s2, .int s3, .int s4, .int s5, .int s6, .int s7, .int s8, .int s9, .int s10, .int s11, .int s12, .int s13, .rows s14, .int s15, .rows s16, .rows s17, .bool s18, .rows s19, .bool s20, .int s21, .int s22, .int s23, .rows s24, .int s25, .int s26, .int s27, .int p] = some [.bool (inR p s19.length)] := by
 show OH (std (YF N) N) (xOf _) = _
 simp only [OH, std, xOf, PXb, PXc, PXn, PXm, Nat.reduceAdd, Int.reduceBEq]
 rfl
theorem Ip {N : Nat} {s0 s1 s2 s3 s4 s5 s6 s7 s8 s9 s10 s11 s12 s13 s15 s21 s22 s23 s25 s26 s27 : Int} {s18 s20 : Bool} {s14 s16 s17 s19 s24 : Rows} {p : Int}  : Az N [.int s0, .int s1, .int s2, .int s3, .int s4, .int s5, .int s6, .int s7, .int s8, .int s9, .int s10, .int s11, .int s12, .int s13, .rows s14, .int s15, .rows s16, .rows s17, .bool s18, .rows s19, .bool s20, .int s21, .int s22, .int s23, .rows s24, .int s25, .int s26, .int s27, .int p] = some [.bool (inR p s24.length)] := by
 show MB (std (Vo N) N) (xOf _) = _
 simp only [MB, std, xOf, PXb, PXc, PXn, PXm, Nat.reduceAdd, Int.reduceBEq]
 rfl
theorem PU {N : Nat} {s0 s1 s2 s3 s4 s5 s6 s7 s8 s9 s10 s11 s12 s13 s15 s21 s22 s23 s25 s26 s27 : Int} {s18 s20 : Bool} {s14 s16 s17 s19 s24 : Rows} {p : Int}  : BT N [.int s0, .int s1, .int s2, .int s3, .int s4, .int s5, .int s6, .int s7, .int s8, .int s9, .int s10, .int s11, .int s12, .int s13, .rows s14, .int s15, .rows s16, .rows s17, .bool s18, .rows s19, .bool s20, .int s21, .int s22, .int s23, .rows s24, .int s25, .int s26, .int s27, .int p] = some [.bool (inR p s24.length)] := by
 show Oy (std (Xd N) N) (xOf _) = _
 simp only [Oy, std, xOf, PXb, PXc, PXn, PXm, Nat.reduceAdd, Int.reduceBEq]
 rfl
def atB (L : Rows) (i j : Nat) : Bool := pvB (AG L i j)
theorem YC (L : Rows) (i j : Nat) : pvB (AG L i j) = atB L i j := rfl
def C3 (s : Inn) (p : Int) : Bool := inR p s.subs.length && atB s.subs (ix p) 0
theorem H1 {N : Nat} {s0 s1 s2 s3 s4 s5 s6 s7 s8 s9 s10 s11 s12 s13 s15 s21 s22 s23 s25 s26 s27 : Int} {s18 s20 : Bool} {s14 s16 s17 s19 s24 : Rows} {p : Int} (h : s24.length ≤ 1048576) : Ay N [.int s0, .int s1, .int s2, .int s3, .int s4, .int s5, .int s6, .int s7, .int s8, .int s9, .int s10, .int s11, .int s12, .int s13, .rows s14, .int s15, .rows s16, .rows s17, .bool s18, .rows s19, .bool s20, .int s21, .int s22, .int s23, .rows s24, .int s25, .int s26, .int s27, .int p] = some [.bool (C3 (⟨s0, s1, s2, s3, s4, s5, s6, s7, s8, s9, s10, s11, s12, s13, s14, s15, s16, s17, s18, s19, s20, s21, s22, s23, s24, s25, s26, s27⟩ : Inn) p)] := by
 show IV (std (Jk N) N) (xOf _) = _
 generalize hres : (some [.bool (C3 (⟨s0, s1, s2, s3, s4, s5, s6, s7, s8, s9, s10, s11, s12, s13, s14, s15, s16, s17, s18, s19, s20, s21, s22, s23, s24, s25, s26, s27⟩ : Inn) p)] : Option (List PV)) = RR
 simp only [IV, QI, std, xOf, PXb, PXc, PXn, PXm, Nat.reduceAdd, Int.reduceBEq, Ip, ud h]
 subst hres; simp only [C3]
 cases hp : inR p s24.length with
 | false => rfl
 | true => first | rfl | (rw [DT hp h]; rfl)
theorem Hh {N : Nat} {s0 s1 s2 s3 s4 s5 s6 s7 s8 s9 s10 s11 s12 s13 s15 s21 s22 s23 s25 s26 s27 : Int} {s18 s20 : Bool} {s14 s16 s17 s19 s24 : Rows} {p : Int} (h : s24.length ≤ 1048576) : Aw N [.int s0, .int s1, .int s2, .int s3, .int s4, .int s5, .int s6, .int s7, .int s8, .int s9, .int s10, .int s11, .int s12, .int s13, .rows s14, .int s15, .rows s16, .rows s17, .bool s18, .rows s19, .bool s20, .int s21, .int s22, .int s23, .rows s24, .int s25, .int s26, .int s27, .int p] = some [.bool (C3 (⟨s0, s1, s2, s3, s4, s5, s6, s7, s8, s9, s10, s11, s12, s13, s14, s15, s16, s17, s18, s19, s20, s21, s22, s23, s24, s25, s26, s27⟩ : Inn) p)] := by
 show Kd (std (VB N) N) (xOf _) = _
 generalize hres : (some [.bool (C3 (⟨s0, s1, s2, s3, s4, s5, s6, s7, s8, s9, s10, s11, s12, s13, s14, s15, s16, s17, s18, s19, s20, s21, s22, s23, s24, s25, s26, s27⟩ : Inn) p)] : Option (List PV)) = RR
 simp only [Kd, std, xOf, PXb, PXc, PXn, PXm, Nat.reduceAdd, Int.reduceBEq, ud h]
 subst hres; simp only [C3]
 cases hp : inR p s24.length with
 | false =>
  unfold inR at hp
  have hq : (!iLe 1 p || !iLe p (s24.length : Int) || iIn (IntKind.i64.wrap (p - 1)) (s24.length : Int)) = true := by rw [← Bool.not_and, hp]; rfl
  simp only [hp, hq, PXb, PXc, PXn, PXm, Nat.reduceAdd, Int.reduceBEq]
 | true => have hk := DT hp h; unfold inR at hp; simp only [hp, hk, PXb, PXc, PXn, PXm, Nat.reduceAdd, Int.reduceBEq, atB, ix]
def iK (x : Int) : Int := cond (iLt x 0) 0 x
def N1 (r : Rul) (s : Inn) (p : Int) : Int :=
 cond (!inR p s.bowled.length || !(Ax r == 0)) 0 (cond (r.quota == 0) (-1) (iK (IntKind.i64.wrap (IntKind.i64.wrap (r.quota * r.balls) - iK (atI s.bowled (ix p) 0)))))
theorem tz (r : Rul) (s : Inn) (p : Int) : iLe 0 (N1 r s p) = !(N1 r s p == -1) := by
 unfold N1
 cases (!inR p s.bowled.length || !(Ax r == 0)) with
 | true => rfl
 | false =>
  cases r.quota == 0 with
  | true => rfl
  | false =>
   simp only [cond_false]
   generalize IntKind.i64.wrap (IntKind.i64.wrap (r.quota * r.balls) - iK (atI s.bowled (ix p) 0)) = x
   unfold iK
   cases h : iLt x 0 with
   | true => rfl
   | false =>
    simp only [iLt, decide_eq_false_iff_not] at h
    simp only [cond_false]
    have h1 : iLe 0 x = true := by simp only [iLe, decide_eq_true_eq]; omega
    have h2 : (x == -1) = false := by simp only [beq_eq_false_iff_ne]; omega
    rw [h1, h2]; rfl
theorem oj {N : Nat} {r1 r2 r3 r4 r5 r6 r7 r9 r10 r11 r12 : Int} {r8 : Bool} {r0 : ByteArray} {r13 : Rows} {s0 s1 s2 s3 s4 s5 s6 s7 s8 s9 s10 s11 s12 s13 s15 s21 s22 s23 s25 s26 s27 : Int} {s18 s20 : Bool} {s14 s16 s17 s19 s24 : Rows} {p : Int} (h : Fit s14 s16 s17 s19 s24) (hN : 2097152 < N) (hs : r0.size ≤ 1048576) : KH N [.str r0, .int r1, .int r2, .int r3, .int r4, .int r5, .int r6, .int r7, .bool r8, .int r9, .int r10, .int r11, .int r12, .rows r13, .int s0, .int s1, .int s2, .int s3, .int s4, .int s5, .int s6, .int s7, .int s8, .int s9, .int s10, .int s11, .int s12, .int s13, .rows s14, .int s15, .rows s16, .rows s17, .bool s18, .rows s19, .bool s20, .int s21, .int s22, .int s23, .rows s24, .int s25, .int s26, .int s27, .int p] = some [.int (N1 (⟨r0, r1, r2, r3, r4, r5, r6, r7, r8, r9, r10, r11, r12, r13⟩ : Rul) (⟨s0, s1, s2, s3, s4, s5, s6, s7, s8, s9, s10, s11, s12, s13, s14, s15, s16, s17, s18, s19, s20, s21, s22, s23, s24, s25, s26, s27⟩ : Inn) p)] := by
 show Pb (std (Kk N) N) (xOf _) = _
 generalize hres : (some [.int (N1 (⟨r0, r1, r2, r3, r4, r5, r6, r7, r8, r9, r10, r11, r12, r13⟩ : Rul) (⟨s0, s1, s2, s3, s4, s5, s6, s7, s8, s9, s10, s11, s12, s13, s14, s15, s16, s17, s18, s19, s20, s21, s22, s23, s24, s25, s26, s27⟩ : Inn) p)] : Option (List PV)) = RR
 simp only [Pb, Uw, UW, std, xOf, PXb, PXc, PXn, PXm, Nat.reduceAdd, Int.reduceBEq, DI hN hs, SE]
 subst hres; simp only [N1]
 cases hp : inR p s19.length with
 | false => rfl
 | true => rw [DT hp h.bd]; cases Ax (⟨r0, r1, r2, r3, r4, r5, r6, r7, r8, r9, r10, r11, r12, r13⟩ : Rul) == 0 <;> cases r5 == 0 <;> rfl
theorem sq {N : Nat} {r1 r2 r3 r4 r5 r6 r7 r9 r10 r11 r12 : Int} {r8 : Bool} {r0 : ByteArray} {r13 : Rows} {s0 s1 s2 s3 s4 s5 s6 s7 s8 s9 s10 s11 s12 s13 s15 s21 s22 s23 s25 s26 s27 : Int} {s18 s20 : Bool} {s14 s16 s17 s19 s24 : Rows} {p : Int} (h : Fit s14 s16 s17 s19 s24) (hN : 2097152 < N) (hs : r0.size ≤ 1048576) : N3 N [.str r0, .int r1, .int r2, .int r3, .int r4, .int r5, .int r6, .int r7, .bool r8, .int r9, .int r10, .int r11, .int r12, .rows r13, .int s0, .int s1, .int s2, .int s3, .int s4, .int s5, .int s6, .int s7, .int s8, .int s9, .int s10, .int s11, .int s12, .int s13, .rows s14, .int s15, .rows s16, .rows s17, .bool s18, .rows s19, .bool s20, .int s21, .int s22, .int s23, .rows s24, .int s25, .int s26, .int s27, .int p] = some [.int (N1 (⟨r0, r1, r2, r3, r4, r5, r6, r7, r8, r9, r10, r11, r12, r13⟩ : Rul) (⟨s0, s1, s2, s3, s4, s5, s6, s7, s8, s9, s10, s11, s12, s13, s14, s15, s16, s17, s18, s19, s20, s21, s22, s23, s24, s25, s26, s27⟩ : Inn) p)] := by
 show Tm (std (OL N) N) (xOf _) = _
 generalize hres : (some [.int (N1 (⟨r0, r1, r2, r3, r4, r5, r6, r7, r8, r9, r10, r11, r12, r13⟩ : Rul) (⟨s0, s1, s2, s3, s4, s5, s6, s7, s8, s9, s10, s11, s12, s13, s14, s15, s16, s17, s18, s19, s20, s21, s22, s23, s24, s25, s26, s27⟩ : Inn) p)] : Option (List PV)) = RR
 simp only [Tm, ZQ, Xx, std, xOf, PXb, PXc, PXn, PXm, Nat.reduceAdd, Int.reduceBEq, Dl hN hs, U5]
 subst hres; simp only [N1]
 cases hp : inR p s19.length with
 | false => cases Ax (⟨r0, r1, r2, r3, r4, r5, r6, r7, r8, r9, r10, r11, r12, r13⟩ : Rul) == 0 <;> rfl
 | true => rw [DT hp h.bd]; cases Ax (⟨r0, r1, r2, r3, r4, r5, r6, r7, r8, r9, r10, r11, r12, r13⟩ : Rul) == 0 <;> cases r5 == 0 <;> rfl
theorem mT {N : Nat} {L : Rows} {v : Int} (hN : 2097152 < N) (hl : L.length ≤ 1048576) : Ht N [.rows L, .int v] = some [.bool (G4 L L.length v)] := by
 show Vk (std (fQ N) N) (xOf _) = _
 simp only [Vk, std, xOf, PXb, PXc, PXn, AA]
 refine AK (A7 (len := L.length) (fun j => v == atI L j 0) [.bool true] ?_ ?_ N (by omega)) ?_
 ·intro self
  simp only [PXb, PXc, PXn, AA, Aj]
 ·intro i self hi
  simp only [PXb, PXc, PXn, AA, AN (show i ≤ 1099511627776 by omega), Ae hi, AP hi, A2]
  rw [BEq.comm (a := v)]
 ·unfold G4
  cases Ah (fun j => v == atI L j 0) L.length 0 <;> rfl
theorem M3 {N : Nat} {L : Rows} {v : Int} (hN : 2097152 < N) (hl : L.length ≤ 1048576) : Am N [.rows L, .int v] = some [.bool (G4 L L.length v)] := by
 exact LW N L v (by omega) (by omega)
def I6 (r : Rul) (s : Inn) (p : Int) : Int :=
  cond (!inR p s.bowled.length || !(Ax r == 0)) 3 (cond (p == s.keeper || p == s.bowler || C3 s p) 7
    (cond (G4 s.before s.before.length p) 8 (cond (!(N1 r s p == -1) && iLt s.inover (IntKind.i64.wrap (r.balls - N1 r s p))) 9 0)))
theorem vL {p : Int} {n m : Nat} (h : inR p n = true) : inR p m = iLe p (m : Int) := by
 unfold inR at h ⊢
 rw [Bool.and_eq_true] at h
 rw [h.1, Bool.true_and]
theorem qr {N : Nat} {r1 r2 r3 r4 r5 r6 r7 r9 r10 r11 r12 : Int} {r8 : Bool} {r0 : ByteArray} {r13 : Rows} {s0 s1 s2 s3 s4 s5 s6 s7 s8 s9 s10 s11 s12 s13 s15 s21 s22 s23 s25 s26 s27 : Int} {s18 s20 : Bool} {s14 s16 s17 s19 s24 : Rows} {p : Int} (h : Fit s14 s16 s17 s19 s24) (hN : 2097152 < N) (hs : r0.size ≤ 1048576) : Lp N [.str r0, .int r1, .int r2, .int r3, .int r4, .int r5, .int r6, .int r7, .bool r8, .int r9, .int r10, .int r11, .int r12, .rows r13, .int s0, .int s1, .int s2, .int s3, .int s4, .int s5, .int s6, .int s7, .int s8, .int s9, .int s10, .int s11, .int s12, .int s13, .rows s14, .int s15, .rows s16, .rows s17, .bool s18, .rows s19, .bool s20, .int s21, .int s22, .int s23, .rows s24, .int s25, .int s26, .int s27, .int p] = some [.int (I6 (⟨r0, r1, r2, r3, r4, r5, r6, r7, r8, r9, r10, r11, r12, r13⟩ : Rul) (⟨s0, s1, s2, s3, s4, s5, s6, s7, s8, s9, s10, s11, s12, s13, s14, s15, s16, s17, s18, s19, s20, s21, s22, s23, s24, s25, s26, s27⟩ : Inn) p)] := by
 show RF (std (Fm N) N) (xOf _) = _
 generalize hres : (some [.int (I6 (⟨r0, r1, r2, r3, r4, r5, r6, r7, r8, r9, r10, r11, r12, r13⟩ : Rul) (⟨s0, s1, s2, s3, s4, s5, s6, s7, s8, s9, s10, s11, s12, s13, s14, s15, s16, s17, s18, s19, s20, s21, s22, s23, s24, s25, s26, s27⟩ : Inn) p)] : Option (List PV)) = RR
 simp only [RF, VR, Nd, Vb, XB, std, xOf, PXb, PXc, PXn, PXm, Nat.reduceAdd, Int.reduceBEq, DI hN hs, SE, oj h hN hs, M3 hN h.bf]
 subst hres; simp only [I6, C3]
 cases hp : inR p s19.length with
 | false => rfl
 | true =>
  rw [vL (m := s24.length) hp]
  have hq : (!(iLe p (s24.length : Int)) || iIn (IntKind.i64.wrap (p - 1)) (s24.length : Int)) = true := by
   cases h1 : iLe p (s24.length : Int) with
   | false => rfl
   | true => rw [DT (by rw [vL hp]; exact h1) h.sb]; rfl
  rw [hq]
  cases Ax (⟨r0, r1, r2, r3, r4, r5, r6, r7, r8, r9, r10, r11, r12, r13⟩ : Rul) == 0 <;> rfl
theorem vf {N : Nat} {r1 r2 r3 r4 r5 r6 r7 r9 r10 r11 r12 : Int} {r8 : Bool} {r0 : ByteArray} {r13 : Rows} {s0 s1 s2 s3 s4 s5 s6 s7 s8 s9 s10 s11 s12 s13 s15 s21 s22 s23 s25 s26 s27 : Int} {s18 s20 : Bool} {s14 s16 s17 s19 s24 : Rows} {p : Int} (h : Fit s14 s16 s17 s19 s24) (hN : 2097152 < N) (hs : r0.size ≤ 1048576) : RQ N [.str r0, .int r1, .int r2, .int r3, .int r4, .int r5, .int r6, .int r7, .bool r8, .int r9, .int r10, .int r11, .int r12, .rows r13, .int s0, .int s1, .int s2, .int s3, .int s4, .int s5, .int s6, .int s7, .int s8, .int s9, .int s10, .int s11, .int s12, .int s13, .rows s14, .int s15, .rows s16, .rows s17, .bool s18, .rows s19, .bool s20, .int s21, .int s22, .int s23, .rows s24, .int s25, .int s26, .int s27, .int p] = some [.int (I6 (⟨r0, r1, r2, r3, r4, r5, r6, r7, r8, r9, r10, r11, r12, r13⟩ : Rul) (⟨s0, s1, s2, s3, s4, s5, s6, s7, s8, s9, s10, s11, s12, s13, s14, s15, s16, s17, s18, s19, s20, s21, s22, s23, s24, s25, s26, s27⟩ : Inn) p)] := by
 show Vt (std (Gf N) N) (xOf _) = _
 generalize hres : (some [.int (I6 (⟨r0, r1, r2, r3, r4, r5, r6, r7, r8, r9, r10, r11, r12, r13⟩ : Rul) (⟨s0, s1, s2, s3, s4, s5, s6, s7, s8, s9, s10, s11, s12, s13, s14, s15, s16, s17, s18, s19, s20, s21, s22, s23, s24, s25, s26, s27⟩ : Inn) p)] : Option (List PV)) = RR
 simp only [Vt, bH, XE, ZX, cp, ez, std, xOf, PXb, PXc, PXn, PXm, Nat.reduceAdd, Int.reduceBEq, Dl hN hs, U5, sq h hN hs, mT hN h.bf, Hh h.sb, tz]
 subst hres; simp only [I6]
 cases hp : inR p s19.length <;> cases Ax (⟨r0, r1, r2, r3, r4, r5, r6, r7, r8, r9, r10, r11, r12, r13⟩ : Rul) == 0 <;> cases p == s22 <;> cases p == s15 <;> rfl
def Tb (r : Rul) (s : Inn) (p : Int) : Inn × Int := (cond (I6 r s p == 0) { s with bowler := p } s, I6 r s p)
theorem qL {N : Nat} {r1 r2 r3 r4 r5 r6 r7 r9 r10 r11 r12 : Int} {r8 : Bool} {r0 : ByteArray} {r13 : Rows} {s0 s1 s2 s3 s4 s5 s6 s7 s8 s9 s10 s11 s12 s13 s15 s21 s22 s23 s25 s26 s27 : Int} {s18 s20 : Bool} {s14 s16 s17 s19 s24 : Rows} {p : Int} (h : Fit s14 s16 s17 s19 s24) (hN : 2097152 < N) (hs : r0.size ≤ 1048576) : J7 N [.str r0, .int r1, .int r2, .int r3, .int r4, .int r5, .int r6, .int r7, .bool r8, .int r9, .int r10, .int r11, .int r12, .rows r13, .int s0, .int s1, .int s2, .int s3, .int s4, .int s5, .int s6, .int s7, .int s8, .int s9, .int s10, .int s11, .int s12, .int s13, .rows s14, .int s15, .rows s16, .rows s17, .bool s18, .rows s19, .bool s20, .int s21, .int s22, .int s23, .rows s24, .int s25, .int s26, .int s27, .int p] = some (AX (Tb (⟨r0, r1, r2, r3, r4, r5, r6, r7, r8, r9, r10, r11, r12, r13⟩ : Rul) (⟨s0, s1, s2, s3, s4, s5, s6, s7, s8, s9, s10, s11, s12, s13, s14, s15, s16, s17, s18, s19, s20, s21, s22, s23, s24, s25, s26, s27⟩ : Inn) p)) := by
 show O3 (std (K7 N) N) (xOf _) = _
 generalize hres : (some (AX (Tb (⟨r0, r1, r2, r3, r4, r5, r6, r7, r8, r9, r10, r11, r12, r13⟩ : Rul) (⟨s0, s1, s2, s3, s4, s5, s6, s7, s8, s9, s10, s11, s12, s13, s14, s15, s16, s17, s18, s19, s20, s21, s22, s23, s24, s25, s26, s27⟩ : Inn) p)) : Option (List PV)) = RR
 simp only [O3, Wy, Wp, std, xOf, PXb, PXc, PXn, PXm, Nat.reduceAdd, Int.reduceBEq, Wl h, qr h hN hs]
 subst hres; simp only [Tb]
 cases I6 (⟨r0, r1, r2, r3, r4, r5, r6, r7, r8, r9, r10, r11, r12, r13⟩ : Rul) (⟨s0, s1, s2, s3, s4, s5, s6, s7, s8, s9, s10, s11, s12, s13, s14, s15, s16, s17, s18, s19, s20, s21, s22, s23, s24, s25, s26, s27⟩ : Inn) p == 0 <;> rfl
theorem su {N : Nat} {r1 r2 r3 r4 r5 r6 r7 r9 r10 r11 r12 : Int} {r8 : Bool} {r0 : ByteArray} {r13 : Rows} {s0 s1 s2 s3 s4 s5 s6 s7 s8 s9 s10 s11 s12 s13 s15 s21 s22 s23 s25 s26 s27 : Int} {s18 s20 : Bool} {s14 s16 s17 s19 s24 : Rows} {p : Int} (h : Fit s14 s16 s17 s19 s24) (hN : 2097152 < N) (hs : r0.size ≤ 1048576) : TC N [.str r0, .int r1, .int r2, .int r3, .int r4, .int r5, .int r6, .int r7, .bool r8, .int r9, .int r10, .int r11, .int r12, .rows r13, .int s0, .int s1, .int s2, .int s3, .int s4, .int s5, .int s6, .int s7, .int s8, .int s9, .int s10, .int s11, .int s12, .int s13, .rows s14, .int s15, .rows s16, .rows s17, .bool s18, .rows s19, .bool s20, .int s21, .int s22, .int s23, .rows s24, .int s25, .int s26, .int s27, .int p] = some (AX (Tb (⟨r0, r1, r2, r3, r4, r5, r6, r7, r8, r9, r10, r11, r12, r13⟩ : Rul) (⟨s0, s1, s2, s3, s4, s5, s6, s7, s8, s9, s10, s11, s12, s13, s14, s15, s16, s17, s18, s19, s20, s21, s22, s23, s24, s25, s26, s27⟩ : Inn) p)) := by
 show TS (std (O2 N) N) (xOf _) = _
 generalize hres : (some (AX (Tb (⟨r0, r1, r2, r3, r4, r5, r6, r7, r8, r9, r10, r11, r12, r13⟩ : Rul) (⟨s0, s1, s2, s3, s4, s5, s6, s7, s8, s9, s10, s11, s12, s13, s14, s15, s16, s17, s18, s19, s20, s21, s22, s23, s24, s25, s26, s27⟩ : Inn) p)) : Option (List PV)) = RR
 simp only [TS, Zi, bZ, std, xOf, PXb, PXc, PXn, PXm, Nat.reduceAdd, Int.reduceBEq, B0 h, vf h hN hs]
 subst hres; simp only [Tb]
 cases I6 (⟨r0, r1, r2, r3, r4, r5, r6, r7, r8, r9, r10, r11, r12, r13⟩ : Rul) (⟨s0, s1, s2, s3, s4, s5, s6, s7, s8, s9, s10, s11, s12, s13, s14, s15, s16, s17, s18, s19, s20, s21, s22, s23, s24, s25, s26, s27⟩ : Inn) p == 0 <;> rfl
def lU (x : Inn × Bool) : List PV := [.int x.1.side, .int x.1.target, .int x.1.overs, .int x.1.runs, .int x.1.wickets, .int x.1.wides, .int x.1.noballs, .int x.1.byes, .int x.1.legbyes, .int x.1.pens, .int x.1.complete, .int x.1.inover, .int x.1.striker, .int x.1.other, .rows x.1.batters, .int x.1.bowler, .rows x.1.bowlers, .rows x.1.before, .bool x.1.fresh, .rows x.1.bowled, .bool x.1.freehit, .int x.1.ballage, .int x.1.keeper, .int x.1.outside, .rows x.1.subs, .int x.1.rev1, .int x.1.rev2, .int x.1.ending, .bool x.2]
def inc (x : Int) : Int := IntKind.i64.wrap (x + 1)
def DS (r : Rul) (s : Inn) (counts : Bool) : Inn × Bool :=
  cond (!inR s.bowler s.bowled.length || !(Ax r == 0)) (s, false)
    (let L := cond (G4 s.bowlers s.bowlers.length s.bowler) s.bowlers (s.bowlers ++ [[.int s.bowler]])
     let o := cond counts (inc s.inover) s.inover
     let t : Inn := { s with bowlers := L, bowled := cond counts (J8 s.bowled s.bowler (inc (atI s.bowled (ix s.bowler) 0))) s.bowled, inover := o, ballage := cond counts (inc s.ballage) s.ballage }
     cond (iLt o r.balls) (t, false) ({ t with complete := inc s.complete, inover := 0, before := L, bowlers := [], bowler := 0 }, true))
theorem pf {N : Nat} {r1 r2 r3 r4 r5 r6 r7 r9 r10 r11 r12 : Int} {r8 : Bool} {r0 : ByteArray} {r13 : Rows} {s0 s1 s2 s3 s4 s5 s6 s7 s8 s9 s10 s11 s12 s13 s15 s21 s22 s23 s25 s26 s27 : Int} {s18 s20 : Bool} {s14 s16 s17 s19 s24 : Rows} {b : Bool} (h : Fit s14 s16 s17 s19 s24) (hw : s16.length ≤ 1048575) (hN : 2097152 < N) (hs : r0.size ≤ 1048576) : KI N [.str r0, .int r1, .int r2, .int r3, .int r4, .int r5, .int r6, .int r7, .bool r8, .int r9, .int r10, .int r11, .int r12, .rows r13, .int s0, .int s1, .int s2, .int s3, .int s4, .int s5, .int s6, .int s7, .int s8, .int s9, .int s10, .int s11, .int s12, .int s13, .rows s14, .int s15, .rows s16, .rows s17, .bool s18, .rows s19, .bool s20, .int s21, .int s22, .int s23, .rows s24, .int s25, .int s26, .int s27, .bool b] = some (lU (DS (⟨r0, r1, r2, r3, r4, r5, r6, r7, r8, r9, r10, r11, r12, r13⟩ : Rul) (⟨s0, s1, s2, s3, s4, s5, s6, s7, s8, s9, s10, s11, s12, s13, s14, s15, s16, s17, s18, s19, s20, s21, s22, s23, s24, s25, s26, s27⟩ : Inn) b)) := by
 show PF (std (E4 N) N) (xOf _) = _
 generalize hres : (some (lU (DS (⟨r0, r1, r2, r3, r4, r5, r6, r7, r8, r9, r10, r11, r12, r13⟩ : Rul) (⟨s0, s1, s2, s3, s4, s5, s6, s7, s8, s9, s10, s11, s12, s13, s14, s15, s16, s17, s18, s19, s20, s21, s22, s23, s24, s25, s26, s27⟩ : Inn) b)) : Option (List PV)) = RR
 have ha : (s16 ++ [[PV.int s15]]).length ≤ 1048576 := by simp; omega
 simp only [PF, UI, M2, Wi, U9, std, xOf, PXb, PXc, PXn, PXm, Nat.reduceAdd, Int.reduceBEq, Wl h, SE, DI hN hs, M3 hN h.bw', KO ha (show 8 ≤ 4096 by omega)]
 subst hres; simp only [DS]
 cases hp : inR s15 s19.length with
 | false => rfl
 | true =>
  rw [DT hp h.bd]
  cases Ax (⟨r0, r1, r2, r3, r4, r5, r6, r7, r8, r9, r10, r11, r12, r13⟩ : Rul) == 0 <;> try rfl
  cases G4 s16 s16.length s15 <;> cases b <;> simp only [PXb, PXc, PXn, PXm, Nat.reduceAdd, Int.reduceBEq, inc]
  all_goals first | (cases iLt s11 r4 <;> rfl) | (cases iLt (IntKind.i64.wrap (s11 + 1)) r4 <;> rfl)
theorem uQ {N : Nat} {r1 r2 r3 r4 r5 r6 r7 r9 r10 r11 r12 : Int} {r8 : Bool} {r0 : ByteArray} {r13 : Rows} {s0 s1 s2 s3 s4 s5 s6 s7 s8 s9 s10 s11 s12 s13 s15 s21 s22 s23 s25 s26 s27 : Int} {s18 s20 : Bool} {s14 s16 s17 s19 s24 : Rows} {b : Bool} (h : Fit s14 s16 s17 s19 s24) (hw : s16.length ≤ 1048575) (hN : 2097152 < N) (hs : r0.size ≤ 1048576) : Sy N [.str r0, .int r1, .int r2, .int r3, .int r4, .int r5, .int r6, .int r7, .bool r8, .int r9, .int r10, .int r11, .int r12, .rows r13, .int s0, .int s1, .int s2, .int s3, .int s4, .int s5, .int s6, .int s7, .int s8, .int s9, .int s10, .int s11, .int s12, .int s13, .rows s14, .int s15, .rows s16, .rows s17, .bool s18, .rows s19, .bool s20, .int s21, .int s22, .int s23, .rows s24, .int s25, .int s26, .int s27, .bool b] = some (lU (DS (⟨r0, r1, r2, r3, r4, r5, r6, r7, r8, r9, r10, r11, r12, r13⟩ : Rul) (⟨s0, s1, s2, s3, s4, s5, s6, s7, s8, s9, s10, s11, s12, s13, s14, s15, s16, s17, s18, s19, s20, s21, s22, s23, s24, s25, s26, s27⟩ : Inn) b)) := by
 show TQ (std (HO N) N) (xOf _) = _
 generalize hres : (some (lU (DS (⟨r0, r1, r2, r3, r4, r5, r6, r7, r8, r9, r10, r11, r12, r13⟩ : Rul) (⟨s0, s1, s2, s3, s4, s5, s6, s7, s8, s9, s10, s11, s12, s13, s14, s15, s16, s17, s18, s19, s20, s21, s22, s23, s24, s25, s26, s27⟩ : Inn) b)) : Option (List PV)) = RR
 have ha : (s16 ++ [[PV.int s15]]).length ≤ 1048576 := by simp; omega
 simp only [TQ, Yy, ZP, X6, eA, std, xOf, PXb, PXc, PXn, PXm, Nat.reduceAdd, Int.reduceBEq, B0 h, U5, Dl hN hs, mT hN h.bw', KO ha (show 8 ≤ 4096 by omega)]
 subst hres; simp only [DS]
 cases hp : inR s15 s19.length with
 | false => cases Ax (⟨r0, r1, r2, r3, r4, r5, r6, r7, r8, r9, r10, r11, r12, r13⟩ : Rul) == 0 <;> rfl
 | true =>
  rw [DT hp h.bd]
  cases Ax (⟨r0, r1, r2, r3, r4, r5, r6, r7, r8, r9, r10, r11, r12, r13⟩ : Rul) == 0 <;> try rfl
  cases G4 s16 s16.length s15 <;> cases b <;> simp only [PXb, PXc, PXn, PXm, Nat.reduceAdd, Int.reduceBEq, inc]
  all_goals first | (cases iLt s11 r4 <;> rfl) | (cases iLt (IntKind.i64.wrap (s11 + 1)) r4 <;> rfl)
def H6 (r : Rul) (s : Inn) : Inn × Int :=
 cond (!(Ax r == 0) || r.newball == 0 || iLt s.ballage (IntKind.i64.wrap (r.newball * r.balls))) (s, 22) ({ s with ballage := 0 }, 0)
theorem kw {N : Nat} {r1 r2 r3 r4 r5 r6 r7 r9 r10 r11 r12 : Int} {r8 : Bool} {r0 : ByteArray} {r13 : Rows} {s0 s1 s2 s3 s4 s5 s6 s7 s8 s9 s10 s11 s12 s13 s15 s21 s22 s23 s25 s26 s27 : Int} {s18 s20 : Bool} {s14 s16 s17 s19 s24 : Rows} (h : Fit s14 s16 s17 s19 s24) (hN : 2097152 < N) (hs : r0.size ≤ 1048576) : Fx N [.str r0, .int r1, .int r2, .int r3, .int r4, .int r5, .int r6, .int r7, .bool r8, .int r9, .int r10, .int r11, .int r12, .rows r13, .int s0, .int s1, .int s2, .int s3, .int s4, .int s5, .int s6, .int s7, .int s8, .int s9, .int s10, .int s11, .int s12, .int s13, .rows s14, .int s15, .rows s16, .rows s17, .bool s18, .rows s19, .bool s20, .int s21, .int s22, .int s23, .rows s24, .int s25, .int s26, .int s27] = some (AX (H6 (⟨r0, r1, r2, r3, r4, r5, r6, r7, r8, r9, r10, r11, r12, r13⟩ : Rul) (⟨s0, s1, s2, s3, s4, s5, s6, s7, s8, s9, s10, s11, s12, s13, s14, s15, s16, s17, s18, s19, s20, s21, s22, s23, s24, s25, s26, s27⟩ : Inn))) := by
 show JX (std (Gz N) N) (xOf _) = _
 generalize hres : (some (AX (H6 (⟨r0, r1, r2, r3, r4, r5, r6, r7, r8, r9, r10, r11, r12, r13⟩ : Rul) (⟨s0, s1, s2, s3, s4, s5, s6, s7, s8, s9, s10, s11, s12, s13, s14, s15, s16, s17, s18, s19, s20, s21, s22, s23, s24, s25, s26, s27⟩ : Inn))) : Option (List PV)) = RR
 simp only [JX, Rj, Tn, std, xOf, PXb, PXc, PXn, PXm, Nat.reduceAdd, Int.reduceBEq, Wl h, DI hN hs]
 subst hres; simp only [H6]
 cases (!(Ax (⟨r0, r1, r2, r3, r4, r5, r6, r7, r8, r9, r10, r11, r12, r13⟩ : Rul) == 0) || r9 == 0 || iLt s21 (IntKind.i64.wrap (r9 * r4))) <;> rfl
theorem ni {N : Nat} {r1 r2 r3 r4 r5 r6 r7 r9 r10 r11 r12 : Int} {r8 : Bool} {r0 : ByteArray} {r13 : Rows} {s0 s1 s2 s3 s4 s5 s6 s7 s8 s9 s10 s11 s12 s13 s15 s21 s22 s23 s25 s26 s27 : Int} {s18 s20 : Bool} {s14 s16 s17 s19 s24 : Rows} (h : Fit s14 s16 s17 s19 s24) (hN : 2097152 < N) (hs : r0.size ≤ 1048576) : Mg N [.str r0, .int r1, .int r2, .int r3, .int r4, .int r5, .int r6, .int r7, .bool r8, .int r9, .int r10, .int r11, .int r12, .rows r13, .int s0, .int s1, .int s2, .int s3, .int s4, .int s5, .int s6, .int s7, .int s8, .int s9, .int s10, .int s11, .int s12, .int s13, .rows s14, .int s15, .rows s16, .rows s17, .bool s18, .rows s19, .bool s20, .int s21, .int s22, .int s23, .rows s24, .int s25, .int s26, .int s27] = some (AX (H6 (⟨r0, r1, r2, r3, r4, r5, r6, r7, r8, r9, r10, r11, r12, r13⟩ : Rul) (⟨s0, s1, s2, s3, s4, s5, s6, s7, s8, s9, s10, s11, s12, s13, s14, s15, s16, s17, s18, s19, s20, s21, s22, s23, s24, s25, s26, s27⟩ : Inn))) := by
 show MM (std (JV N) N) (xOf _) = _
 generalize hres : (some (AX (H6 (⟨r0, r1, r2, r3, r4, r5, r6, r7, r8, r9, r10, r11, r12, r13⟩ : Rul) (⟨s0, s1, s2, s3, s4, s5, s6, s7, s8, s9, s10, s11, s12, s13, s14, s15, s16, s17, s18, s19, s20, s21, s22, s23, s24, s25, s26, s27⟩ : Inn))) : Option (List PV)) = RR
 simp only [MM, VJ, VP, std, xOf, PXb, PXc, PXn, PXm, Nat.reduceAdd, Int.reduceBEq, B0 h, Dl hN hs]
 subst hres; simp only [H6]
 cases (!(Ax (⟨r0, r1, r2, r3, r4, r5, r6, r7, r8, r9, r10, r11, r12, r13⟩ : Rul) == 0) || r9 == 0 || iLt s21 (IntKind.i64.wrap (r9 * r4))) <;> rfl
end Go.Px
end
