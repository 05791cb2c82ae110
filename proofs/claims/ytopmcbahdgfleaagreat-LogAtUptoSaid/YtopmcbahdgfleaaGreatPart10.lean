/- Part 10. -/
import Derived.Test.YtopmcbahdgfleaaGreatPart07
import Derived.Test.YtopmcbahdgfleaaGreatPart09
set_option linter.unusedVariables false
set_option linter.unusedSimpArgs false
section
namespace Go.Px
set_option maxRecDepth 100000
theorem GM {N : Nat} {s0 s1 s2 s3 s4 s5 s6 s7 s8 s9 s10 s11 s12 s13 s15 s21 s22 s23 s25 s26 s27 : Int} {s18 s20 : Bool} {s14 s16 s17 s19 s24 : Rows} (h : Fit s14 s16 s17 s19 s24) : Ar N [.int s0, .int s1, .int s2, .int s3, .int s4, .int s5, .int s6, .int s7, .int s8, .int s9, .int s10, .int s11, .int s12, .int s13, .rows s14, .int s15, .rows s16, .rows s17, .bool s18, .rows s19, .bool s20, .int s21, .int s22, .int s23, .rows s24, .int s25, .int s26, .int s27] = some [.int s0, .int s1, .int s2, .int s3, .int s4, .int s5, .int s6, .int s7, .int s8, .int s9, .int s10, .int s11, .int s12, .int s13, .rows s14, .int s15, .rows s16, .rows s17, .bool s18, .rows s19, .bool s20, .int s21, .int s22, .int s23, .rows s24, .int s25, .int s26, .int s27] := by
 show NY (std (Gt N) N) (xOf _) = _
 simp only [NY, Lg, OH, N1, std, xOf, PXb, PXc, PXn, PXm, Nat.reduceAdd, Int.reduceBEq, AU, Ae, Aa, BR h.bt (show 1 ≤ 4096 by omega), BR h.bw' (show 8 ≤ 4096 by omega), BR h.bf (show 8 ≤ 4096 by omega), BR h.bd (show 8 ≤ 4096 by omega), BR h.sb (show 1 ≤ 4096 by omega)]
theorem Bs {N : Nat} {s0 s1 s2 s3 s4 s5 s6 s7 s8 s9 s10 s11 s12 s13 s15 s21 s22 s23 s25 s26 s27 : Int} {s18 s20 : Bool} {s14 s16 s17 s19 s24 : Rows} (h : Fit s14 s16 s17 s19 s24) : AM N [.int s0, .int s1, .int s2, .int s3, .int s4, .int s5, .int s6, .int s7, .int s8, .int s9, .int s10, .int s11, .int s12, .int s13, .rows s14, .int s15, .rows s16, .rows s17, .bool s18, .rows s19, .bool s20, .int s21, .int s22, .int s23, .rows s24, .int s25, .int s26, .int s27] = some [.int s0, .int s1, .int s2, .int s3, .int s4, .int s5, .int s6, .int s7, .int s8, .int s9, .int s10, .int s11, .int s12, .int s13, .rows s14, .int s15, .rows s16, .rows s17, .bool s18, .rows s19, .bool s20, .int s21, .int s22, .int s23, .rows s24, .int s25, .int s26, .int s27] := by
 show PF (std (YB N) N) (xOf _) = _
 simp only [PF, std, xOf, PXb, PXc, PXn, PXm, Nat.reduceAdd, Int.reduceBEq, JD h.bt (show 1 ≤ 4096 by omega), JD h.bw' (show 8 ≤ 4096 by omega), JD h.bf (show 8 ≤ 4096 by omega), JD h.bd (show 8 ≤ 4096 by omega), JD h.sb (show 1 ≤ 4096 by omega)]
theorem GT {N : Nat} {s0 s1 s2 s3 s4 s5 s6 s7 s8 s9 s10 s11 s12 s13 s15 s21 s22 s23 s25 s26 s27 : Int} {s18 s20 : Bool} {s14 s16 s17 s19 s24 : Rows} {p : Int}  : Au N [.int s0, .int s1, .int s2, .int s3, .int s4, .int s5, .int s6, .int s7, .int s8, .int s9, .int s10, .int s11, .int s12, .int s13, .rows s14, .int s15, .rows s16, .rows s17, .bool s18, .rows s19, .bool s20, .int s21, .int s22, .int s23, .rows s24, .int s25, .int s26, .int s27, .int p] = some [.bool (inR p s14.length)] := by
 show Jh (std (SC N) N) (xOf _) = _
 simp only [Jh, std, xOf, PXb, PXc, PXn, PXm, Nat.reduceAdd, Int.reduceBEq]
 rfl
theorem Nx {N : Nat} {s0 s1 s2 s3 s4 s5 s6 s7 s8 s9 s10 s11 s12 s13 s15 s21 s22 s23 s25 s26 s27 : Int} {s18 s20 : Bool} {s14 s16 s17 s19 s24 : Rows} {p : Int}  : BP N [.int s0, .int s1, .int s2, .int s3, .int s4, .int s5, .int s6, .int s7, .int s8, .int s9, .int s10, .int s11, .int s12, .int s13, .rows s14, .int s15, .rows s16, .rows s17, .bool s18, .rows s19, .bool s20, .int s21, .int s22, .int s23, .rows s24, .int s25, .int s26, .int s27, .int p] = some [.bool (inR p s14.length)] := by
 show M5 (std (Vs N) N) (xOf _) = _
 simp only [M5, std, xOf, PXb, PXc, PXn, PXm, Nat.reduceAdd, Int.reduceBEq]
 rfl
def CN (s : Inn) (d : Del) : Inn :=
  let odd := !(d.runs.tmod 2 == 0) != d.crossed
  let t : Inn := cond odd { s with striker := s.other, other := s.striker } s
  let k : Bool := d.how == 0
  cond (!k && (d.victim == 1 && !(s.striker == 0)))
    { t with striker := cond odd t.striker 0, other := cond odd 0 t.other, batters := cond (inR s.striker s.batters.length) (I1 s.batters s.striker 2) s.batters, wickets := IntKind.i64.wrap (s.wickets + 1) }
    (cond (!k && (d.victim == 2 && !(s.other == 0)))
      { t with striker := cond odd 0 t.striker, other := cond odd t.other 0, batters := cond (inR s.other s.batters.length) (I1 s.batters s.other 2) s.batters, wickets := IntKind.i64.wrap (s.wickets + 1) }
      t)
theorem kV {N : Nat} {s0 s1 s2 s3 s4 s5 s6 s7 s8 s9 s10 s11 s12 s13 s15 s21 s22 s23 s25 s26 s27 : Int} {s18 s20 : Bool} {s14 s16 s17 s19 s24 : Rows} {d0 d1 d2 d3 d4 d6 d7 d8 d9 d11 : Int} {d5 d10 : Bool} (h : Fit s14 s16 s17 s19 s24) : JG N [.int s0, .int s1, .int s2, .int s3, .int s4, .int s5, .int s6, .int s7, .int s8, .int s9, .int s10, .int s11, .int s12, .int s13, .rows s14, .int s15, .rows s16, .rows s17, .bool s18, .rows s19, .bool s20, .int s21, .int s22, .int s23, .rows s24, .int s25, .int s26, .int s27, .int d0, .int d1, .int d2, .int d3, .int d4, .bool d5, .int d6, .int d7, .int d8, .int d9, .bool d10, .int d11] = some (CN (⟨s0, s1, s2, s3, s4, s5, s6, s7, s8, s9, s10, s11, s12, s13, s14, s15, s16, s17, s18, s19, s20, s21, s22, s23, s24, s25, s26, s27⟩ : Inn) (⟨d0, d1, d2, d3, d4, d5, d6, d7, d8, d9, d10, d11⟩ : Del)).ls := by
 show Nm (std (KE N) N) (xOf _) = _
 simp only [Nm, Td, Ry, std, xOf, PXb, PXc, PXn, PXm, Nat.reduceAdd, Int.reduceBEq, GM h, GT, oi h.bt]
 unfold CN
 cases d5 <;> cases d2.tmod 2 == 0 <;> cases d6 == 0 <;> cases d7 == 1 <;> cases d7 == 2 <;> cases s12 == 0 <;> cases s13 == 0 <;> rfl
def bC (s : Inn) : Inn := { s with striker := s.other, other := s.striker }
theorem fp {N : Nat} {s0 s1 s2 s3 s4 s5 s6 s7 s8 s9 s10 s11 s12 s13 s15 s21 s22 s23 s25 s26 s27 : Int} {s18 s20 : Bool} {s14 s16 s17 s19 s24 : Rows} (h : Fit s14 s16 s17 s19 s24) : Fr N [.int s0, .int s1, .int s2, .int s3, .int s4, .int s5, .int s6, .int s7, .int s8, .int s9, .int s10, .int s11, .int s12, .int s13, .rows s14, .int s15, .rows s16, .rows s17, .bool s18, .rows s19, .bool s20, .int s21, .int s22, .int s23, .rows s24, .int s25, .int s26, .int s27] = some (bC (⟨s0, s1, s2, s3, s4, s5, s6, s7, s8, s9, s10, s11, s12, s13, s14, s15, s16, s17, s18, s19, s20, s21, s22, s23, s24, s25, s26, s27⟩ : Inn)).ls := by
 show Ib (std (KN N) N) (xOf _) = _
 simp only [Ib, Qb, std, xOf, PXb, PXc, PXn, PXm, Nat.reduceAdd, Int.reduceBEq, GM h]
 rfl
theorem ZL {N : Nat} {s0 s1 s2 s3 s4 s5 s6 s7 s8 s9 s10 s11 s12 s13 s15 s21 s22 s23 s25 s26 s27 : Int} {s18 s20 : Bool} {s14 s16 s17 s19 s24 : Rows} (h : Fit s14 s16 s17 s19 s24) : Ea N [.int s0, .int s1, .int s2, .int s3, .int s4, .int s5, .int s6, .int s7, .int s8, .int s9, .int s10, .int s11, .int s12, .int s13, .rows s14, .int s15, .rows s16, .rows s17, .bool s18, .rows s19, .bool s20, .int s21, .int s22, .int s23, .rows s24, .int s25, .int s26, .int s27] = some (bC (⟨s0, s1, s2, s3, s4, s5, s6, s7, s8, s9, s10, s11, s12, s13, s14, s15, s16, s17, s18, s19, s20, s21, s22, s23, s24, s25, s26, s27⟩ : Inn)).ls := by
 show Mo (std (Ot N) N) (xOf _) = _
 simp only [Mo, VU, std, xOf, PXb, PXc, PXn, PXm, Nat.reduceAdd, Int.reduceBEq, Bs h]
 rfl
theorem q0 {N : Nat} {s0 s1 s2 s3 s4 s5 s6 s7 s8 s9 s10 s11 s12 s13 s15 s21 s22 s23 s25 s26 s27 : Int} {s18 s20 : Bool} {s14 s16 s17 s19 s24 : Rows} {d0 d1 d2 d3 d4 d6 d7 d8 d9 d11 : Int} {d5 d10 : Bool} (h : Fit s14 s16 s17 s19 s24) : UA N [.int s0, .int s1, .int s2, .int s3, .int s4, .int s5, .int s6, .int s7, .int s8, .int s9, .int s10, .int s11, .int s12, .int s13, .rows s14, .int s15, .rows s16, .rows s17, .bool s18, .rows s19, .bool s20, .int s21, .int s22, .int s23, .rows s24, .int s25, .int s26, .int s27, .int d0, .int d1, .int d2, .int d3, .int d4, .bool d5, .int d6, .int d7, .int d8, .int d9, .bool d10, .int d11] = some (CN (⟨s0, s1, s2, s3, s4, s5, s6, s7, s8, s9, s10, s11, s12, s13, s14, s15, s16, s17, s18, s19, s20, s21, s22, s23, s24, s25, s26, s27⟩ : Inn) (⟨d0, d1, d2, d3, d4, d5, d6, d7, d8, d9, d10, d11⟩ : Del)).ls := by
 show Tu (std (Ke N) N) (xOf _) = _
 simp only [Tu, Yx, Wc, Wq, std, xOf, PXb, PXc, PXn, PXm, Nat.reduceAdd, Int.reduceBEq, Bs h, Nx, oi h.bt, ZL h, bC, CN]
 cases h71 : d7 == 1
 ·cases d5 <;> cases d2.tmod 2 == 0 <;> cases d6 == 0 <;> cases d7 == 2 <;> cases s12 == 0 <;> cases s13 == 0 <;> rfl
 ·rw [gr h71]
  cases d5 <;> cases d2.tmod 2 == 0 <;> cases d6 == 0 <;> cases s12 == 0 <;> rfl
theorem da {N : Nat} {v : Int}  : Ci N [.int v] = some [.bool (!(v == 0))] := by
 show Lt (std (QF N) N) (xOf _) = _
 rfl
theorem bL {N : Nat} {v : Int}  : Dv N [.int v] = some [.bool (!(v == 0))] := by
 show KP (std (OV N) N) (xOf _) = _
 rfl
theorem Vw {N : Nat} {s0 s1 s2 s3 s4 s5 s6 s7 s8 s9 s10 s11 s12 s13 s15 s21 s22 s23 s25 s26 s27 : Int} {s18 s20 : Bool} {s14 s16 s17 s19 s24 : Rows} (h : s14.length ≤ 1048576) (hN : 2097152 < N) : Bo N [.int s0, .int s1, .int s2, .int s3, .int s4, .int s5, .int s6, .int s7, .int s8, .int s9, .int s10, .int s11, .int s12, .int s13, .rows s14, .int s15, .rows s16, .rows s17, .bool s18, .rows s19, .bool s20, .int s21, .int s22, .int s23, .rows s24, .int s25, .int s26, .int s27] = some [.bool (CK s14)] := by
 show EK (std (Eb N) N) (xOf _) = _
 simp only [EK, F2, std, xOf, PXb, PXc, PXn, AB]
 rw [show CK s14 = iLe 0 (Ql (fun i => !(atI s14 i 0 == 0)) s14.length) from (Jo _ _).symm]
 rw [Option.bind_assoc]
 refine AN (CO (len := s14.length) (Fx fun i => !(atI s14 i 0 == 0)) ?_ ?_ s14.length 0 N (by omega) (by omega)) ?_
 ·intro self
  simp only [PXb, PXc, PXn, AB, Ao]
 ·intro i self hi
  simp only [PXb, PXc, PXn, AB, AR (show i ≤ 1099511627776 by omega), Ai hi, AQ hi, Fx, BF, F2, da]
  cases atI s14 i 0 == 0 <;> rfl
 ·unfold Ql
  cases B4 (Fx fun i => !(atI s14 i 0 == 0)) s14.length 0 <;> rfl
theorem fm {N : Nat} {s0 s1 s2 s3 s4 s5 s6 s7 s8 s9 s10 s11 s12 s13 s15 s21 s22 s23 s25 s26 s27 : Int} {s18 s20 : Bool} {s14 s16 s17 s19 s24 : Rows} (h : s14.length ≤ 1048576) (hN : 2097152 < N) : Fa N [.int s0, .int s1, .int s2, .int s3, .int s4, .int s5, .int s6, .int s7, .int s8, .int s9, .int s10, .int s11, .int s12, .int s13, .rows s14, .int s15, .rows s16, .rows s17, .bool s18, .rows s19, .bool s20, .int s21, .int s22, .int s23, .rows s24, .int s25, .int s26, .int s27] = some [.bool (CK s14)] := by
 show Ik (std (KI N) N) (xOf _) = _
 simp only [Ik, E2, std, xOf, PXb, PXc, PXn, AB]
 rw [show CK s14 = iLe 0 (Ql (fun i => !(atI s14 i 0 == 0)) s14.length) from (Jo _ _).symm]
 rw [Option.bind_assoc]
 refine AN (CO (len := s14.length) (Fx fun i => !(atI s14 i 0 == 0)) ?_ ?_ s14.length 0 N (by omega) (by omega)) ?_
 ·intro self
  simp only [PXb, PXc, PXn, AB, Ao]
 ·intro i self hi
  simp only [PXb, PXc, PXn, AB, AR (show i ≤ 1099511627776 by omega), Ai hi, AQ hi, Fx, BF, E2, bL]
  cases atI s14 i 0 == 0 <;> rfl
 ·unfold Ql
  cases B4 (Fx fun i => !(atI s14 i 0 == 0)) s14.length 0 <;> rfl
theorem U0 {N : Nat} {s0 s1 s2 s3 s4 s5 s6 s7 s8 s9 s10 s11 s12 s13 s15 s21 s22 s23 s25 s26 s27 : Int} {s18 s20 : Bool} {s14 s16 s17 s19 s24 : Rows} (h : s14.length ≤ 1048576) (hN : 2097152 < N) : BS N [.int s0, .int s1, .int s2, .int s3, .int s4, .int s5, .int s6, .int s7, .int s8, .int s9, .int s10, .int s11, .int s12, .int s13, .rows s14, .int s15, .rows s16, .rows s17, .bool s18, .rows s19, .bool s20, .int s21, .int s22, .int s23, .rows s24, .int s25, .int s26, .int s27] = some [.bool (CK s14)] := by
 show IC (std (Qa N) N) (xOf _) = _
 simp only [IC, std, xOf, PXb, PXc, PXn, AB]
 refine AN (Bf (len := s14.length) (fun i => !(atI s14 i 0 == 0)) [.bool true] ?_ ?_ N (by omega)) ?_
 ·intro self
  simp only [PXb, PXc, PXn, AB, Ao]
 ·intro i self hi
  simp only [PXb, PXc, PXn, AB, AR (show i ≤ 1099511627776 by omega), Ai hi, AQ hi, BF]
 ·unfold CK
  cases Aj (fun i => !(atI s14 i 0 == 0)) s14.length 0 <;> rfl
theorem UP {N : Nat} {s0 s1 s2 s3 s4 s5 s6 s7 s8 s9 s10 s11 s12 s13 s15 s21 s22 s23 s25 s26 s27 : Int} {s18 s20 : Bool} {s14 s16 s17 s19 s24 : Rows} (h : s14.length ≤ 1048576) (hN : 2097152 < N) : BA N [.int s0, .int s1, .int s2, .int s3, .int s4, .int s5, .int s6, .int s7, .int s8, .int s9, .int s10, .int s11, .int s12, .int s13, .rows s14, .int s15, .rows s16, .rows s17, .bool s18, .rows s19, .bool s20, .int s21, .int s22, .int s23, .rows s24, .int s25, .int s26, .int s27] = some [.bool (EU s14 s12 s13)] := by
 show Dm (std (D5 N) N) (xOf _) = _
 simp only [Dm, Om, std, xOf, PXb, PXc, PXn, PXm, Nat.reduceAdd, Int.reduceBEq, Vw h hN]
 rfl
theorem Y8 {N : Nat} {s0 s1 s2 s3 s4 s5 s6 s7 s8 s9 s10 s11 s12 s13 s15 s21 s22 s23 s25 s26 s27 : Int} {s18 s20 : Bool} {s14 s16 s17 s19 s24 : Rows} (h : s14.length ≤ 1048576) (hN : 2097152 < N) : CE N [.int s0, .int s1, .int s2, .int s3, .int s4, .int s5, .int s6, .int s7, .int s8, .int s9, .int s10, .int s11, .int s12, .int s13, .rows s14, .int s15, .rows s16, .rows s17, .bool s18, .rows s19, .bool s20, .int s21, .int s22, .int s23, .rows s24, .int s25, .int s26, .int s27] = some [.bool (EU s14 s12 s13)] := by
 show GL (std (Gi N) N) (xOf _) = _
 simp only [GL, U2, std, xOf, PXb, PXc, PXn, PXm, Nat.reduceAdd, Int.reduceBEq, U0 h hN]
 rfl
theorem jt {N : Nat} {s0 s1 s2 s3 s4 s5 s6 s7 s8 s9 s10 s11 s12 s13 s15 s21 s22 s23 s25 s26 s27 : Int} {s18 s20 : Bool} {s14 s16 s17 s19 s24 : Rows} (h : s14.length ≤ 1048576) (hN : 2097152 < N) : Cf N [.int s0, .int s1, .int s2, .int s3, .int s4, .int s5, .int s6, .int s7, .int s8, .int s9, .int s10, .int s11, .int s12, .int s13, .rows s14, .int s15, .rows s16, .rows s17, .bool s18, .rows s19, .bool s20, .int s21, .int s22, .int s23, .rows s24, .int s25, .int s26, .int s27] = some [.rows (Bm s14 s14.length)] := by
 show E8 (std (Nc N) N) (xOf _) = _
 simp only [E8, std, xOf, PXb, PXc, PXn, AB]
 refine AN (Dq (len := s14.length) (fun i => [.rows (Bm s14 i), .int (i : Int)]) [.rows (Bm s14 s14.length)] ?_ ?_ N (by omega)) rfl
 ·intro self
  simp only [PXb, PXc, PXn, AB, Ao]
 ·intro i self hi
  have h2 : (Bm s14 i ++ [[PV.int ((i : Int) + 1)]]).length ≤ 4194304 := by have := Sp s14 i; simp; omega
  simp only [PXb, PXc, PXn, AB, AR (show i ≤ 1099511627776 by omega), Ai hi, AQ hi, BF, Bm, Hd h2 (show 8 ≤ 4096 by omega)]
  cases (atI s14 i 0 == 0 || atI s14 i 0 == 3) <;> rfl
theorem o0 {N : Nat} {s0 s1 s2 s3 s4 s5 s6 s7 s8 s9 s10 s11 s12 s13 s15 s21 s22 s23 s25 s26 s27 : Int} {s18 s20 : Bool} {s14 s16 s17 s19 s24 : Rows} (h : s14.length ≤ 1048576) (hN : 2097152 < N) : EA N [.int s0, .int s1, .int s2, .int s3, .int s4, .int s5, .int s6, .int s7, .int s8, .int s9, .int s10, .int s11, .int s12, .int s13, .rows s14, .int s15, .rows s16, .rows s17, .bool s18, .rows s19, .bool s20, .int s21, .int s22, .int s23, .rows s24, .int s25, .int s26, .int s27] = some [.rows (Bm s14 s14.length)] := by
 show Ji (std (SY N) N) (xOf _) = _
 simp only [Ji, std, xOf, PXb, PXc, PXn, AB]
 refine AN (Dq (len := s14.length) (fun i => [.rows (Bm s14 i), .int (i : Int)]) [.rows (Bm s14 s14.length)] ?_ ?_ N (by omega)) rfl
 ·intro self
  simp only [PXb, PXc, PXn, AB, Ao]
 ·intro i self hi
  have h2 : (Bm s14 i ++ [[PV.int ((i : Int) + 1)]]).length ≤ 4194304 := by have := Sp s14 i; simp; omega
  simp only [PXb, PXc, PXn, AB, AR (show i ≤ 1099511627776 by omega), Ai hi, AQ hi, BF, Bm, Hd h2 (show 8 ≤ 4096 by omega)]
  cases (atI s14 i 0 == 0 || atI s14 i 0 == 3) <;> rfl
def R4 (s : Inn) (p q : Int) : Inn × Int :=
  cond (CK s.batters) (s, 1) (cond (!inR p s.batters.length || !inR q s.batters.length) (s, 3) (cond (p == q) (s, 4)
    ({ s with batters := I1 (I1 s.batters p 1) q 1, striker := p, other := q }, 0)))
theorem j5 {N : Nat} {s0 s1 s2 s3 s4 s5 s6 s7 s8 s9 s10 s11 s12 s13 s15 s21 s22 s23 s25 s26 s27 : Int} {s18 s20 : Bool} {s14 s16 s17 s19 s24 : Rows} {p : Int} {q : Int} (h : Fit s14 s16 s17 s19 s24) (hN : 2097152 < N) : IA N [.int s0, .int s1, .int s2, .int s3, .int s4, .int s5, .int s6, .int s7, .int s8, .int s9, .int s10, .int s11, .int s12, .int s13, .rows s14, .int s15, .rows s16, .rows s17, .bool s18, .rows s19, .bool s20, .int s21, .int s22, .int s23, .rows s24, .int s25, .int s26, .int s27, .int p, .int q] = some (AW (R4 (⟨s0, s1, s2, s3, s4, s5, s6, s7, s8, s9, s10, s11, s12, s13, s14, s15, s16, s17, s18, s19, s20, s21, s22, s23, s24, s25, s26, s27⟩ : Inn) p q)) := by
 show LX (std (FV N) N) (xOf _) = _
 generalize hres : (some (AW (R4 (⟨s0, s1, s2, s3, s4, s5, s6, s7, s8, s9, s10, s11, s12, s13, s14, s15, s16, s17, s18, s19, s20, s21, s22, s23, s24, s25, s26, s27⟩ : Inn) p q)) : Option (List PV)) = RR
 simp only [LX, Qd, TD, Qu, std, xOf, PXb, PXc, PXn, PXm, Nat.reduceAdd, Int.reduceBEq, GM h, Vw h.bt hN, GT]
 subst hres; simp only [R4]
 cases CK s14 <;> try rfl
 cases hp : inR p s14.length <;> cases hq : inR q s14.length <;> try rfl
 rw [C8 hp h.bt, C8 hq h.bt]
 cases p == q <;> rfl
theorem pp {N : Nat} {s0 s1 s2 s3 s4 s5 s6 s7 s8 s9 s10 s11 s12 s13 s15 s21 s22 s23 s25 s26 s27 : Int} {s18 s20 : Bool} {s14 s16 s17 s19 s24 : Rows} {p : Int} {q : Int} (h : Fit s14 s16 s17 s19 s24) (hN : 2097152 < N) : Rk N [.int s0, .int s1, .int s2, .int s3, .int s4, .int s5, .int s6, .int s7, .int s8, .int s9, .int s10, .int s11, .int s12, .int s13, .rows s14, .int s15, .rows s16, .rows s17, .bool s18, .rows s19, .bool s20, .int s21, .int s22, .int s23, .rows s24, .int s25, .int s26, .int s27, .int p, .int q] = some (AW (R4 (⟨s0, s1, s2, s3, s4, s5, s6, s7, s8, s9, s10, s11, s12, s13, s14, s15, s16, s17, s18, s19, s20, s21, s22, s23, s24, s25, s26, s27⟩ : Inn) p q)) := by
 show Rn (std (JI N) N) (xOf _) = _
 generalize hres : (some (AW (R4 (⟨s0, s1, s2, s3, s4, s5, s6, s7, s8, s9, s10, s11, s12, s13, s14, s15, s16, s17, s18, s19, s20, s21, s22, s23, s24, s25, s26, s27⟩ : Inn) p q)) : Option (List PV)) = RR
 simp only [Rn, Xl, Xs, Wa, std, xOf, PXb, PXc, PXn, PXm, Nat.reduceAdd, Int.reduceBEq, Bs h, U0 h.bt hN, Nx]
 subst hres; simp only [R4]
 cases CK s14 <;> try rfl
 cases hp : inR p s14.length <;> cases hq : inR q s14.length <;> try rfl
 rw [C8 hp h.bt, C8 hq h.bt]
 cases p == q <;> rfl
def KO (s : Inn) (p : Int) : Int :=
 cond (!inR p s.batters.length) 3 (cond (!EU s.batters s.striker s.other || atI s.batters (ix p) 0 == 1) 4 (cond (atI s.batters (ix p) 0 == 2) 5 0))
theorem ZT {N : Nat} {s0 s1 s2 s3 s4 s5 s6 s7 s8 s9 s10 s11 s12 s13 s15 s21 s22 s23 s25 s26 s27 : Int} {s18 s20 : Bool} {s14 s16 s17 s19 s24 : Rows} {p : Int} (h : s14.length ≤ 1048576) (hN : 2097152 < N) : DS N [.int s0, .int s1, .int s2, .int s3, .int s4, .int s5, .int s6, .int s7, .int s8, .int s9, .int s10, .int s11, .int s12, .int s13, .rows s14, .int s15, .rows s16, .rows s17, .bool s18, .rows s19, .bool s20, .int s21, .int s22, .int s23, .rows s24, .int s25, .int s26, .int s27, .int p] = some [.int (KO (⟨s0, s1, s2, s3, s4, s5, s6, s7, s8, s9, s10, s11, s12, s13, s14, s15, s16, s17, s18, s19, s20, s21, s22, s23, s24, s25, s26, s27⟩ : Inn) p)] := by
 show Mj (std (Jt N) N) (xOf _) = _
 generalize hres : (some [.int (KO (⟨s0, s1, s2, s3, s4, s5, s6, s7, s8, s9, s10, s11, s12, s13, s14, s15, s16, s17, s18, s19, s20, s21, s22, s23, s24, s25, s26, s27⟩ : Inn) p)] : Option (List PV)) = RR
 simp only [Mj, Qi, R1, std, xOf, PXb, PXc, PXn, PXm, Nat.reduceAdd, Int.reduceBEq, GT, UP h hN]
 subst hres; simp only [KO]
 cases hp : inR p s14.length <;> try rfl
 rw [C8 hp h]
 cases EU s14 s12 s13 <;> try rfl
 simp only [PXb, PXc, PXn, PXm, Nat.reduceAdd, Int.reduceBEq, atI, ix]
theorem cG {N : Nat} {s0 s1 s2 s3 s4 s5 s6 s7 s8 s9 s10 s11 s12 s13 s15 s21 s22 s23 s25 s26 s27 : Int} {s18 s20 : Bool} {s14 s16 s17 s19 s24 : Rows} {p : Int} (h : s14.length ≤ 1048576) (hN : 2097152 < N) : EB N [.int s0, .int s1, .int s2, .int s3, .int s4, .int s5, .int s6, .int s7, .int s8, .int s9, .int s10, .int s11, .int s12, .int s13, .rows s14, .int s15, .rows s16, .rows s17, .bool s18, .rows s19, .bool s20, .int s21, .int s22, .int s23, .rows s24, .int s25, .int s26, .int s27, .int p] = some [.int (KO (⟨s0, s1, s2, s3, s4, s5, s6, s7, s8, s9, s10, s11, s12, s13, s14, s15, s16, s17, s18, s19, s20, s21, s22, s23, s24, s25, s26, s27⟩ : Inn) p)] := by
 show Pk (std (LZ N) N) (xOf _) = _
 generalize hres : (some [.int (KO (⟨s0, s1, s2, s3, s4, s5, s6, s7, s8, s9, s10, s11, s12, s13, s14, s15, s16, s17, s18, s19, s20, s21, s22, s23, s24, s25, s26, s27⟩ : Inn) p)] : Option (List PV)) = RR
 simp only [Pk, VE, Uy, std, xOf, PXb, PXc, PXn, PXm, Nat.reduceAdd, Int.reduceBEq, Nx, Y8 h hN]
 subst hres; simp only [KO]
 cases hp : inR p s14.length <;> try rfl
 rw [C8 hp h]
 cases EU s14 s12 s13 <;> try rfl
 simp only [PXb, PXc, PXn, PXm, Nat.reduceAdd, Int.reduceBEq, atI, ix]
theorem UF {s : Inn} {p : Int} (h : (KO s p == 0) = true) : inR p s.batters.length = true := by
 unfold KO at h
 cases hp : inR p s.batters.length with
 | true => rfl
 | false => rw [hp] at h; cases h
def Mx (s : Inn) (p : Int) : Inn × Int :=
 cond (KO s p == 0) ({ s with batters := I1 s.batters p 1, striker := cond (s.striker == 0) p s.striker, other := cond (s.striker == 0) s.other p }, 0) (s, KO s p)
def HF (s : Inn) (p : Int) : Inn × Int :=
 cond (KO s p == 0) ({ s with batters := I1 s.batters p 2, wickets := IntKind.i64.wrap (s.wickets + 1) }, 0) (s, KO s p)
theorem iJ {N : Nat} {s0 s1 s2 s3 s4 s5 s6 s7 s8 s9 s10 s11 s12 s13 s15 s21 s22 s23 s25 s26 s27 : Int} {s18 s20 : Bool} {s14 s16 s17 s19 s24 : Rows} {p : Int} (h : Fit s14 s16 s17 s19 s24) (hN : 2097152 < N) : Gr N [.int s0, .int s1, .int s2, .int s3, .int s4, .int s5, .int s6, .int s7, .int s8, .int s9, .int s10, .int s11, .int s12, .int s13, .rows s14, .int s15, .rows s16, .rows s17, .bool s18, .rows s19, .bool s20, .int s21, .int s22, .int s23, .rows s24, .int s25, .int s26, .int s27, .int p] = some (AW (Mx (⟨s0, s1, s2, s3, s4, s5, s6, s7, s8, s9, s10, s11, s12, s13, s14, s15, s16, s17, s18, s19, s20, s21, s22, s23, s24, s25, s26, s27⟩ : Inn) p)) := by
 show J0 (std (Hb N) N) (xOf _) = _
 generalize hres : (some (AW (Mx (⟨s0, s1, s2, s3, s4, s5, s6, s7, s8, s9, s10, s11, s12, s13, s14, s15, s16, s17, s18, s19, s20, s21, s22, s23, s24, s25, s26, s27⟩ : Inn) p)) : Option (List PV)) = RR
 simp only [J0, R2, RO, std, xOf, PXb, PXc, PXn, PXm, Nat.reduceAdd, Int.reduceBEq, GM h, ZT h.bt hN]
 subst hres; simp only [Mx]
 cases hm : KO (⟨s0, s1, s2, s3, s4, s5, s6, s7, s8, s9, s10, s11, s12, s13, s14, s15, s16, s17, s18, s19, s20, s21, s22, s23, s24, s25, s26, s27⟩ : Inn) p == 0 <;> try rfl
 rw [C8 (UF hm) h.bt]
 cases s12 == 0 <;> rfl
theorem nF {N : Nat} {s0 s1 s2 s3 s4 s5 s6 s7 s8 s9 s10 s11 s12 s13 s15 s21 s22 s23 s25 s26 s27 : Int} {s18 s20 : Bool} {s14 s16 s17 s19 s24 : Rows} {p : Int} (h : Fit s14 s16 s17 s19 s24) (hN : 2097152 < N) : PQ N [.int s0, .int s1, .int s2, .int s3, .int s4, .int s5, .int s6, .int s7, .int s8, .int s9, .int s10, .int s11, .int s12, .int s13, .rows s14, .int s15, .rows s16, .rows s17, .bool s18, .rows s19, .bool s20, .int s21, .int s22, .int s23, .rows s24, .int s25, .int s26, .int s27, .int p] = some (AW (Mx (⟨s0, s1, s2, s3, s4, s5, s6, s7, s8, s9, s10, s11, s12, s13, s14, s15, s16, s17, s18, s19, s20, s21, s22, s23, s24, s25, s26, s27⟩ : Inn) p)) := by
 show PC (std (LS N) N) (xOf _) = _
 generalize hres : (some (AW (Mx (⟨s0, s1, s2, s3, s4, s5, s6, s7, s8, s9, s10, s11, s12, s13, s14, s15, s16, s17, s18, s19, s20, s21, s22, s23, s24, s25, s26, s27⟩ : Inn) p)) : Option (List PV)) = RR
 simp only [PC, WE, WO, std, xOf, PXb, PXc, PXn, PXm, Nat.reduceAdd, Int.reduceBEq, Bs h, cG h.bt hN]
 subst hres; simp only [Mx]
 cases hm : KO (⟨s0, s1, s2, s3, s4, s5, s6, s7, s8, s9, s10, s11, s12, s13, s14, s15, s16, s17, s18, s19, s20, s21, s22, s23, s24, s25, s26, s27⟩ : Inn) p == 0 <;> try rfl
 rw [C8 (UF hm) h.bt]
 cases s12 == 0 <;> rfl
theorem dU {N : Nat} {s0 s1 s2 s3 s4 s5 s6 s7 s8 s9 s10 s11 s12 s13 s15 s21 s22 s23 s25 s26 s27 : Int} {s18 s20 : Bool} {s14 s16 s17 s19 s24 : Rows} {p : Int} (h : Fit s14 s16 s17 s19 s24) (hN : 2097152 < N) : EW N [.int s0, .int s1, .int s2, .int s3, .int s4, .int s5, .int s6, .int s7, .int s8, .int s9, .int s10, .int s11, .int s12, .int s13, .rows s14, .int s15, .rows s16, .rows s17, .bool s18, .rows s19, .bool s20, .int s21, .int s22, .int s23, .rows s24, .int s25, .int s26, .int s27, .int p] = some (AW (HF (⟨s0, s1, s2, s3, s4, s5, s6, s7, s8, s9, s10, s11, s12, s13, s14, s15, s16, s17, s18, s19, s20, s21, s22, s23, s24, s25, s26, s27⟩ : Inn) p)) := by
 show HK (std (DT N) N) (xOf _) = _
 generalize hres : (some (AW (HF (⟨s0, s1, s2, s3, s4, s5, s6, s7, s8, s9, s10, s11, s12, s13, s14, s15, s16, s17, s18, s19, s20, s21, s22, s23, s24, s25, s26, s27⟩ : Inn) p)) : Option (List PV)) = RR
 simp only [HK, QD, OG, QG, std, xOf, PXb, PXc, PXn, PXm, Nat.reduceAdd, Int.reduceBEq, GM h, ZT h.bt hN, GT]
 subst hres; simp only [HF]
 cases hm : KO (⟨s0, s1, s2, s3, s4, s5, s6, s7, s8, s9, s10, s11, s12, s13, s14, s15, s16, s17, s18, s19, s20, s21, s22, s23, s24, s25, s26, s27⟩ : Inn) p == 0 <;> try rfl
 have hk : inR p s14.length = true := UF hm
 rw [C8 hk h.bt, hk]
 rfl
theorem jj {N : Nat} {s0 s1 s2 s3 s4 s5 s6 s7 s8 s9 s10 s11 s12 s13 s15 s21 s22 s23 s25 s26 s27 : Int} {s18 s20 : Bool} {s14 s16 s17 s19 s24 : Rows} {p : Int} (h : Fit s14 s16 s17 s19 s24) (hN : 2097152 < N) : LD N [.int s0, .int s1, .int s2, .int s3, .int s4, .int s5, .int s6, .int s7, .int s8, .int s9, .int s10, .int s11, .int s12, .int s13, .rows s14, .int s15, .rows s16, .rows s17, .bool s18, .rows s19, .bool s20, .int s21, .int s22, .int s23, .rows s24, .int s25, .int s26, .int s27, .int p] = some (AW (HF (⟨s0, s1, s2, s3, s4, s5, s6, s7, s8, s9, s10, s11, s12, s13, s14, s15, s16, s17, s18, s19, s20, s21, s22, s23, s24, s25, s26, s27⟩ : Inn) p)) := by
 show LB (std (Iq N) N) (xOf _) = _
 generalize hres : (some (AW (HF (⟨s0, s1, s2, s3, s4, s5, s6, s7, s8, s9, s10, s11, s12, s13, s14, s15, s16, s17, s18, s19, s20, s21, s22, s23, s24, s25, s26, s27⟩ : Inn) p)) : Option (List PV)) = RR
 simp only [LB, Tf, Th, std, xOf, PXb, PXc, PXn, PXm, Nat.reduceAdd, Int.reduceBEq, Bs h, cG h.bt hN]
 subst hres; simp only [HF]
 cases hm : KO (⟨s0, s1, s2, s3, s4, s5, s6, s7, s8, s9, s10, s11, s12, s13, s14, s15, s16, s17, s18, s19, s20, s21, s22, s23, s24, s25, s26, s27⟩ : Inn) p == 0 <;> try rfl
 rw [C8 (UF hm) h.bt]
 rfl
def J2 (s : Inn) (p : Int) (hurt : Bool) : Inn × Int :=
  cond (!inR p s.batters.length) (s, 3) (cond (s.striker == 0 || s.other == 0) (s, 6) (cond (!(p == s.striker) && !(p == s.other)) (s, 4)
    (cond (hurt && ((Bm s.batters s.batters.length).length : Int) == 0) (s, 19)
      ({ s with striker := cond (p == s.striker) 0 s.striker, other := cond (p == s.striker) s.other 0, batters := I1 s.batters p (cond hurt 3 2), wickets := cond hurt s.wickets (IntKind.i64.wrap (s.wickets + 1)) }, 0))))
theorem ef {N : Nat} {s0 s1 s2 s3 s4 s5 s6 s7 s8 s9 s10 s11 s12 s13 s15 s21 s22 s23 s25 s26 s27 : Int} {s18 s20 : Bool} {s14 s16 s17 s19 s24 : Rows} {p : Int} {b : Bool} (h : Fit s14 s16 s17 s19 s24) (hN : 2097152 < N) : Ft N [.int s0, .int s1, .int s2, .int s3, .int s4, .int s5, .int s6, .int s7, .int s8, .int s9, .int s10, .int s11, .int s12, .int s13, .rows s14, .int s15, .rows s16, .rows s17, .bool s18, .rows s19, .bool s20, .int s21, .int s22, .int s23, .rows s24, .int s25, .int s26, .int s27, .int p, .bool b] = some (AW (J2 (⟨s0, s1, s2, s3, s4, s5, s6, s7, s8, s9, s10, s11, s12, s13, s14, s15, s16, s17, s18, s19, s20, s21, s22, s23, s24, s25, s26, s27⟩ : Inn) p b)) := by
 show Im (std (D2 N) N) (xOf _) = _
 generalize hres : (some (AW (J2 (⟨s0, s1, s2, s3, s4, s5, s6, s7, s8, s9, s10, s11, s12, s13, s14, s15, s16, s17, s18, s19, s20, s21, s22, s23, s24, s25, s26, s27⟩ : Inn) p b)) : Option (List PV)) = RR
 simp only [Im, P4, Qt, Ok, std, xOf, PXb, PXc, PXn, PXm, Nat.reduceAdd, Int.reduceBEq, GM h, GT, jt h.bt hN]
 subst hres; simp only [J2]
 cases hp : inR p s14.length <;> try rfl
 rw [C8 hp h.bt]
 cases s12 == 0 <;> cases s13 == 0 <;> try rfl
 cases p == s12 <;> cases p == s13 <;> cases b <;> try rfl
 all_goals (simp only [PXb, PXc, PXn, PXm, Nat.reduceAdd, Int.reduceBEq]; cases ((Bm s14 s14.length).length : Int) == 0 <;> rfl)
theorem qw (L : Rows) (p a b : Int) : I1 (I1 L p a) p b = I1 L p b := by
 unfold I1
 rw [List.set_set]
 rcases Nat.lt_or_ge (ix p) L.length with h | h
 ·have : A3 (L.set (ix p) (B2 (A3 L (ix p)) 0 [.int a])) (ix p) = B2 (A3 L (ix p)) 0 [.int a] := by
   unfold A3
   simp [List.getD_eq_getElem?_getD, List.getElem?_set, h]
  rw [this]
  simp only [B2, List.set_set]
 ·rw [List.set_eq_of_length_le h, List.set_eq_of_length_le h]
theorem lL {N : Nat} {s0 s1 s2 s3 s4 s5 s6 s7 s8 s9 s10 s11 s12 s13 s15 s21 s22 s23 s25 s26 s27 : Int} {s18 s20 : Bool} {s14 s16 s17 s19 s24 : Rows} {p : Int} {b : Bool} (h : Fit s14 s16 s17 s19 s24) (hN : 2097152 < N) : NX N [.int s0, .int s1, .int s2, .int s3, .int s4, .int s5, .int s6, .int s7, .int s8, .int s9, .int s10, .int s11, .int s12, .int s13, .rows s14, .int s15, .rows s16, .rows s17, .bool s18, .rows s19, .bool s20, .int s21, .int s22, .int s23, .rows s24, .int s25, .int s26, .int s27, .int p, .bool b] = some (AW (J2 (⟨s0, s1, s2, s3, s4, s5, s6, s7, s8, s9, s10, s11, s12, s13, s14, s15, s16, s17, s18, s19, s20, s21, s22, s23, s24, s25, s26, s27⟩ : Inn) p b)) := by
 show Mh (std (Gq N) N) (xOf _) = _
 generalize hres : (some (AW (J2 (⟨s0, s1, s2, s3, s4, s5, s6, s7, s8, s9, s10, s11, s12, s13, s14, s15, s16, s17, s18, s19, s20, s21, s22, s23, s24, s25, s26, s27⟩ : Inn) p b)) : Option (List PV)) = RR
 simp only [Mh, Vp, Ut, Tg, std, xOf, PXb, PXc, PXn, PXm, Nat.reduceAdd, Int.reduceBEq, Bs h, Nx, o0 h.bt hN]
 subst hres; simp only [J2]
 rw [BEq.comm (a := s12) (b := p), BEq.comm (a := s13) (b := p)]
 cases hp : inR p s14.length <;> try rfl
 simp only [C8 hp h.bt, PXb, PXc, PXn, PXm, Nat.reduceAdd, Int.reduceBEq]
 have e := qw s14 p 3 2
 cases s12 == 0 <;> cases s13 == 0 <;> try rfl
 cases p == s12 <;> cases p == s13 <;> cases b <;> try rfl
 all_goals (simp only [PXb, PXc, PXn, PXm, Nat.reduceAdd, Int.reduceBEq]; first | rfl | (cases ((Bm s14 s14.length).length : Int) == 0 <;> first | rfl | (rw [← e]; rfl)) | (rw [← e]; rfl))
end Go.Px
end
section
namespace Go.Px
set_option maxRecDepth 100000
def btw (a b c : Int) : Bool := iLe b a && iLe a c
theorem DU (N : Nat) (a b c : Int) : Ag N [.int a, .int b, .int c] = some [.bool (btw a b c)] := by
 show some [PV.bool (cond (iLe b a) (iLe a c) false)] = _
 rw [Po]; rfl
theorem Lk (N : Nat) (a b c : Int) : CQ N [.int a, .int b, .int c] = some [.bool (btw a b c)] := by
 show some [PV.bool (cond (iLe b a) (iLe a c) false)] = _
 rw [Po]; rfl
theorem qq (N : Nat) (a b c : Int) : SI N [.int a, .int b, .int c] = some [.bool (btw a b c)] := by
 show some [PV.bool (cond (iLe b a) (iLe a c) false)] = _
 rw [Po]; rfl
theorem Z4 (N : Nat) (a b c : Int) : Eg N [.int a, .int b, .int c] = some [.bool (btw a b c)] := by
 show some [PV.bool (cond (iLe b a) (iLe a c) false)] = _
 rw [Po]; rfl
def Fz (x1 x2 x3 x4 x5 x6 x7 x9 x10 x11 x12 : Int) : Bool := btw x1 2 11 && btw x2 1 2 && btw x3 0 90 && btw x4 4 8 && btw x5 0 90 && btw x6 1 5 && btw x7 1 5 && btw x9 0 200 && btw x10 0 1000 && btw x11 0 9 && btw x12 0 11
theorem eO (N : Nat) (x0 : ByteArray) (x1 x2 x3 x4 x5 x6 x7 x9 x10 x11 x12 : Int) (x8 : Bool) (x13 : Rows) :
   Fi N [.str x0, .int x1, .int x2, .int x3, .int x4, .int x5, .int x6, .int x7, .bool x8, .int x9, .int x10, .int x11, .int x12, .rows x13] = some [.bool (Fz x1 x2 x3 x4 x5 x6 x7 x9 x10 x11 x12)] := by
  show Ih (std (KK N) N) (xOf _) = _
  have e : ∀ ls, KK N 162 [] ls = CQ N ls := fun ls => rfl
  simp only [Ih, std, xOf, e, Lk, PXb, PXc, PXn, AB, Fz]
def Oa (s : ByteArray) (i : Nat) : Bool := !(iLe 65 (LN s i) && iLe (LN s i) 90) && ((i : Int) == 0 || ((!(LN s i == 95) && !(LN s i == 45)) && (iLt (LN s i) 48 || iLt 57 (LN s i))))
def Ko (s : ByteArray) : Bool := !Aj (Oa s) s.size 0 && (iLe 1 s.size && iLe s.size 16)
theorem ue (s : ByteArray) : (FQ s).length = s.size := by
 simp only [FQ, List.length_map, Array.length_toList]; rfl
theorem uk (s : ByteArray) (i : Nat) (h : i < s.size) : pvI (AJ (FQ s) i 0) = LN s i := by
 unfold AJ A3 AH FQ LN
 simp only [List.getD_eq_getElem?_getD, List.getElem?_map]
 have : i < s.data.toList.length := by simpa using h
 rw [List.getElem?_eq_getElem this]
 simp [List.getElem?_eq_getElem this]
theorem mQ (N : Nat) (s : ByteArray) (hN : s.size < N) (hs : s.size ≤ 1048576) : KU N [.str s] = some [.bool (Ko s)] := by
 show PZ (std (X6 N) N) (xOf _) = _
 simp only [PZ, std, xOf, ue, PXb, PXc, PXn, AB]
 refine AN (Bf (len := s.size) (Oa s) [.bool false] ?_ ?_ N hN) ?_
 ·intro self
  simp only [PXb, PXc, PXn, AB, Ao]
 ·intro i self hi
  simp only [PXb, PXc, PXn, AB, Int.toNat_natCast, uk s i hi, AR (show i ≤ 1099511627776 by omega), Ai hi, AQ hi, Oa]
 ·unfold Ko
  cases Aj (Oa s) s.size 0 <;> rfl
theorem sC (bs : ByteArray) (i : Nat) (r : List UInt8) : (ByteArray.toList.loop bs i r).length = r.length + (bs.size - i) := by
 induction i, r using ByteArray.toList.loop.induct (bs := bs) with
 | case1 i r h ih => unfold ByteArray.toList.loop; rw [if_pos h, ih]; simp; omega
 | case2 i r h => unfold ByteArray.toList.loop; rw [if_neg h]; simp; omega
theorem eW (bs : ByteArray) : bs.toList.length = bs.size := by
 unfold ByteArray.toList; rw [sC]; simp
theorem nV (s : ByteArray) : (s.toList == (⟨#[]⟩ : ByteArray).toList) = !iLe 1 (s.size : Int) := by
 have h := eW s
 have h0 := eW (⟨#[]⟩ : ByteArray)
 rw [Bool.eq_iff_iff]
 simp only [beq_iff_eq, iLe, Bool.not_eq_true', decide_eq_false_iff_not]
 constructor
 ·intro e; rw [e, h0] at h
  have : (⟨#[]⟩ : ByteArray).size = 0 := rfl
  omega
 ·intro e
  have e1 : s.toList = [] := List.eq_nil_of_length_eq_zero (by omega)
  have e2 : (⟨#[]⟩ : ByteArray).toList = [] := List.eq_nil_of_length_eq_zero h0
  rw [e1, e2]
theorem nW (N : Nat) (s : ByteArray) (hN : s.size < N) (hs : s.size ≤ 1048576) : NL N [.str s] = some [.bool (Ko s)] := by
 show RP (std (Z9 N) N) (xOf _) = _
 simp only [RP, std, xOf, PXb, PXc, PXn, AB, nV]
 have e : iLe 1 (s.size : Int) = false ∨ iLe 1 (s.size : Int) = true := by cases iLe 1 (s.size : Int) <;> simp
 have e2 : iLt 16 (s.size : Int) = !iLe (s.size : Int) 16 := by unfold iLt iLe; rw [Bool.eq_iff_iff]; simp
 rw [e2]
 cases h : iLe 1 (s.size : Int) && iLe (s.size : Int) 16 with
 | false =>
  have : (!iLe 1 (s.size : Int) || !iLe (s.size : Int) 16) = true := by rw [← Bool.not_and, h]; rfl
  simp only [this, cond_true, Ko, h, Bool.and_false]
 | true =>
  have : (!iLe 1 (s.size : Int) || !iLe (s.size : Int) 16) = false := by rw [← Bool.not_and, h]; rfl
  simp only [this, cond_false, Ko, h, Bool.and_true]
  refine AN (Bf (len := s.size) (Oa s) [.bool false] ?_ ?_ N hN) ?_
  ·intro self
   simp only [PXb, PXc, PXn, AB, Ao]
  ·intro i self hi
   simp only [PXb, PXc, AB, Int.toNat_natCast, AR (show i ≤ 1099511627776 by omega), Ai hi, AQ hi, Oa]
   cases (iLe 65 (LN s i) && iLe (LN s i) 90) <;> rfl
  ·cases Aj (Oa s) s.size 0 <;> rfl
end Go.Px
end
section
namespace Go.Px
set_option maxRecDepth 100000
theorem oZ {i len : Nat} (h : i < len) (hl : len ≤ 1099511627776) : (!iLt 0 (i : Int) || iIn (IntKind.i64.wrap ((i : Int) - 1)) (len : Int)) = true := by
 rw [FU (by omega) (by omega)]
 simp only [iLt, iIn, Bool.or_eq_true, Bool.not_eq_true', decide_eq_false_iff_not, decide_eq_true_eq]
 omega
def qB (L : Rows) (ov : Int) (i : Nat) : Bool := (iLt (atI L i 0) 1 || iLt (atI L i 1) (atI L i 0) || iLt ov (atI L i 1)) || !btw (atI L i 2) 0 11
def kd (L : Rows) (i : Nat) : Bool := iLt 0 (i : Int) && iLe (atI L i 0) (pvI (AJ L (IntKind.i64.wrap ((i : Int) - 1)).toNat 1))
def fN (L : Rows) (ov : Int) (i : Nat) : Option (List PV) := cond (qB L ov i) (some [.int 2]) (cond (kd L i) (some [.int 8]) none)
def qx : Option (List PV) → Int
 | none => 0
 | some r => pvI (AH r 0)
def fi (L : Rows) (ov : Int) : Int := cond (iLt 8 (L.length : Int)) 9 (qx (B4 (fN L ov) L.length 0))
theorem XP (o : Option (List PV)) : cond (pvI (AH (RJ o) 0) == ((0 : Nat) : Int)) (some [PV.int (pvI (AH (RJ o) 1))]) (some [PV.int 0]) = some [PV.int (qx o)] := by
 cases o <;> rfl
theorem f0 (N : Nat) (x0 : ByteArray) (x1 x2 x3 x4 x5 x6 x7 x9 x10 x11 x12 : Int) (x8 : Bool) (L : Rows) (hN : 2097152 < N) :
   GV N [.str x0, .int x1, .int x2, .int x3, .int x4, .int x5, .int x6, .int x7, .bool x8, .int x9, .int x10, .int x11, .int x12, .rows L] = some [.int (fi L x3)] := by
  show Jp (std (Lq N) N) (xOf _) = _
  have e : ∀ ls, Lq N 162 [] ls = CQ N ls := fun ls => rfl
  simp only [Jp, std, xOf, e, Lk, PXb, PXc, PXn, AB, fi]
  cases h8 : iLt 8 (L.length : Int) with
  | true => rfl
  | false =>
    have hl : L.length ≤ 8 := by simp [iLt] at h8; omega
    simp only [cond_false]
    refine AN (CO (len := L.length) (fN L x3) ?_ ?_ L.length 0 N (by omega) (by omega)) ?_
    · intro self
      simp only [PXb, PXc, PXn, AB, Ao]
    · intro i self hi
      simp only [PXb, PXc, PXn, AB, Int.toNat_natCast, AR (show i ≤ 1099511627776 by omega), Ai hi, AQ hi, Lk, e, oZ hi (by omega)]
      simp only [fN, qB, kd, atI]
      cases (iLt (pvI (AJ L i 0)) 1 || iLt (pvI (AJ L i 1)) (pvI (AJ L i 0)) || iLt x3 (pvI (AJ L i 1)) || !btw (pvI (AJ L i 2)) 0 11) <;>
      cases (iLt 0 (i : Int) && iLe (pvI (AJ L i 0)) (pvI (AJ L (IntKind.i64.wrap ((i : Int) - 1)).toNat 1))) <;> rfl
    · exact XP _
def Dc (x0 : ByteArray) (x1 x2 x3 x4 x5 x6 x7 x9 x10 x11 x12 : Int) (L : Rows) : Int :=
  cond (!Ko x0) 5 (cond (!Fz x1 x2 x3 x4 x5 x6 x7 x9 x10 x11 x12) 2
    (cond ((!(x10 == 0) && x2 == 1) || ((!(x5 == 0) || iLt 0 (L.length : Int)) && x3 == 0)) 1
      (cond (!(x5 == 0) && iLt (IntKind.i64.wrap (x5 * x1)) x3) 13 (fi L x3))))
theorem Vo (N : Nat) (x0 : ByteArray) (x1 x2 x3 x4 x5 x6 x7 x9 x10 x11 x12 : Int) (x8 : Bool) (L : Rows) (hN : 2097152 < N) (hs : x0.size ≤ 1048576) :
   AS N [.str x0, .int x1, .int x2, .int x3, .int x4, .int x5, .int x6, .int x7, .bool x8, .int x9, .int x10, .int x11, .int x12, .rows L] = some [.int (Dc x0 x1 x2 x3 x4 x5 x6 x7 x9 x10 x11 x12 L)] := by
  show K8 (std (FR N) N) (xOf _) = _
  have e : ∀ ls, FR N 95 [] ls = KU N ls := fun ls => rfl
  have e2 : ∀ ls, FR N 96 [] ls = Fi N ls := fun ls => rfl
  have e3 : ∀ ls, FR N 97 [] ls = GV N ls := fun ls => rfl
  simp only [K8, std, xOf, e, e2, e3, mQ N x0 (by omega) hs, eO, f0 N _ _ _ _ _ _ _ _ _ _ _ _ _ _ hN, PXb, PXc, AB, Dc]
  cases Ko x0 <;> cases Fz x1 x2 x3 x4 x5 x6 x7 x9 x10 x11 x12 <;> try rfl
  simp only [PXb, PXc, AB, Bool.not_true]
  cases (!(x10 == 0) && x2 == 1) <;> cases ((!(x5 == 0) || iLt 0 (L.length : Int)) && x3 == 0) <;> try rfl
  cases (!(x5 == 0) && iLt (IntKind.i64.wrap (x5 * x1)) x3) <;> rfl
theorem Y5 (N : Nat) (x0 : ByteArray) (x1 x2 x3 x4 x5 x6 x7 x9 x10 x11 x12 : Int) (x8 : Bool) (L : Rows) (hN : 2097152 < N) (hs : x0.size ≤ 1048576) :
   Ad N [.str x0, .int x1, .int x2, .int x3, .int x4, .int x5, .int x6, .int x7, .bool x8, .int x9, .int x10, .int x11, .int x12, .rows L] = some [.int (Dc x0 x1 x2 x3 x4 x5 x6 x7 x9 x10 x11 x12 L)] := by
  show PK (std (K3 N) N) (xOf _) = _
  have e : ∀ ls, K3 N 101 [] ls = NL N ls := fun ls => rfl
  have e2 : ∀ ls, K3 N 102 [] ls = SI N ls := fun ls => rfl
  simp only [PK, std, xOf, e, e2, nW N x0 (by omega) hs, qq, PXb, PXc, PXn, AB]
  simp only [← Bool.not_and, Dc]
  rw [show (btw x1 2 11 && btw x2 1 2 && btw x3 0 90 && btw x4 4 8 && btw x5 0 90 && btw x6 1 5 && btw x7 1 5 && btw x9 0 200 && btw x10 0 1000 && btw x11 0 9 && btw x12 0 11) = Fz x1 x2 x3 x4 x5 x6 x7 x9 x10 x11 x12 from rfl]
  rw [Bool.and_comm (x3 == 0)]
  cases Ko x0 <;> cases Fz x1 x2 x3 x4 x5 x6 x7 x9 x10 x11 x12 <;> try rfl
  cases (!(x10 == 0) && x2 == 1) || ((!(x5 == 0) || iLt 0 (L.length : Int)) && x3 == 0) <;> try rfl
  cases (!(x5 == 0) && iLt (IntKind.i64.wrap (x5 * x1)) x3) <;> try rfl
  simp only [Bool.not_true, cond_false, fi]
  cases h8 : iLt 8 (L.length : Int) with
  | true => rfl
  | false =>
    have hl : L.length ≤ 8 := by simp [iLt] at h8; omega
    simp only [cond_false]
    refine AN (CO (len := L.length) (fN L x3) ?_ ?_ L.length 0 N (by omega) (by omega)) ?_
    · intro self
      simp only [PXb, PXc, PXn, AB, Ao]
    · intro i self hi
      simp only [PXb, PXc, PXn, AB, Int.toNat_natCast, AR (show i ≤ 1099511627776 by omega), Ai hi, AQ hi, oZ hi (by omega)]
      simp only [fN, qB, kd, atI]
      cases (iLt (pvI (AJ L i 0)) 1 || iLt (pvI (AJ L i 1)) (pvI (AJ L i 0)) || iLt x3 (pvI (AJ L i 1)) || !btw (pvI (AJ L i 2)) 0 11) <;>
      cases (iLt 0 (i : Int) && iLe (pvI (AJ L i 0)) (pvI (AJ L (IntKind.i64.wrap ((i : Int) - 1)).toNat 1))) <;> rfl
    · exact XP _
end Go.Px
end
section
namespace Go.Px
set_option maxRecDepth 100000
theorem Yk (N : Nat) (L : Rows) (v : Int) (hN : L.length < N) (hl : L.length ≤ 2097152) : Dd N [.rows L, .int v] = some [.int (Ql (fun j => v == atI L j 0) L.length)] := by
 show Fl (std (NA N) N) (xOf _) = _
 simp only [Fl, std, xOf, PXb, PXc, PXn, AB]
 refine AN (CO (len := L.length) (Fx fun j => v == atI L j 0) ?_ ?_ L.length 0 N (by omega) (by omega)) ?_
 ·intro self
  simp only [PXb, PXc, PXn, AB, Ao]
 ·intro i self hi
  simp only [PXb, PXc, PXn, AB, AR (show i ≤ 1099511627776 by omega), Ai hi, AQ hi, Fx, BF]
  cases v == atI L i 0 <;> rfl
 ·unfold Ql
  cases B4 (Fx fun j => v == atI L j 0) L.length 0 <;> rfl
def GR (L : Rows) (k : Nat) (v : Int) : Bool := Aj (fun j => v == atI L j 0) k 0
theorem Kt (N : Nat) (L : Rows) (v : Int) (hN : L.length < N) (hl : L.length ≤ 2097152) : Al N [.rows L, .int v] = some [.bool (GR L L.length v)] := by
 show Dl (std (E5 N) N) (xOf _) = _
 have e : ∀ ls, E5 N 163 [] ls = Dd N ls := fun ls => rfl
 simp only [Dl, std, xOf, PXb, PXc, PXn, AB, e, Yk N L v hN hl, Jo, GR]
theorem sH (L : Rows) (i : Nat) (v : Int) (h : i ≤ L.length) : GR (L.take i) (L.take i).length v = GR L i v := by
 rw [List.length_take, Nat.min_eq_left h]
 exact fa i 0 (fun j _ hj => by rw [kt (by omega)])
def Jw (L : Rows) (n : Int) (i : Nat) : Bool := !btw (atI L i 0) 1 n || GR L i (atI L i 0)
def Fd (L : Rows) (n : Int) : Bool := !Aj (Jw L n) L.length 0
theorem Mr (N : Nat) (L : Rows) (n : Int) (hN : L.length < N) (hl : L.length ≤ 2097152) : DF N [.rows L, .int n] = some [.bool (Fd L n)] := by
 show Ew (std (Dn N) N) (xOf _) = _
 have e : ∀ ls, Dn N 53 [] ls = Ag N ls := fun ls => rfl
 have e2 : ∀ ls, Dn N 98 [] ls = Al N ls := fun ls => rfl
 simp only [Ew, std, xOf, PXb, PXc, PXn, AB]
 refine AN (Bf (len := L.length) (Jw L n) [.bool false] ?_ ?_ N hN) ?_
 ·intro self
  simp only [PXb, PXc, PXn, AB, Ao]
 ·intro i self hi
  have h1 : (L.take i).length ≤ L.length := List.length_take_le' i L
  simp only [PXb, PXc, PXn, AB, AR (show i ≤ 1099511627776 by omega), Ai hi, AQ hi, e, e2, DU, tA (Nat.le_of_lt hi), Int.toNat_zero, List.drop_zero, Kt N (L.take i) _ (by omega) (by omega), sH L i _ (by omega), BF, Jw]
  cases btw (atI L i 0) 1 n <;> cases GR L i (atI L i 0) <;> rfl
 ·unfold Fd
  cases Aj (Jw L n) L.length 0 <;> rfl
theorem fD (N : Nat) (L : Rows) (n : Int) (hN : L.length < N) (hl : L.length ≤ 2097152) : P2 N [.rows L, .int n] = some [.bool (Fd L n)] := by
 show T4 (std (Uq N) N) (xOf _) = _
 have e : ∀ ls, Uq N 58 [] ls = Eg N ls := fun ls => rfl
 simp only [T4, std, xOf, PXb, PXc, PXn, AB]
 refine AN (Bf (len := L.length) (Jw L n) [.bool false] ?_ ?_ N hN) ?_
 ·intro self
  simp only [PXb, PXc, PXn, AB, Ao]
 ·intro i self hi
  have h1 : (L.take i).length = i := by rw [List.length_take]; omega
  simp only [PXb, PXc, PXn, AB, AR (show i ≤ 1099511627776 by omega), Ai hi, AQ hi, e, Z4, tA (Nat.le_of_lt hi), Int.toNat_zero, List.drop_zero, BF, Jw, h1]
  cases btw (atI L i 0) 1 n with
  | false => rfl
  | true =>
   simp only [PXb, PXc, PXn, AB]
   refine AN (Xr (len := i) (fun j => [.int (j : Int)]) (fun j => atI L i 0 == atI L j 0) [.int 0, .bool false] [.int 1, .int (i : Int)] ?_ ?_ N (by omega)) ?_
   ·intro self
    simp only [PXb, PXc, PXn, AB, Ao]
   ·intro j self hj
    simp only [PXb, PXc, PXn, AB, AR (show j ≤ 1099511627776 by omega), Ai hj, AQ hj, kt hj]
    rfl
   ·unfold GR
    cases Aj (fun j => atI L i 0 == atI L j 0) i 0 <;> rfl
 ·unfold Fd
  cases Aj (Jw L n) L.length 0 <;> rfl
theorem bI (N : Nat) (v : Int) : Ci N [.int v] = some [.bool (!(v == 0))] := rfl
def lsI (L14 L16 L17 L19 L24 : Rows) (b18 b20 : Bool) (x0 x1 x2 x3 x4 x5 x6 x7 x8 x9 x10 x11 x12 x13 x15 x21 x22 x23 x25 x26 x27 : Int) : List PV :=
 [.int x0, .int x1, .int x2, .int x3, .int x4, .int x5, .int x6, .int x7, .int x8, .int x9, .int x10, .int x11, .int x12, .int x13, .rows L14, .int x15, .rows L16, .rows L17, .bool b18, .rows L19, .bool b20, .int x21, .int x22, .int x23, .rows L24, .int x25, .int x26, .int x27]
section
variable (N : Nat) (L14 L16 L17 L19 L24 : Rows) (b18 b20 : Bool) (x0 x1 x2 x3 x4 x5 x6 x7 x8 x9 x10 x11 x12 x13 x15 x21 x22 x23 x25 x26 x27 : Int)
theorem ee (hN : L14.length < N) (hl : L14.length ≤ 2097152) : Bo N (lsI L14 L16 L17 L19 L24 b18 b20 x0 x1 x2 x3 x4 x5 x6 x7 x8 x9 x10 x11 x12 x13 x15 x21 x22 x23 x25 x26 x27) = some [.bool (CK L14)] := by
 show EK (std (Eb N) N) (xOf (lsI ..)) = _
 have e : ∀ ls, Eb N 165 [] ls = Ci N ls := fun ls => rfl
 simp only [EK, std, xOf, lsI, PXb, PXc, PXn, AB]
 rw [show CK L14 = iLe 0 (Ql (fun i => !(atI L14 i 0 == 0)) L14.length) from (Jo _ _).symm]
 rw [Option.bind_assoc]
 refine AN (CO (len := L14.length) (Fx fun i => !(atI L14 i 0 == 0)) ?_ ?_ L14.length 0 N (by omega) (by omega)) ?_
 ·intro self
  simp only [PXb, PXc, PXn, AB, Ao]
 ·intro i self hi
  simp only [PXb, PXc, PXn, AB, AR (show i ≤ 1099511627776 by omega), Ai hi, AQ hi, Fx, BF, e, bI]
  cases atI L14 i 0 == 0 <;> rfl
 ·unfold Ql
  cases B4 (Fx fun i => !(atI L14 i 0 == 0)) L14.length 0 <;> rfl
theorem Zz (hN : L14.length < N) (hl : L14.length ≤ 2097152) : BS N (lsI L14 L16 L17 L19 L24 b18 b20 x0 x1 x2 x3 x4 x5 x6 x7 x8 x9 x10 x11 x12 x13 x15 x21 x22 x23 x25 x26 x27) = some [.bool (CK L14)] := by
 show IC (std (Qa N) N) (xOf (lsI ..)) = _
 simp only [IC, std, xOf, lsI, PXb, PXc, PXn, AB]
 refine AN (Bf (len := L14.length) (fun i => !(atI L14 i 0 == 0)) [.bool true] ?_ ?_ N hN) ?_
 ·intro self
  simp only [PXb, PXc, PXn, AB, Ao]
 ·intro i self hi
  simp only [PXb, PXc, PXn, AB, AR (show i ≤ 1099511627776 by omega), Ai hi, AQ hi, BF]
 ·unfold CK
  cases Aj (fun i => !(atI L14 i 0 == 0)) L14.length 0 <;> rfl
theorem dv (hN : L14.length < N) (hl : L14.length ≤ 2097152) : BA N (lsI L14 L16 L17 L19 L24 b18 b20 x0 x1 x2 x3 x4 x5 x6 x7 x8 x9 x10 x11 x12 x13 x15 x21 x22 x23 x25 x26 x27) = some [.bool (EU L14 x12 x13)] := by
 show Dm (std (D5 N) N) (xOf (lsI ..)) = _
 have e : ∀ ls, D5 N 103 [] ls = Bo N ls := fun ls => rfl
 have := ee N L14 L16 L17 L19 L24 b18 b20 x0 x1 x2 x3 x4 x5 x6 x7 x8 x9 x10 x11 x12 x13 x15 x21 x22 x23 x25 x26 x27 hN hl
 simp only [lsI] at this
 simp only [Dm, std, xOf, lsI, PXb, PXc, PXn, AB, e, this, EU]
theorem jn (hN : L14.length < N) (hl : L14.length ≤ 2097152) : CE N (lsI L14 L16 L17 L19 L24 b18 b20 x0 x1 x2 x3 x4 x5 x6 x7 x8 x9 x10 x11 x12 x13 x15 x21 x22 x23 x25 x26 x27) = some [.bool (EU L14 x12 x13)] := by
 show GL (std (Gi N) N) (xOf (lsI ..)) = _
 have e : ∀ ls, Gi N 70 [] ls = BS N ls := fun ls => rfl
 have := Zz N L14 L16 L17 L19 L24 b18 b20 x0 x1 x2 x3 x4 x5 x6 x7 x8 x9 x10 x11 x12 x13 x15 x21 x22 x23 x25 x26 x27 hN hl
 simp only [lsI] at this
 simp only [GL, std, xOf, lsI, PXb, PXc, PXn, AB, e, this, EU]
theorem g9 (hN : L14.length < N) (hl : L14.length ≤ 2097152) : Cf N (lsI L14 L16 L17 L19 L24 b18 b20 x0 x1 x2 x3 x4 x5 x6 x7 x8 x9 x10 x11 x12 x13 x15 x21 x22 x23 x25 x26 x27) = some [.rows (Bm L14 L14.length)] := by
 show E8 (std (Nc N) N) (xOf (lsI ..)) = _
 simp only [E8, std, xOf, lsI, PXb, PXc, PXn, AB]
 refine AN (Dq (len := L14.length) (fun i => [.rows (Bm L14 i), .int (i : Int)]) [.rows (Bm L14 L14.length)] ?_ ?_ N hN) rfl
 ·intro self
  simp only [PXb, PXc, PXn, AB, Ao]
 ·intro i self hi
  have h2 : (Bm L14 i ++ [[PV.int ((i : Int) + 1)]]).length ≤ 4194304 := by have := Sp L14 i; simp; omega
  simp only [PXb, PXc, PXn, AB, AR (show i ≤ 1099511627776 by omega), Ai hi, AQ hi, BF, Bm, Hd h2 (show 8 ≤ 4096 by omega)]
  cases (atI L14 i 0 == 0 || atI L14 i 0 == 3) <;> rfl
theorem no (hN : L14.length < N) (hl : L14.length ≤ 2097152) : EA N (lsI L14 L16 L17 L19 L24 b18 b20 x0 x1 x2 x3 x4 x5 x6 x7 x8 x9 x10 x11 x12 x13 x15 x21 x22 x23 x25 x26 x27) = some [.rows (Bm L14 L14.length)] := by
 show Ji (std (SY N) N) (xOf (lsI ..)) = _
 simp only [Ji, std, xOf, lsI, PXb, PXc, PXn, AB]
 refine AN (Dq (len := L14.length) (fun i => [.rows (Bm L14 i), .int (i : Int)]) [.rows (Bm L14 L14.length)] ?_ ?_ N hN) rfl
 ·intro self
  simp only [PXb, PXc, PXn, AB, Ao]
 ·intro i self hi
  have h2 : (Bm L14 i ++ [[PV.int ((i : Int) + 1)]]).length ≤ 4194304 := by have := Sp L14 i; simp; omega
  simp only [PXb, PXc, PXn, AB, AR (show i ≤ 1099511627776 by omega), Ai hi, AQ hi, BF, Bm, Hd h2 (show 8 ≤ 4096 by omega)]
  cases (atI L14 i 0 == 0 || atI L14 i 0 == 3) <;> rfl
end
theorem W4 (N : Nat) (v : Int) : DC N [.int v] = some [.bool (!btw v 0 1000000000)] := by
 show Et (std (Gp N) N) (xOf _) = _
 have e : ∀ ls, Gp N 53 [] ls = Ag N ls := fun ls => rfl
 simp only [Et, std, xOf, PXb, PXc, PXn, AB, e, DU]
end Go.Px
end
section
namespace Go.Px
set_option maxRecDepth 100000
def pIs (L : Rows) (v : Int) (i : Nat) : Bool := atI L i 0 == v
def XS (s n : Int) (i : Nat) : Bool := s == (i : Int) + 1 || n == (i : Int) + 1
def Ro (L : Rows) (s n : Int) (i : Nat) : Bool := iLt 3 (atI L i 0) || (pIs L 1 i && !XS s n i)
def UK (L : Rows) (s n : Int) (i : Nat) : Bool := iLt 3 (atI L i 0) || !(pIs L 1 i == XS s n i)
def dF (L : Rows) : Int := CC (pIs L 2) L.length
def ins (L : Rows) : Int := CC (pIs L 1) L.length
def two (s n : Int) : Int := cond (!(n == 0)) (IntKind.i64.wrap (cond (!(s == 0)) (IntKind.i64.wrap (0 + 1)) 0 + 1)) (cond (!(s == 0)) (IntKind.i64.wrap (0 + 1)) 0)
def kK (L : Rows) (s n wk k : Int) : Bool :=
 !Aj (Ro L s n) L.length 0 && ((btw s 0 k && btw n 0 k) && (!(s == n && !(s == 0)) && ((two s n == ins L && (!CK L || iLt 0 (two s n))) && dF L == wk)))
def UC (L : Rows) (s n wk : Int) : Bool :=
 !Aj (UK L s n) L.length 0 && (!((CK L && iLt (ins L) 1) || (!(s == 0) && s == n)) && wk == dF L)
def qA (L : Rows) : Nat → Bool
 | 0 => false
 | i + 1 => qA L i || !(atI L i 0 == 0)
theorem ob (L : Rows) : ∀ i, qA L i = Aj (fun j => !(atI L j 0 == 0)) i 0
 | 0 => rfl
 | i + 1 => by rw [ac, Nat.zero_add, ← ob L i]; rfl
section
variable (N : Nat) (L14 L16 L17 L19 L24 : Rows) (b18 b20 : Bool) (x0 x1 x2 x3 x4 x5 x6 x7 x8 x9 x10 x11 x12 x13 x15 x21 x22 x23 x25 x26 x27 : Int)
theorem aN (k : Int) (hN : L14.length < N) (hl : L14.length ≤ 2097152) : D0 N (lsI L14 L16 L17 L19 L24 b18 b20 x0 x1 x2 x3 x4 x5 x6 x7 x8 x9 x10 x11 x12 x13 x15 x21 x22 x23 x25 x26 x27 ++ [.int k]) = some [.bool (kK L14 x12 x13 x4 k)] := by
  simp only [lsI, List.cons_append, List.nil_append]
  show GD (std (IQ N) N) (xOf _) = _
  have e : ∀ ls, IQ N 53 [] ls = Ag N ls := fun ls => rfl
  simp only [GD, std, xOf, lsI, PXb, PXc, PXn, AB]
  refine AN (Xr (len := L14.length) (fun i => [.int (CC (pIs L14 2) i), .int (CC (pIs L14 1) i), .bool (qA L14 i), .int (i : Int)])
    (Ro L14 x12 x13) [.int 0, .bool false] [.int 1, .int (dF L14), .int (ins L14), .bool (CK L14)] ?_ ?_ N hN) ?_
  · intro self
    simp only [PXb, PXc, PXn, AB, Ao, ob]
    rfl
  · intro i self hi
    simp only [PXb, PXc, AB, AR (show i ≤ 1099511627776 by omega), Ai hi, AQ hi, BF, W8 (pIs L14 2) (show i ≤ 1099511627776 by omega), W8 (pIs L14 1) (show i ≤ 1099511627776 by omega)]
    unfold Ro pIs XS
    simp only [CC, qA]
    cases h3 : iLt 3 (atI L14 i 0) with
    | true => rfl
    | false =>
      cases h1 : atI L14 i 0 == 1 with
      | true =>
        rw [gr h1]
        cases x12 == (i : Int) + 1 <;> cases x13 == (i : Int) + 1 <;> rfl
      | false => cases h2 : atI L14 i 0 == 2 <;> rfl
  · unfold kK
    simp only [e, DU]
    cases Aj (Ro L14 x12 x13) L14.length 0 with
    | true => rfl
    | false =>
      simp only [PXb, PXc, PXn, AB]
      unfold two
      cases btw x12 0 k <;> cases btw x13 0 k <;> try rfl
      cases x12 == 0 <;> cases x13 == 0 <;> cases x12 == x13 <;> try rfl
theorem hY (hN : L14.length < N) (hl : L14.length ≤ 2097152) : Hl N (lsI L14 L16 L17 L19 L24 b18 b20 x0 x1 x2 x3 x4 x5 x6 x7 x8 x9 x10 x11 x12 x13 x15 x21 x22 x23 x25 x26 x27) = some [.bool (UC L14 x12 x13 x4)] := by
  show K4 (std (Mb N) N) (xOf (lsI ..)) = _
  have e : ∀ ls, Mb N 70 [] ls = BS N ls := fun ls => rfl
  have h70 := Zz N L14 L16 L17 L19 L24 b18 b20 x0 x1 x2 x3 x4 x5 x6 x7 x8 x9 x10 x11 x12 x13 x15 x21 x22 x23 x25 x26 x27 hN hl
  simp only [lsI] at h70
  simp only [K4, std, xOf, lsI, PXb, PXc, PXn, AB, e, h70]
  refine AN (Xr (len := L14.length) (fun i => [.int (CC (pIs L14 2) i), .int (CC (pIs L14 1) i), .int (i : Int)])
    (UK L14 x12 x13) [.int 0, .bool false] [.int 1, .int (dF L14), .int (ins L14)] ?_ ?_ N hN) ?_
  · intro self
    simp only [PXb, PXc, PXn, AB, Ao]
    rfl
  · intro i self hi
    simp only [PXb, PXc, AB, AR (show i ≤ 1099511627776 by omega), Ai hi, AQ hi, BF, W8 (pIs L14 2) (show i ≤ 1099511627776 by omega), W8 (pIs L14 1) (show i ≤ 1099511627776 by omega)]
    unfold UK pIs XS
    simp only [CC]
    cases h3 : iLt 3 (atI L14 i 0) with
    | true => rfl
    | false =>
      cases h1 : atI L14 i 0 == 1 with
      | true =>
        rw [gr h1]
        cases x12 == (i : Int) + 1 <;> cases x13 == (i : Int) + 1 <;> rfl
      | false => cases h2 : atI L14 i 0 == 2 <;> cases x12 == (i : Int) + 1 <;> cases x13 == (i : Int) + 1 <;> rfl
  · unfold UC
    cases Aj (UK L14 x12 x13) L14.length 0 with
    | true => rfl
    | false =>
      simp only [PXb, PXc, PXn, AB]
      cases CK L14 <;> cases h : iLt (ins L14) 1 <;> cases x12 == 0 <;> cases x12 == x13 <;> first | rfl | (simp [RJ, AH, h])
end
end Go.Px
end
section
namespace Go.Px
set_option maxRecDepth 100000
theorem th (s n : Int) : two s n = cond (!(s == 0)) 1 0 + cond (!(n == 0)) 1 0 := by
 unfold two
 cases s == 0 <;> cases n == 0 <;> rfl
theorem tf {s n : Int} {len : Nat} (h1 : 0 ≤ s ∧ s ≤ (len : Int)) (h2 : 0 ≤ n ∧ n ≤ (len : Int)) (hd : (s == n && !(s == 0)) = false) : two s n = CC (XS s n) len := by
 have hs : iLe s (len : Int) = true := by simp only [iLe, decide_eq_true_eq]; omega
 have hn : iLe n (len : Int) = true := by simp only [iLe, decide_eq_true_eq]; omega
 unfold XS
 rw [qb (p := fun i => s == (i : Int) + 1) (q := fun i => n == (i : Int) + 1) len (fun j _ hp => by
  have e1 : s = (j : Int) + 1 := by simpa using hp
  show (n == (j : Int) + 1) = false
  rw [beq_eq_false_iff_ne]
  intro e2
  have e3 : (s == n) = true := by rw [beq_iff_eq]; omega
  have e4 : (s == 0) = false := by rw [beq_eq_false_iff_ne]; omega
  rw [e3, e4] at hd; cases hd), lc s len h1.1, lc n len h2.1, hs, hn, Bool.and_true, Bool.and_true, th]
theorem tq (x : Int) : iLt 0 x = !iLt x 1 := by
 unfold iLt
 rw [Bool.eq_iff_iff]
 simp only [decide_eq_true_eq, Bool.not_eq_true', decide_eq_false_iff_not]
 omega
theorem ru {L : Rows} {s n : Int} (h1 : 0 ≤ s ∧ s ≤ (L.length : Int)) (h2 : 0 ≤ n ∧ n ≤ (L.length : Int)) (hd : (s == n && !(s == 0)) = false) :
    (!Aj (Ro L s n) L.length 0 && two s n == ins L) = !Aj (UK L s n) L.length 0 := by
  have h2c := tf h1 h2 hd
  rw [Bool.eq_iff_iff]
  simp only [Bool.and_eq_true, Bool.not_eq_true', Fp, beq_iff_eq]
  constructor
  · intro ⟨ha, hb⟩ j _ hj
    have hm : ∀ j, j < L.length → pIs L 1 j = true → XS s n j = true := fun j hj hp => by
      have := ha j (Nat.zero_le _) (by omega)
      unfold Ro at this
      rw [hp] at this
      simp only [Bool.or_eq_false_iff, Bool.true_and, Bool.not_eq_false'] at this
      exact this.2
    have he := qo L.length hm (by rw [← h2c, hb]; rfl) j (by omega)
    have := ha j (Nat.zero_le _) hj
    unfold Ro at this
    unfold UK
    rw [Bool.or_eq_false_iff] at this ⊢
    exact ⟨this.1, by rw [he]; simp⟩
  · intro ha
    have hm : ∀ j, j < L.length → pIs L 1 j = XS s n j := fun j hj => by
      have := ha j (Nat.zero_le _) (by omega)
      unfold UK at this
      rw [Bool.or_eq_false_iff] at this
      simpa using this.2
    refine ⟨fun j h0 hj => ?_, ?_⟩
    · have := ha j h0 hj
      unfold UK at this
      unfold Ro
      rw [Bool.or_eq_false_iff] at this ⊢
      refine ⟨this.1, ?_⟩
      rw [hm j (by omega)]
      cases XS s n j <;> rfl
    · rw [h2c]
      exact (jE L.length hm).symm
theorem uM (L : Rows) (s n wk k : Int) (hk : (L.length : Int) = k) : kK L s n wk k = (btw s 0 k && btw n 0 k && UC L s n wk) := by
 subst hk
 unfold kK UC
 cases hs : btw s 0 (L.length : Int) with
 | false => simp only [Bool.false_and, Bool.and_false]
 | true =>
  cases hn : btw n 0 (L.length : Int) with
  | false => simp only [Bool.false_and, Bool.and_false]
  | true =>
   have h1 : 0 ≤ s ∧ s ≤ (L.length : Int) := by simpa [btw, iLe] using hs
   have h2 : 0 ≤ n ∧ n ≤ (L.length : Int) := by simpa [btw, iLe] using hn
   simp only [Bool.true_and]
   cases hd : (s == n && !(s == 0)) with
   | true =>
    have : (!(s == 0) && s == n) = true := by rw [Bool.and_comm]; exact hd
    rw [this]
    simp only [Bool.or_true, Bool.not_true, Bool.false_and, Bool.and_false]
   | false =>
    have : (!(s == 0) && s == n) = false := by rw [Bool.and_comm]; exact hd
    rw [this, ← ru h1 h2 hd]
    simp only [Bool.or_false, Bool.not_false, Bool.true_and]
    rw [show (wk == dF L) = (dF L == wk) from BEq.comm]
    cases hA : Aj (Ro L s n) L.length 0 with
    | true => rfl
    | false =>
     cases hB : two s n == ins L with
     | false => rfl
     | true =>
      rw [beq_iff_eq.1 hB, tq]
      simp only [Bool.true_and, Bool.not_false, Bool.not_and]
end Go.Px
end
section
namespace Go.Px
set_option maxRecDepth 100000
def Cs (v : Int) : Bool := !btw v 0 1000000000
def XJ (x1 x3 x5 x6 x7 x8 x9 x10 x21 x23 x25 x26 : Int) : Rows := [[.int x1], [.int x3], [.int x5], [.int x6], [.int x7], [.int x8], [.int x9], [.int x10], [.int x21], [.int x23], [.int x25], [.int x26]]
section
variable (N : Nat) (L14 L16 L17 L19 L24 : Rows) (b18 b20 : Bool) (x0 x1 x2 x3 x4 x5 x6 x7 x8 x9 x10 x11 x12 x13 x15 x21 x22 x23 x25 x26 x27 : Int)
theorem aR (hN : 2097152 < N) (hl : L19.length ≤ 1048576) : Dx N (lsI L14 L16 L17 L19 L24 b18 b20 x0 x1 x2 x3 x4 x5 x6 x7 x8 x9 x10 x11 x12 x13 x15 x21 x22 x23 x25 x26 x27) = some [.bool (!(KJ Cs (XJ x1 x3 x5 x6 x7 x8 x9 x10 x21 x23 x25 x26) || KJ Cs L19))] := by
 show GE (std (IW N) N) (xOf (lsI ..)) = _
 have e : ∀ ls, IW N 100 [] ls = DC N ls := fun ls => rfl
 rw [← mr]
 simp only [GE, std, xOf, lsI, PXb, PXc, PXn, AB, XJ]
 generalize hM : ([PV.int x1] :: [PV.int x3] :: [PV.int x5] :: [PV.int x6] :: [PV.int x7] :: [PV.int x8] :: [PV.int x9] :: [PV.int x10] :: [PV.int x21] :: [PV.int x23] :: [PV.int x25] :: [PV.int x26] :: L19 : Rows) = M
 have hM2 : M.length ≤ 2097152 := by rw [← hM]; simp only [List.length_cons]; omega
 rw [Hd (n := M.length) (by omega) (by omega)]
 simp only [PXb, PXc, PXn, AB]
 rw [Option.bind_assoc]
 refine AN (CO (len := M.length) (Fx fun i => Cs (atI M i 0)) ?_ ?_ M.length 0 N (by omega) (by omega)) ?_
 ·intro self
  simp only [PXb, PXc, PXn, AB, Ao]
 ·intro i self hi
  simp only [PXb, PXc, PXn, AB, AR (show i ≤ 1099511627776 by omega), Ai hi, AQ hi, Fx, BF, e, W4, Cs]
  cases btw (atI M i 0) 0 1000000000 <;> rfl
 ·unfold KJ
  rw [← Jo]
  unfold Ql
  cases B4 (Fx fun i => Cs (atI M i 0)) M.length 0 <;> rfl
end
def MH (a3 x2 : Int) : Bool := cond (a3 == 0) (x2 == 0) (btw x2 1 a3)
def KR (s : ByteArray) (a1 a2 a3 a4 a5 a6 a7 a9 a10 a11 a12 : Int) (La L14 L16 L17 L19 L24 : Rows) (x0 x1 x2 x3 x4 x5 x6 x7 x8 x9 x10 x11 x12 x13 x15 x21 x22 x23 x25 x26 x27 : Int) : Bool :=
  Dc s a1 a2 a3 a4 a5 a6 a7 a9 a10 a11 a12 La == 0 && (btw x0 1 2 && ((L14.length : Int) == a1 && ((L19.length : Int) == a1 && ((L24.length : Int) == a1 && (!iLt 5 x27 &&
    (btw x12 0 a1 && (btw x13 0 a1 && (UC L14 x12 x13 x4 && (btw x15 0 a1 && (btw x22 0 a1 && (Fd L16 a1 && (Fd L17 a1 && (MH a3 x2 && (btw x11 0 (IntKind.i64.wrap (a4 - 1)) &&
      (!KJ Cs (XJ x1 x3 x5 x6 x7 x8 x9 x10 x21 x23 x25 x26) && !KJ Cs L19)))))))))))))))
theorem pt {s : ByteArray} {a1 a2 a3 a4 a5 a6 a7 a9 a10 a11 a12 : Int} {La : Rows} (h : (Dc s a1 a2 a3 a4 a5 a6 a7 a9 a10 a11 a12 La == 0) = true) : 0 ≤ a3 := by
 unfold Dc at h
 cases hn : Ko s with
 | false => rw [hn] at h; exact absurd h Bool.false_ne_true
 | true =>
  cases hr : Fz a1 a2 a3 a4 a5 a6 a7 a9 a10 a11 a12 with
  | false => rw [hn, hr] at h; exact absurd h Bool.false_ne_true
  | true =>
   unfold Fz at hr
   simp only [Bool.and_eq_true] at hr
   have := hr.1.1.1.1.1.1.1.1.2
   unfold btw iLe at this
   simp only [Bool.and_eq_true, decide_eq_true_eq] at this
   omega
theorem ib {a : Int} (h : 0 ≤ a) : iLt 0 a = !(a == 0) := by
 unfold iLt
 rw [Bool.eq_iff_iff]
 simp only [decide_eq_true_eq, Bool.not_eq_true', beq_eq_false_iff_ne]
 omega
section
variable (N : Nat) (s : ByteArray) (a1 a2 a3 a4 a5 a6 a7 a9 a10 a11 a12 : Int) (a8 : Bool) (La : Rows) (L14 L16 L17 L19 L24 : Rows) (b18 b20 : Bool) (x0 x1 x2 x3 x4 x5 x6 x7 x8 x9 x10 x11 x12 x13 x15 x21 x22 x23 x25 x26 x27 : Int)
theorem SW (hN : 2097152 < N) (hs : s.size ≤ 1048576) (h14 : L14.length ≤ 1048576) (h16 : L16.length ≤ 1048576) (h17 : L17.length ≤ 1048576) (h19 : L19.length ≤ 1048576) : BC N ([.str s, .int a1, .int a2, .int a3, .int a4, .int a5, .int a6, .int a7, .bool a8, .int a9, .int a10, .int a11, .int a12, .rows La] ++ lsI L14 L16 L17 L19 L24 b18 b20 x0 x1 x2 x3 x4 x5 x6 x7 x8 x9 x10 x11 x12 x13 x15 x21 x22 x23 x25 x26 x27) = some [.bool (KR s a1 a2 a3 a4 a5 a6 a7 a9 a10 a11 a12 La L14 L16 L17 L19 L24 x0 x1 x2 x3 x4 x5 x6 x7 x8 x9 x10 x11 x12 x13 x15 x21 x22 x23 x25 x26 x27)] := by
 simp only [lsI, List.cons_append, List.nil_append]
 show Iv (std (CM N) N) (xOf _) = _
 have e1 : ∀ ls, CM N 52 [] ls = AS N ls := fun ls => rfl
 have e2 : ∀ ls, CM N 53 [] ls = Ag N ls := fun ls => rfl
 have e3 : ∀ ls, CM N 54 [] ls = D0 N ls := fun ls => rfl
 have e4 : ∀ ls, CM N 55 [] ls = DF N ls := fun ls => rfl
 have e5 : ∀ ls, CM N 56 [] ls = Dx N ls := fun ls => rfl
 have l54 := aN N L14 L16 L17 L19 L24 b18 b20 x0 x1 x2 x3 x4 x5 x6 x7 x8 x9 x10 x11 x12 x13 x15 x21 x22 x23 x25 x26 x27 a1 (by omega) (by omega)
 have l56 := aR N L14 L16 L17 L19 L24 b18 b20 x0 x1 x2 x3 x4 x5 x6 x7 x8 x9 x10 x11 x12 x13 x15 x21 x22 x23 x25 x26 x27 (by omega) (by omega)
 simp only [lsI, List.cons_append, List.nil_append] at l54 l56
 simp only [Iv, std, xOf, PXb, PXc, PXn, AB, e1, e2, e3, e4, e5, Vo N s _ _ _ _ _ _ _ _ _ _ _ _ _ hN hs, DU, l54, l56, Mr N L16 _ (by omega) (by omega), Mr N L17 _ (by omega) (by omega)]
 unfold KR MH
 cases hc : Dc s a1 a2 a3 a4 a5 a6 a7 a9 a10 a11 a12 La == 0 <;> try rfl
 cases btw x0 1 2 <;> try rfl
 cases h14 : (L14.length : Int) == a1 <;> try rfl
 cases (L19.length : Int) == a1 <;> try rfl
 cases (L24.length : Int) == a1 <;> try rfl
 cases iLt 5 x27 <;> try rfl
 rw [uM L14 x12 x13 x4 a1 (beq_iff_eq.1 h14)]
 cases btw x12 0 a1 <;> try rfl
 cases btw x13 0 a1 <;> try rfl
 cases UC L14 x12 x13 x4 <;> try rfl
 cases btw x15 0 a1 <;> try rfl
 cases btw x22 0 a1 <;> try rfl
 cases Fd L16 a1 <;> try rfl
 cases Fd L17 a1 <;> try rfl
 cases a3 == 0 <;> cases x2 == 0 <;> cases btw x2 1 a3 <;> rfl
theorem ZZ (hN : 2097152 < N) (hs : s.size ≤ 1048576) (h14 : L14.length ≤ 1048576) (h16 : L16.length ≤ 1048576) (h17 : L17.length ≤ 1048576) (h19 : L19.length ≤ 1048576) : CZ N ([.str s, .int a1, .int a2, .int a3, .int a4, .int a5, .int a6, .int a7, .bool a8, .int a9, .int a10, .int a11, .int a12, .rows La] ++ lsI L14 L16 L17 L19 L24 b18 b20 x0 x1 x2 x3 x4 x5 x6 x7 x8 x9 x10 x11 x12 x13 x15 x21 x22 x23 x25 x26 x27) = some [.bool (KR s a1 a2 a3 a4 a5 a6 a7 a9 a10 a11 a12 La L14 L16 L17 L19 L24 x0 x1 x2 x3 x4 x5 x6 x7 x8 x9 x10 x11 x12 x13 x15 x21 x22 x23 x25 x26 x27)] := by
 simp only [lsI, List.cons_append, List.nil_append]
 show Pm (std (FG N) N) (xOf _) = _
 have e1 : ∀ ls, FG N 57 [] ls = Ad N ls := fun ls => rfl
 have e2 : ∀ ls, FG N 58 [] ls = Eg N ls := fun ls => rfl
 have e3 : ∀ ls, FG N 60 [] ls = Hl N ls := fun ls => rfl
 have e4 : ∀ ls, FG N 59 [] ls = P2 N ls := fun ls => rfl
 have l60 := hY N L14 L16 L17 L19 L24 b18 b20 x0 x1 x2 x3 x4 x5 x6 x7 x8 x9 x10 x11 x12 x13 x15 x21 x22 x23 x25 x26 x27 (by omega) (by omega)
 simp only [lsI, List.cons_append, List.nil_append] at l60
 simp only [Pm, std, xOf, PXb, PXc, PXn, AB, e1, e2, e3, e4, Y5 N s _ _ _ _ _ _ _ _ _ _ _ _ _ hN hs, Z4, l60, fD N L16 _ (by omega) (by omega), fD N L17 _ (by omega) (by omega)]
 unfold KR MH
 cases hc : Dc s a1 a2 a3 a4 a5 a6 a7 a9 a10 a11 a12 La == 0 <;> try rfl
 rw [ib (pt hc)]
 cases btw x0 1 2 <;> try rfl
 cases h14 : (L14.length : Int) == a1 <;> try rfl
 cases (L19.length : Int) == a1 <;> try rfl
 cases (L24.length : Int) == a1 <;> try rfl
 cases iLt 5 x27 <;> try rfl
 cases btw x12 0 a1 <;> try rfl
 cases btw x13 0 a1 <;> try rfl
 cases UC L14 x12 x13 x4
 ·simp only [PXb, PXc, PXn, AB]
 cases btw x15 0 a1 <;> try rfl
 cases btw x22 0 a1 <;> try rfl
 cases Fd L16 a1 <;> try rfl
 cases Fd L17 a1 <;> try rfl
 have ho : (a3 == 0 && !(x2 == 0) || !(a3 == 0) && (a3 == 0 && !(x2 == 0) || !!(a3 == 0) || !btw x2 1 a3) || !btw x11 0 (IntKind.i64.wrap (a4 - 1))) = !(MH a3 x2 && btw x11 0 (IntKind.i64.wrap (a4 - 1))) := by
  unfold MH
  cases a3 == 0 <;> cases x2 == 0 <;> cases btw x2 1 a3 <;> cases btw x11 0 (IntKind.i64.wrap (a4 - 1)) <;> rfl
 rw [ho]
 show _ = some [PV.bool (MH a3 x2 && (btw x11 0 (IntKind.i64.wrap (a4 - 1)) && _))]
 rw [← Bool.and_assoc]
 cases MH a3 x2 && btw x11 0 (IntKind.i64.wrap (a4 - 1)) <;> try rfl
 simp only [PXb, PXc, PXn, AB]
 change (HG (fun s11 c11 => cond (iLt (pvI (AH c11 0)) ((XJ x1 x3 x5 x6 x7 x8 x9 x10 x21 x23 x25 x26).length : Int)) (cond (iIn (pvI (AH c11 0)) ((XJ x1 x3 x5 x6 x7 x8 x9 x10 x21 x23 x25 x26).length : Int)) (cond (!btw (pvI (AJ (XJ x1 x3 x5 x6 x7 x8 x9 x10 x21 x23 x25 x26) (pvI (AH c11 0)).toNat 0)) 0 1000000000) (some [PV.int 0, PV.bool false]) (s11 [Leaf.int (IntKind.i64.wrap (pvI (AH c11 0) + 1))])) none) (some [PV.int 1])) N [PV.int 0]).bind _ = _
 generalize hM : XJ x1 x3 x5 x6 x7 x8 x9 x10 x21 x23 x25 x26 = M
 have hM2 : M.length = 12 := by rw [← hM]; rfl
 refine AN (Bf (len := M.length) (fun i => Cs (atI M i 0)) [.bool false] ?_ ?_ N (by omega)) ?_
 ·intro self
  simp only [PXb, PXc, PXn, AB, Ao]
 ·intro i self hi
  simp only [PXb, PXc, PXn, AB, AR (show i ≤ 1099511627776 by omega), Ai hi, AQ hi, BF, Cs]
 ·show _ = some [PV.bool (!Aj (fun i => Cs (atI M i 0)) M.length 0 && _)]
  cases Aj (fun i => Cs (atI M i 0)) M.length 0 <;> try rfl
  refine AN (Bf (len := L19.length) (fun i => Cs (atI L19 i 0)) [.bool false] ?_ ?_ N (by omega)) ?_
  ·intro self
   simp only [PXb, PXc, PXn, AB, Ao]
  ·intro i self hi
   simp only [PXb, PXc, PXn, AB, AR (show i ≤ 1099511627776 by omega), Ai hi, AQ hi, BF, Cs]
  ·show _ = some [PV.bool (!Aj (fun i => Cs (atI L19 i 0)) L19.length 0)]
   cases Aj (fun i => Cs (atI L19 i 0)) L19.length 0 <;> rfl
end
end Go.Px
end
section
namespace Go.Px
set_option maxRecDepth 100000
def mg (v : Bool) (L : Rows) (s n : Int) (x1 x2 x3 x10 : Int) : Int :=
 cond (!v) 0 (cond (iLt 0 x1 && iLe x1 x3) 3 (cond (EU L s n && ((Bm L L.length).length : Int) == 0) 1 (cond (iLt 0 x2 && iLe x2 x10) 2 0)))
theorem o7 {c : Int} {n : Nat} (hc : 0 ≤ c) : iRg 0 (cond (iLt c (n : Int)) c (n : Int)) (n : Int) = true := by
 cases h : iLt c (n : Int) with
 | true => simp only [iLt, decide_eq_true_eq] at h; simp only [cond_true, iRg, decide_eq_true_eq]; omega
 | false => simp only [cond_false, iRg, decide_eq_true_eq]; omega
def cut (L : Rows) (c : Int) : Rows := (L.take (cond (iLt c (L.length : Int)) c (L.length : Int)).toNat).drop (0 : Int).toNat
def sK (s : ByteArray) (c : Int) : ByteArray := s.extract (0 : Int).toNat (cond (iLt c (s.size : Int)) c (s.size : Int)).toNat
theorem si (s : ByteArray) (c : Int) : (sK s c).size ≤ s.size := by
 unfold sK
 rw [ByteArray.size_extract]
 omega
end Go.Px
end
section
namespace Go.Px
set_option maxRecDepth 100000
section
variable (N : Nat) (s : ByteArray) (a1 a2 a3 a4 a5 a6 a7 a9 a10 a11 a12 : Int) (a8 : Bool) (La : Rows) (L14 L16 L17 L19 L24 : Rows) (b18 b20 : Bool) (x0 x1 x2 x3 x4 x5 x6 x7 x8 x9 x10 x11 x12 x13 x15 x21 x22 x23 x25 x26 x27 : Int)
theorem bR (hN : 2097152 < N) (hs : s.size ≤ 1048576) (h14 : L14.length ≤ 1048576) (h16 : L16.length ≤ 1048576) (h17 : L17.length ≤ 1048576) (h19 : L19.length ≤ 1048576) : DI N ([.str s, .int a1, .int a2, .int a3, .int a4, .int a5, .int a6, .int a7, .bool a8, .int a9, .int a10, .int a11, .int a12, .rows La] ++ lsI L14 L16 L17 L19 L24 b18 b20 x0 x1 x2 x3 x4 x5 x6 x7 x8 x9 x10 x11 x12 x13 x15 x21 x22 x23 x25 x26 x27) =
    some [.int (mg (KR s a1 a2 a3 a4 a5 a6 a7 a9 a10 a11 a12 La L14 L16 L17 L19 L24 x0 x1 x2 x3 x4 x5 x6 x7 x8 x9 x10 x11 x12 x13 x15 x21 x22 x23 x25 x26 x27) L14 x12 x13 x1 x2 x3 x10)] := by
  simp only [lsI, List.cons_append, List.nil_append]
  show HH (std (DW N) N) (xOf _) = _
  have e1 : ∀ ls, DW N 16 [] ls = BC N ls := fun ls => rfl
  have e2 : ∀ ls, DW N 61 [] ls = BA N ls := fun ls => rfl
  have e3 : ∀ ls, DW N 62 [] ls = Cf N ls := fun ls => rfl
  have l16 := SW N s a1 a2 a3 a4 a5 a6 a7 a9 a10 a11 a12 a8 La L14 L16 L17 L19 L24 b18 b20 x0 x1 x2 x3 x4 x5 x6 x7 x8 x9 x10 x11 x12 x13 x15 x21 x22 x23 x25 x26 x27 hN hs h14 h16 h17 h19
  have l61 := dv N L14 L16 L17 L19 L24 b18 b20 x0 x1 x2 x3 x4 x5 x6 x7 x8 x9 x10 x11 x12 x13 x15 x21 x22 x23 x25 x26 x27 (by omega) (by omega)
  have l62 := g9 N L14 L16 L17 L19 L24 b18 b20 x0 x1 x2 x3 x4 x5 x6 x7 x8 x9 x10 x11 x12 x13 x15 x21 x22 x23 x25 x26 x27 (by omega) (by omega)
  simp only [lsI, List.cons_append, List.nil_append] at l16 l61 l62
  simp only [HH, std, xOf, PXb, PXc, PXn, AB, e1, e2, e3, l16, l61, l62, mg]
  cases KR s a1 a2 a3 a4 a5 a6 a7 a9 a10 a11 a12 La L14 L16 L17 L19 L24 x0 x1 x2 x3 x4 x5 x6 x7 x8 x9 x10 x11 x12 x13 x15 x21 x22 x23 x25 x26 x27 <;> try rfl
  cases (iLt 0 x1 && iLe x1 x3) <;> try rfl
  cases EU L14 x12 x13
  · cases (iLt 0 x2 && iLe x2 x10) <;> rfl
  · simp only [PXb, PXc, PXn, AB]
    cases ((Bm L14 L14.length).length : Int) == 0 <;> cases (iLt 0 x2 && iLe x2 x10) <;> rfl
theorem j0 (hN : 2097152 < N) (hs : s.size ≤ 1048576) (h14 : L14.length ≤ 1048576) (h16 : L16.length ≤ 1048576) (h17 : L17.length ≤ 1048576) (h19 : L19.length ≤ 1048576) : Ix N ([.str s, .int a1, .int a2, .int a3, .int a4, .int a5, .int a6, .int a7, .bool a8, .int a9, .int a10, .int a11, .int a12, .rows La] ++ lsI L14 L16 L17 L19 L24 b18 b20 x0 x1 x2 x3 x4 x5 x6 x7 x8 x9 x10 x11 x12 x13 x15 x21 x22 x23 x25 x26 x27) =
    some [.int (mg (KR s a1 a2 a3 a4 a5 a6 a7 a9 a10 a11 a12 La L14 L16 L17 L19 L24 x0 x1 x2 x3 x4 x5 x6 x7 x8 x9 x10 x11 x12 x13 x15 x21 x22 x23 x25 x26 x27) L14 x12 x13 x1 x2 x3 x10)] := by
  simp only [lsI, List.cons_append, List.nil_append]
  show Mk (std (Gg N) N) (xOf _) = _
  have e1 : ∀ ls, Gg N 17 [] ls = CZ N ls := fun ls => rfl
  have e2 : ∀ ls, Gg N 63 [] ls = CE N ls := fun ls => rfl
  have e3 : ∀ ls, Gg N 64 [] ls = EA N ls := fun ls => rfl
  have l16 := ZZ N s a1 a2 a3 a4 a5 a6 a7 a9 a10 a11 a12 a8 La L14 L16 L17 L19 L24 b18 b20 x0 x1 x2 x3 x4 x5 x6 x7 x8 x9 x10 x11 x12 x13 x15 x21 x22 x23 x25 x26 x27 hN hs h14 h16 h17 h19
  have l61 := jn N L14 L16 L17 L19 L24 b18 b20 x0 x1 x2 x3 x4 x5 x6 x7 x8 x9 x10 x11 x12 x13 x15 x21 x22 x23 x25 x26 x27 (by omega) (by omega)
  have l62 := no N L14 L16 L17 L19 L24 b18 b20 x0 x1 x2 x3 x4 x5 x6 x7 x8 x9 x10 x11 x12 x13 x15 x21 x22 x23 x25 x26 x27 (by omega) (by omega)
  simp only [lsI, List.cons_append, List.nil_append] at l16 l61 l62
  simp only [Mk, std, xOf, PXb, PXc, PXn, AB, e1, e2, e3, l16, l61, l62, mg]
  cases KR s a1 a2 a3 a4 a5 a6 a7 a9 a10 a11 a12 La L14 L16 L17 L19 L24 x0 x1 x2 x3 x4 x5 x6 x7 x8 x9 x10 x11 x12 x13 x15 x21 x22 x23 x25 x26 x27 <;> try rfl
  cases (iLt 0 x1 && iLe x1 x3) <;> try rfl
  cases EU L14 x12 x13
  · cases (iLt 0 x2 && iLe x2 x10) <;> rfl
  · simp only [PXb, PXc, PXn, AB]
    cases ((Bm L14 L14.length).length : Int) == 0 <;> cases (iLt 0 x2 && iLe x2 x10) <;> rfl
end
end Go.Px
end
section
namespace Go.Px
set_option maxRecDepth 100000
section
variable (N : Nat) (s : ByteArray) (a1 a2 a3 a4 a5 a6 a7 a9 a10 a11 a12 : Int) (a8 : Bool) (La : Rows) (L14 L16 L17 L19 L24 : Rows) (b18 b20 : Bool) (x0 x1 x2 x3 x4 x5 x6 x7 x8 x9 x10 x11 x12 x13 x15 x21 x22 x23 x25 x26 x27 : Int)
def ZQ (a4 x10 x11 : Int) : Int := IntKind.i64.wrap (IntKind.i64.wrap (x10 * a4) + x11)
end
end Go.Px
end
section
namespace Go.Px
set_option maxRecDepth 100000
def Az (r : Rul) : Int := Dc r.name r.side r.innings r.overs r.balls r.quota r.wide r.noball r.newball r.followon r.reviews r.outside r.power
theorem C1 {N : Nat} {r1 r2 r3 r4 r5 r6 r7 r9 r10 r11 r12 : Int} {r8 : Bool} {r0 : ByteArray} {r13 : Rows} (hN : 2097152 < N) (hs : r0.size ≤ 1048576) : AS N [.str r0, .int r1, .int r2, .int r3, .int r4, .int r5, .int r6, .int r7, .bool r8, .int r9, .int r10, .int r11, .int r12, .rows r13] = some [.int (Az (⟨r0, r1, r2, r3, r4, r5, r6, r7, r8, r9, r10, r11, r12, r13⟩ : Rul))] := by
 exact Vo N _ _ _ _ _ _ _ _ _ _ _ _ _ _ hN hs
theorem EF {N : Nat} {r1 r2 r3 r4 r5 r6 r7 r9 r10 r11 r12 : Int} {r8 : Bool} {r0 : ByteArray} {r13 : Rows} (hN : 2097152 < N) (hs : r0.size ≤ 1048576) : Ad N [.str r0, .int r1, .int r2, .int r3, .int r4, .int r5, .int r6, .int r7, .bool r8, .int r9, .int r10, .int r11, .int r12, .rows r13] = some [.int (Az (⟨r0, r1, r2, r3, r4, r5, r6, r7, r8, r9, r10, r11, r12, r13⟩ : Rul))] := by
 exact Y5 N _ _ _ _ _ _ _ _ _ _ _ _ _ _ hN hs
theorem Uz {N : Nat} {s0 s1 s2 s3 s4 s5 s6 s7 s8 s9 s10 s11 s12 s13 s15 s21 s22 s23 s25 s26 s27 : Int} {s18 s20 : Bool} {s14 s16 s17 s19 s24 : Rows} (h : Fit s14 s16 s17 s19 s24) : CW N [.int s0, .int s1, .int s2, .int s3, .int s4, .int s5, .int s6, .int s7, .int s8, .int s9, .int s10, .int s11, .int s12, .int s13, .rows s14, .int s15, .rows s16, .rows s17, .bool s18, .rows s19, .bool s20, .int s21, .int s22, .int s23, .rows s24, .int s25, .int s26, .int s27] = some [.int s0, .int s1, .int s2, .int s3, .int s4, .int s5, .int s6, .int s7, .int s8, .int s9, .int s10, .int s11, .int s12, .int s13, .rows s14, .int s15, .rows s16, .rows s17, .bool s18, .rows s19, .bool s20, .int s21, .int s22, .int s23, .rows s24, .int s25, .int s26, .int s27] := by
 show PM (std (H3 N) N) (xOf _) = _
 simp only [PM, ML, PA, OA, std, xOf, PXb, PXc, PXn, PXm, Nat.reduceAdd, Int.reduceBEq, AU, Ae, Aa, BR h.bt (show 1 ≤ 4096 by omega), BR h.bw' (show 8 ≤ 4096 by omega), BR h.bf (show 8 ≤ 4096 by omega), BR h.bd (show 8 ≤ 4096 by omega), BR h.sb (show 1 ≤ 4096 by omega)]
theorem Uo {N : Nat} {s0 s1 s2 s3 s4 s5 s6 s7 s8 s9 s10 s11 s12 s13 s15 s21 s22 s23 s25 s26 s27 : Int} {s18 s20 : Bool} {s14 s16 s17 s19 s24 : Rows} (h : Fit s14 s16 s17 s19 s24) : CX N [.int s0, .int s1, .int s2, .int s3, .int s4, .int s5, .int s6, .int s7, .int s8, .int s9, .int s10, .int s11, .int s12, .int s13, .rows s14, .int s15, .rows s16, .rows s17, .bool s18, .rows s19, .bool s20, .int s21, .int s22, .int s23, .rows s24, .int s25, .int s26, .int s27] = some [.int s0, .int s1, .int s2, .int s3, .int s4, .int s5, .int s6, .int s7, .int s8, .int s9, .int s10, .int s11, .int s12, .int s13, .rows s14, .int s15, .rows s16, .rows s17, .bool s18, .rows s19, .bool s20, .int s21, .int s22, .int s23, .rows s24, .int s25, .int s26, .int s27] := by
 show Pe (std (Hu N) N) (xOf _) = _
 simp only [Pe, MT, Oo, OD, std, xOf, PXb, PXc, PXn, PXm, Nat.reduceAdd, Int.reduceBEq, AU, Ae, Aa, BR h.bt (show 1 ≤ 4096 by omega), BR h.bw' (show 8 ≤ 4096 by omega), BR h.bf (show 8 ≤ 4096 by omega), BR h.bd (show 8 ≤ 4096 by omega), BR h.sb (show 1 ≤ 4096 by omega)]
theorem B1 {N : Nat} {s0 s1 s2 s3 s4 s5 s6 s7 s8 s9 s10 s11 s12 s13 s15 s21 s22 s23 s25 s26 s27 : Int} {s18 s20 : Bool} {s14 s16 s17 s19 s24 : Rows} (h : Fit s14 s16 s17 s19 s24) : AP N [.int s0, .int s1, .int s2, .int s3, .int s4, .int s5, .int s6, .int s7, .int s8, .int s9, .int s10, .int s11, .int s12, .int s13, .rows s14, .int s15, .rows s16, .rows s17, .bool s18, .rows s19, .bool s20, .int s21, .int s22, .int s23, .rows s24, .int s25, .int s26, .int s27] = some [.int s0, .int s1, .int s2, .int s3, .int s4, .int s5, .int s6, .int s7, .int s8, .int s9, .int s10, .int s11, .int s12, .int s13, .rows s14, .int s15, .rows s16, .rows s17, .bool s18, .rows s19, .bool s20, .int s21, .int s22, .int s23, .rows s24, .int s25, .int s26, .int s27] := by
 show Il (std (D3 N) N) (xOf _) = _
 simp only [Il, Jy, Lp, Kx, std, xOf, PXb, PXc, PXn, PXm, Nat.reduceAdd, Int.reduceBEq, AU, Ae, Aa, BR h.bt (show 1 ≤ 4096 by omega), BR h.bw' (show 8 ≤ 4096 by omega), BR h.bf (show 8 ≤ 4096 by omega), BR h.bd (show 8 ≤ 4096 by omega), BR h.sb (show 1 ≤ 4096 by omega)]
theorem Uv {N : Nat} {s0 s1 s2 s3 s4 s5 s6 s7 s8 s9 s10 s11 s12 s13 s15 s21 s22 s23 s25 s26 s27 : Int} {s18 s20 : Bool} {s14 s16 s17 s19 s24 : Rows} (h : Fit s14 s16 s17 s19 s24) : Cp N [.int s0, .int s1, .int s2, .int s3, .int s4, .int s5, .int s6, .int s7, .int s8, .int s9, .int s10, .int s11, .int s12, .int s13, .rows s14, .int s15, .rows s16, .rows s17, .bool s18, .rows s19, .bool s20, .int s21, .int s22, .int s23, .rows s24, .int s25, .int s26, .int s27] = some [.int s0, .int s1, .int s2, .int s3, .int s4, .int s5, .int s6, .int s7, .int s8, .int s9, .int s10, .int s11, .int s12, .int s13, .rows s14, .int s15, .rows s16, .rows s17, .bool s18, .rows s19, .bool s20, .int s21, .int s22, .int s23, .rows s24, .int s25, .int s26, .int s27] := by
 show PS (std (Qk N) N) (xOf _) = _
 simp only [PS, Vn, std, xOf, PXb, PXc, PXn, PXm, Nat.reduceAdd, Int.reduceBEq, Bs h]
theorem Qo {N : Nat} {s0 s1 s2 s3 s4 s5 s6 s7 s8 s9 s10 s11 s12 s13 s15 s21 s22 s23 s25 s26 s27 : Int} {s18 s20 : Bool} {s14 s16 s17 s19 s24 : Rows} {p : Int}  : Bk N [.int s0, .int s1, .int s2, .int s3, .int s4, .int s5, .int s6, .int s7, .int s8, .int s9, .int s10, .int s11, .int s12, .int s13, .rows s14, .int s15, .rows s16, .rows s17, .bool s18, .rows s19, .bool s20, .int s21, .int s22, .int s23, .rows s24, .int s25, .int s26, .int s27, .int p] = some [.bool (inR p s19.length)] := by
 show LH (std (UO N) N) (xOf _) = _
 simp only [LH, std, xOf, PXb, PXc, PXn, PXm, Nat.reduceAdd, Int.reduceBEq]
 rfl
theorem TP {N : Nat} {s0 s1 s2 s3 s4 s5 s6 s7 s8 s9 s10 s11 s12 s13 s15 s21 s22 s23 s25 s26 s27 : Int} {s18 s20 : Bool} {s14 s16 s17 s19 s24 : Rows} {p : Int}  : B9 N [.int s0, .int s1, .int s2, .int s3, .int s4, .int s5, .int s6, .int s7, .int s8, .int s9, .int s10, .int s11, .int s12, .int s13, .rows s14, .int s15, .rows s16, .rows s17, .bool s18, .rows s19, .bool s20, .int s21, .int s22, .int s23, .rows s24, .int s25, .int s26, .int s27, .int p] = some [.bool (inR p s19.length)] := by
 show N5 (std (WA N) N) (xOf _) = _
 simp only [N5, std, xOf, PXb, PXc, PXn, PXm, Nat.reduceAdd, Int.reduceBEq]
 rfl
theorem Hx {N : Nat} {s0 s1 s2 s3 s4 s5 s6 s7 s8 s9 s10 s11 s12 s13 s15 s21 s22 s23 s25 s26 s27 : Int} {s18 s20 : Bool} {s14 s16 s17 s19 s24 : Rows} {p : Int}  : Aw N [.int s0, .int s1, .int s2, .int s3, .int s4, .int s5, .int s6, .int s7, .int s8, .int s9, .int s10, .int s11, .int s12, .int s13, .rows s14, .int s15, .rows s16, .rows s17, .bool s18, .rows s19, .bool s20, .int s21, .int s22, .int s23, .rows s24, .int s25, .int s26, .int s27, .int p] = some [.bool (inR p s24.length)] := by
 show LU (std (Tv N) N) (xOf _) = _
 simp only [LU, std, xOf, PXb, PXc, PXn, PXm, Nat.reduceAdd, Int.reduceBEq]
 rfl
theorem Nw {N : Nat} {s0 s1 s2 s3 s4 s5 s6 s7 s8 s9 s10 s11 s12 s13 s15 s21 s22 s23 s25 s26 s27 : Int} {s18 s20 : Bool} {s14 s16 s17 s19 s24 : Rows} {p : Int}  : BN N [.int s0, .int s1, .int s2, .int s3, .int s4, .int s5, .int s6, .int s7, .int s8, .int s9, .int s10, .int s11, .int s12, .int s13, .rows s14, .int s15, .rows s16, .rows s17, .bool s18, .rows s19, .bool s20, .int s21, .int s22, .int s23, .rows s24, .int s25, .int s26, .int s27, .int p] = some [.bool (inR p s24.length)] := by
 show Mp (std (VZ N) N) (xOf _) = _
 simp only [Mp, std, xOf, PXb, PXc, PXn, PXm, Nat.reduceAdd, Int.reduceBEq]
 rfl
def atB (L : Rows) (i j : Nat) : Bool := pvB (AJ L i j)
theorem gz (L : Rows) (i j : Nat) : pvB (AJ L i j) = atB L i j := rfl
def Cm (s : Inn) (p : Int) : Bool := inR p s.subs.length && atB s.subs (ix p) 0
theorem HO {N : Nat} {s0 s1 s2 s3 s4 s5 s6 s7 s8 s9 s10 s11 s12 s13 s15 s21 s22 s23 s25 s26 s27 : Int} {s18 s20 : Bool} {s14 s16 s17 s19 s24 : Rows} {p : Int} (h : s24.length ≤ 1048576) : Av N [.int s0, .int s1, .int s2, .int s3, .int s4, .int s5, .int s6, .int s7, .int s8, .int s9, .int s10, .int s11, .int s12, .int s13, .rows s14, .int s15, .rows s16, .rows s17, .bool s18, .rows s19, .bool s20, .int s21, .int s22, .int s23, .rows s24, .int s25, .int s26, .int s27, .int p] = some [.bool (Cm (⟨s0, s1, s2, s3, s4, s5, s6, s7, s8, s9, s10, s11, s12, s13, s14, s15, s16, s17, s18, s19, s20, s21, s22, s23, s24, s25, s26, s27⟩ : Inn) p)] := by
 show He (std (JA N) N) (xOf _) = _
 generalize hres : (some [.bool (Cm (⟨s0, s1, s2, s3, s4, s5, s6, s7, s8, s9, s10, s11, s12, s13, s14, s15, s16, s17, s18, s19, s20, s21, s22, s23, s24, s25, s26, s27⟩ : Inn) p)] : Option (List PV)) = RR
 simp only [He, O1, std, xOf, PXb, PXc, PXn, PXm, Nat.reduceAdd, Int.reduceBEq, Hx, oi h]
 subst hres; simp only [Cm]
 cases hp : inR p s24.length with
 | false => rfl
 | true => first | rfl | (rw [C8 hp h]; rfl)
theorem GY {N : Nat} {s0 s1 s2 s3 s4 s5 s6 s7 s8 s9 s10 s11 s12 s13 s15 s21 s22 s23 s25 s26 s27 : Int} {s18 s20 : Bool} {s14 s16 s17 s19 s24 : Rows} {p : Int} (h : s24.length ≤ 1048576) : As N [.int s0, .int s1, .int s2, .int s3, .int s4, .int s5, .int s6, .int s7, .int s8, .int s9, .int s10, .int s11, .int s12, .int s13, .rows s14, .int s15, .rows s16, .rows s17, .bool s18, .rows s19, .bool s20, .int s21, .int s22, .int s23, .rows s24, .int s25, .int s26, .int s27, .int p] = some [.bool (Cm (⟨s0, s1, s2, s3, s4, s5, s6, s7, s8, s9, s10, s11, s12, s13, s14, s15, s16, s17, s18, s19, s20, s21, s22, s23, s24, s25, s26, s27⟩ : Inn) p)] := by
 show Jg (std (SO N) N) (xOf _) = _
 generalize hres : (some [.bool (Cm (⟨s0, s1, s2, s3, s4, s5, s6, s7, s8, s9, s10, s11, s12, s13, s14, s15, s16, s17, s18, s19, s20, s21, s22, s23, s24, s25, s26, s27⟩ : Inn) p)] : Option (List PV)) = RR
 simp only [Jg, std, xOf, PXb, PXc, PXn, PXm, Nat.reduceAdd, Int.reduceBEq, oi h]
 subst hres; simp only [Cm]
 cases hp : inR p s24.length with
 | false =>
  unfold inR at hp
  have hq : (!iLe 1 p || !iLe p (s24.length : Int) || iIn (IntKind.i64.wrap (p - 1)) (s24.length : Int)) = true := by rw [← Bool.not_and, hp]; rfl
  simp only [hp, hq, PXb, PXc, PXn, PXm, Nat.reduceAdd, Int.reduceBEq]
 | true => have hk := C8 hp h; unfold inR at hp; simp only [hp, hk, PXb, PXc, PXn, PXm, Nat.reduceAdd, Int.reduceBEq, atB, ix]
def de (x : Int) : Int := cond (iLt x 0) 0 x
def M6 (r : Rul) (s : Inn) (p : Int) : Int :=
 cond (!inR p s.bowled.length || !(Az r == 0)) 0 (cond (r.quota == 0) (-1) (de (IntKind.i64.wrap (IntKind.i64.wrap (r.quota * r.balls) - de (atI s.bowled (ix p) 0)))))
theorem pn (r : Rul) (s : Inn) (p : Int) : iLe 0 (M6 r s p) = !(M6 r s p == -1) := by
 unfold M6
 cases (!inR p s.bowled.length || !(Az r == 0)) with
 | true => rfl
 | false =>
  cases r.quota == 0 with
  | true => rfl
  | false =>
   simp only [cond_false]
   generalize IntKind.i64.wrap (IntKind.i64.wrap (r.quota * r.balls) - de (atI s.bowled (ix p) 0)) = x
   unfold de
   cases h : iLt x 0 with
   | true => rfl
   | false =>
    simp only [iLt, decide_eq_false_iff_not] at h
    simp only [cond_false]
    have h1 : iLe 0 x = true := by simp only [iLe, decide_eq_true_eq]; omega
    have h2 : (x == -1) = false := by simp only [beq_eq_false_iff_ne]; omega
    rw [h1, h2]; rfl
theorem lV {N : Nat} {r1 r2 r3 r4 r5 r6 r7 r9 r10 r11 r12 : Int} {r8 : Bool} {r0 : ByteArray} {r13 : Rows} {s0 s1 s2 s3 s4 s5 s6 s7 s8 s9 s10 s11 s12 s13 s15 s21 s22 s23 s25 s26 s27 : Int} {s18 s20 : Bool} {s14 s16 s17 s19 s24 : Rows} {p : Int} (h : Fit s14 s16 s17 s19 s24) (hN : 2097152 < N) (hs : r0.size ≤ 1048576) : JF N [.str r0, .int r1, .int r2, .int r3, .int r4, .int r5, .int r6, .int r7, .bool r8, .int r9, .int r10, .int r11, .int r12, .rows r13, .int s0, .int s1, .int s2, .int s3, .int s4, .int s5, .int s6, .int s7, .int s8, .int s9, .int s10, .int s11, .int s12, .int s13, .rows s14, .int s15, .rows s16, .rows s17, .bool s18, .rows s19, .bool s20, .int s21, .int s22, .int s23, .rows s24, .int s25, .int s26, .int s27, .int p] = some [.int (M6 (⟨r0, r1, r2, r3, r4, r5, r6, r7, r8, r9, r10, r11, r12, r13⟩ : Rul) (⟨s0, s1, s2, s3, s4, s5, s6, s7, s8, s9, s10, s11, s12, s13, s14, s15, s16, s17, s18, s19, s20, s21, s22, s23, s24, s25, s26, s27⟩ : Inn) p)] := by
 show NW (std (Jr N) N) (xOf _) = _
 generalize hres : (some [.int (M6 (⟨r0, r1, r2, r3, r4, r5, r6, r7, r8, r9, r10, r11, r12, r13⟩ : Rul) (⟨s0, s1, s2, s3, s4, s5, s6, s7, s8, s9, s10, s11, s12, s13, s14, s15, s16, s17, s18, s19, s20, s21, s22, s23, s24, s25, s26, s27⟩ : Inn) p)] : Option (List PV)) = RR
 simp only [NW, TN, SM, std, xOf, PXb, PXc, PXn, PXm, Nat.reduceAdd, Int.reduceBEq, C1 hN hs, Qo]
 subst hres; simp only [M6]
 cases hp : inR p s19.length with
 | false => rfl
 | true => rw [C8 hp h.bd]; cases Az (⟨r0, r1, r2, r3, r4, r5, r6, r7, r8, r9, r10, r11, r12, r13⟩ : Rul) == 0 <;> cases r5 == 0 <;> rfl
theorem pX {N : Nat} {r1 r2 r3 r4 r5 r6 r7 r9 r10 r11 r12 : Int} {r8 : Bool} {r0 : ByteArray} {r13 : Rows} {s0 s1 s2 s3 s4 s5 s6 s7 s8 s9 s10 s11 s12 s13 s15 s21 s22 s23 s25 s26 s27 : Int} {s18 s20 : Bool} {s14 s16 s17 s19 s24 : Rows} {p : Int} (h : Fit s14 s16 s17 s19 s24) (hN : 2097152 < N) (hs : r0.size ≤ 1048576) : Mq N [.str r0, .int r1, .int r2, .int r3, .int r4, .int r5, .int r6, .int r7, .bool r8, .int r9, .int r10, .int r11, .int r12, .rows r13, .int s0, .int s1, .int s2, .int s3, .int s4, .int s5, .int s6, .int s7, .int s8, .int s9, .int s10, .int s11, .int s12, .int s13, .rows s14, .int s15, .rows s16, .rows s17, .bool s18, .rows s19, .bool s20, .int s21, .int s22, .int s23, .rows s24, .int s25, .int s26, .int s27, .int p] = some [.int (M6 (⟨r0, r1, r2, r3, r4, r5, r6, r7, r8, r9, r10, r11, r12, r13⟩ : Rul) (⟨s0, s1, s2, s3, s4, s5, s6, s7, s8, s9, s10, s11, s12, s13, s14, s15, s16, s17, s18, s19, s20, s21, s22, s23, s24, s25, s26, s27⟩ : Inn) p)] := by
 show RH (std (M2 N) N) (xOf _) = _
 generalize hres : (some [.int (M6 (⟨r0, r1, r2, r3, r4, r5, r6, r7, r8, r9, r10, r11, r12, r13⟩ : Rul) (⟨s0, s1, s2, s3, s4, s5, s6, s7, s8, s9, s10, s11, s12, s13, s14, s15, s16, s17, s18, s19, s20, s21, s22, s23, s24, s25, s26, s27⟩ : Inn) p)] : Option (List PV)) = RR
 simp only [RH, Xm, V1, std, xOf, PXb, PXc, PXn, PXm, Nat.reduceAdd, Int.reduceBEq, EF hN hs, TP]
 subst hres; simp only [M6]
 cases hp : inR p s19.length with
 | false => cases Az (⟨r0, r1, r2, r3, r4, r5, r6, r7, r8, r9, r10, r11, r12, r13⟩ : Rul) == 0 <;> rfl
 | true => rw [C8 hp h.bd]; cases Az (⟨r0, r1, r2, r3, r4, r5, r6, r7, r8, r9, r10, r11, r12, r13⟩ : Rul) == 0 <;> cases r5 == 0 <;> rfl
theorem ir {N : Nat} {L : Rows} {v : Int} (hN : 2097152 < N) (hl : L.length ≤ 1048576) : HB N [.rows L, .int v] = some [.bool (GR L L.length v)] := by
 show UU (std (dB N) N) (xOf _) = _
 simp only [UU, std, xOf, PXb, PXc, PXn, AB]
 refine AN (Bf (len := L.length) (fun j => v == atI L j 0) [.bool true] ?_ ?_ N (by omega)) ?_
 ·intro self
  simp only [PXb, PXc, PXn, AB, Ao]
 ·intro i self hi
  simp only [PXb, PXc, PXn, AB, AR (show i ≤ 1099511627776 by omega), Ai hi, AQ hi, BF]
  rw [BEq.comm (a := v)]
 ·unfold GR
  cases Aj (fun j => v == atI L j 0) L.length 0 <;> rfl
theorem MG {N : Nat} {L : Rows} {v : Int} (hN : 2097152 < N) (hl : L.length ≤ 1048576) : Al N [.rows L, .int v] = some [.bool (GR L L.length v)] := by
 exact Kt N L v (by omega) (by omega)
def IK (r : Rul) (s : Inn) (p : Int) : Int :=
  cond (!inR p s.bowled.length || !(Az r == 0)) 3 (cond (p == s.keeper || p == s.bowler || Cm s p) 7
    (cond (GR s.before s.before.length p) 8 (cond (!(M6 r s p == -1) && iLt s.inover (IntKind.i64.wrap (r.balls - M6 r s p))) 9 0)))
theorem qX {p : Int} {n m : Nat} (h : inR p n = true) : inR p m = iLe p (m : Int) := by
 unfold inR at h ⊢
 rw [Bool.and_eq_true] at h
 rw [h.1, Bool.true_and]
theorem nX {N : Nat} {r1 r2 r3 r4 r5 r6 r7 r9 r10 r11 r12 : Int} {r8 : Bool} {r0 : ByteArray} {r13 : Rows} {s0 s1 s2 s3 s4 s5 s6 s7 s8 s9 s10 s11 s12 s13 s15 s21 s22 s23 s25 s26 s27 : Int} {s18 s20 : Bool} {s14 s16 s17 s19 s24 : Rows} {p : Int} (h : Fit s14 s16 s17 s19 s24) (hN : 2097152 < N) (hs : r0.size ≤ 1048576) : Kd N [.str r0, .int r1, .int r2, .int r3, .int r4, .int r5, .int r6, .int r7, .bool r8, .int r9, .int r10, .int r11, .int r12, .rows r13, .int s0, .int s1, .int s2, .int s3, .int s4, .int s5, .int s6, .int s7, .int s8, .int s9, .int s10, .int s11, .int s12, .int s13, .rows s14, .int s15, .rows s16, .rows s17, .bool s18, .rows s19, .bool s20, .int s21, .int s22, .int s23, .rows s24, .int s25, .int s26, .int s27, .int p] = some [.int (IK (⟨r0, r1, r2, r3, r4, r5, r6, r7, r8, r9, r10, r11, r12, r13⟩ : Rul) (⟨s0, s1, s2, s3, s4, s5, s6, s7, s8, s9, s10, s11, s12, s13, s14, s15, s16, s17, s18, s19, s20, s21, s22, s23, s24, s25, s26, s27⟩ : Inn) p)] := by
 show Pj (std (FC N) N) (xOf _) = _
 generalize hres : (some [.int (IK (⟨r0, r1, r2, r3, r4, r5, r6, r7, r8, r9, r10, r11, r12, r13⟩ : Rul) (⟨s0, s1, s2, s3, s4, s5, s6, s7, s8, s9, s10, s11, s12, s13, s14, s15, s16, s17, s18, s19, s20, s21, s22, s23, s24, s25, s26, s27⟩ : Inn) p)] : Option (List PV)) = RR
 simp only [Pj, TQ, MS, Ti, VH, std, xOf, PXb, PXc, PXn, PXm, Nat.reduceAdd, Int.reduceBEq, C1 hN hs, Qo, lV h hN hs, MG hN h.bf]
 subst hres; simp only [IK, Cm]
 cases hp : inR p s19.length with
 | false => rfl
 | true =>
  rw [qX (m := s24.length) hp]
  have hq : (!(iLe p (s24.length : Int)) || iIn (IntKind.i64.wrap (p - 1)) (s24.length : Int)) = true := by
   cases h1 : iLe p (s24.length : Int) with
   | false => rfl
   | true => rw [C8 (by rw [qX hp]; exact h1) h.sb]; rfl
  rw [hq]
  cases Az (⟨r0, r1, r2, r3, r4, r5, r6, r7, r8, r9, r10, r11, r12, r13⟩ : Rul) == 0 <;> rfl
theorem rW {N : Nat} {r1 r2 r3 r4 r5 r6 r7 r9 r10 r11 r12 : Int} {r8 : Bool} {r0 : ByteArray} {r13 : Rows} {s0 s1 s2 s3 s4 s5 s6 s7 s8 s9 s10 s11 s12 s13 s15 s21 s22 s23 s25 s26 s27 : Int} {s18 s20 : Bool} {s14 s16 s17 s19 s24 : Rows} {p : Int} (h : Fit s14 s16 s17 s19 s24) (hN : 2097152 < N) (hs : r0.size ≤ 1048576) : QI N [.str r0, .int r1, .int r2, .int r3, .int r4, .int r5, .int r6, .int r7, .bool r8, .int r9, .int r10, .int r11, .int r12, .rows r13, .int s0, .int s1, .int s2, .int s3, .int s4, .int s5, .int s6, .int s7, .int s8, .int s9, .int s10, .int s11, .int s12, .int s13, .rows s14, .int s15, .rows s16, .rows s17, .bool s18, .rows s19, .bool s20, .int s21, .int s22, .int s23, .rows s24, .int s25, .int s26, .int s27, .int p] = some [.int (IK (⟨r0, r1, r2, r3, r4, r5, r6, r7, r8, r9, r10, r11, r12, r13⟩ : Rul) (⟨s0, s1, s2, s3, s4, s5, s6, s7, s8, s9, s10, s11, s12, s13, s14, s15, s16, s17, s18, s19, s20, s21, s22, s23, s24, s25, s26, s27⟩ : Inn) p)] := by
 show Tx (std (Fy N) N) (xOf _) = _
 generalize hres : (some [.int (IK (⟨r0, r1, r2, r3, r4, r5, r6, r7, r8, r9, r10, r11, r12, r13⟩ : Rul) (⟨s0, s1, s2, s3, s4, s5, s6, s7, s8, s9, s10, s11, s12, s13, s14, s15, s16, s17, s18, s19, s20, s21, s22, s23, s24, s25, s26, s27⟩ : Inn) p)] : Option (List PV)) = RR
 simp only [Tx, Yo, VJ, XY, Z1, bT, std, xOf, PXb, PXc, PXn, PXm, Nat.reduceAdd, Int.reduceBEq, EF hN hs, TP, pX h hN hs, ir hN h.bf, GY h.sb, pn]
 subst hres; simp only [IK]
 cases hp : inR p s19.length <;> cases Az (⟨r0, r1, r2, r3, r4, r5, r6, r7, r8, r9, r10, r11, r12, r13⟩ : Rul) == 0 <;> cases p == s22 <;> cases p == s15 <;> rfl
def Rw (r : Rul) (s : Inn) (p : Int) : Inn × Int := (cond (IK r s p == 0) { s with bowler := p } s, IK r s p)
theorem ma {N : Nat} {r1 r2 r3 r4 r5 r6 r7 r9 r10 r11 r12 : Int} {r8 : Bool} {r0 : ByteArray} {r13 : Rows} {s0 s1 s2 s3 s4 s5 s6 s7 s8 s9 s10 s11 s12 s13 s15 s21 s22 s23 s25 s26 s27 : Int} {s18 s20 : Bool} {s14 s16 s17 s19 s24 : Rows} {p : Int} (h : Fit s14 s16 s17 s19 s24) (hN : 2097152 < N) (hs : r0.size ≤ 1048576) : JT N [.str r0, .int r1, .int r2, .int r3, .int r4, .int r5, .int r6, .int r7, .bool r8, .int r9, .int r10, .int r11, .int r12, .rows r13, .int s0, .int s1, .int s2, .int s3, .int s4, .int s5, .int s6, .int s7, .int s8, .int s9, .int s10, .int s11, .int s12, .int s13, .rows s14, .int s15, .rows s16, .rows s17, .bool s18, .rows s19, .bool s20, .int s21, .int s22, .int s23, .rows s24, .int s25, .int s26, .int s27, .int p] = some (AW (Rw (⟨r0, r1, r2, r3, r4, r5, r6, r7, r8, r9, r10, r11, r12, r13⟩ : Rul) (⟨s0, s1, s2, s3, s4, s5, s6, s7, s8, s9, s10, s11, s12, s13, s14, s15, s16, s17, s18, s19, s20, s21, s22, s23, s24, s25, s26, s27⟩ : Inn) p)) := by
 show N6 (std (Jq N) N) (xOf _) = _
 generalize hres : (some (AW (Rw (⟨r0, r1, r2, r3, r4, r5, r6, r7, r8, r9, r10, r11, r12, r13⟩ : Rul) (⟨s0, s1, s2, s3, s4, s5, s6, s7, s8, s9, s10, s11, s12, s13, s14, s15, s16, s17, s18, s19, s20, s21, s22, s23, s24, s25, s26, s27⟩ : Inn) p)) : Option (List PV)) = RR
 simp only [N6, Un, VN, std, xOf, PXb, PXc, PXn, PXm, Nat.reduceAdd, Int.reduceBEq, Uz h, nX h hN hs]
 subst hres; simp only [Rw]
 cases IK (⟨r0, r1, r2, r3, r4, r5, r6, r7, r8, r9, r10, r11, r12, r13⟩ : Rul) (⟨s0, s1, s2, s3, s4, s5, s6, s7, s8, s9, s10, s11, s12, s13, s14, s15, s16, s17, s18, s19, s20, s21, s22, s23, s24, s25, s26, s27⟩ : Inn) p == 0 <;> rfl
theorem pj {N : Nat} {r1 r2 r3 r4 r5 r6 r7 r9 r10 r11 r12 : Int} {r8 : Bool} {r0 : ByteArray} {r13 : Rows} {s0 s1 s2 s3 s4 s5 s6 s7 s8 s9 s10 s11 s12 s13 s15 s21 s22 s23 s25 s26 s27 : Int} {s18 s20 : Bool} {s14 s16 s17 s19 s24 : Rows} {p : Int} (h : Fit s14 s16 s17 s19 s24) (hN : 2097152 < N) (hs : r0.size ≤ 1048576) : Rm N [.str r0, .int r1, .int r2, .int r3, .int r4, .int r5, .int r6, .int r7, .bool r8, .int r9, .int r10, .int r11, .int r12, .rows r13, .int s0, .int s1, .int s2, .int s3, .int s4, .int s5, .int s6, .int s7, .int s8, .int s9, .int s10, .int s11, .int s12, .int s13, .rows s14, .int s15, .rows s16, .rows s17, .bool s18, .rows s19, .bool s20, .int s21, .int s22, .int s23, .rows s24, .int s25, .int s26, .int s27, .int p] = some (AW (Rw (⟨r0, r1, r2, r3, r4, r5, r6, r7, r8, r9, r10, r11, r12, r13⟩ : Rul) (⟨s0, s1, s2, s3, s4, s5, s6, s7, s8, s9, s10, s11, s12, s13, s14, s15, s16, s17, s18, s19, s20, s21, s22, s23, s24, s25, s26, s27⟩ : Inn) p)) := by
 show R3 (std (Nf N) N) (xOf _) = _
 generalize hres : (some (AW (Rw (⟨r0, r1, r2, r3, r4, r5, r6, r7, r8, r9, r10, r11, r12, r13⟩ : Rul) (⟨s0, s1, s2, s3, s4, s5, s6, s7, s8, s9, s10, s11, s12, s13, s14, s15, s16, s17, s18, s19, s20, s21, s22, s23, s24, s25, s26, s27⟩ : Inn) p)) : Option (List PV)) = RR
 simp only [R3, Xn, aZ, std, xOf, PXb, PXc, PXn, PXm, Nat.reduceAdd, Int.reduceBEq, Bs h, rW h hN hs]
 subst hres; simp only [Rw]
 cases IK (⟨r0, r1, r2, r3, r4, r5, r6, r7, r8, r9, r10, r11, r12, r13⟩ : Rul) (⟨s0, s1, s2, s3, s4, s5, s6, s7, s8, s9, s10, s11, s12, s13, s14, s15, s16, s17, s18, s19, s20, s21, s22, s23, s24, s25, s26, s27⟩ : Inn) p == 0 <;> rfl
def hZ (x : Inn × Bool) : List PV := [.int x.1.side, .int x.1.target, .int x.1.overs, .int x.1.runs, .int x.1.wickets, .int x.1.wides, .int x.1.noballs, .int x.1.byes, .int x.1.legbyes, .int x.1.pens, .int x.1.complete, .int x.1.inover, .int x.1.striker, .int x.1.other, .rows x.1.batters, .int x.1.bowler, .rows x.1.bowlers, .rows x.1.before, .bool x.1.fresh, .rows x.1.bowled, .bool x.1.freehit, .int x.1.ballage, .int x.1.keeper, .int x.1.outside, .rows x.1.subs, .int x.1.rev1, .int x.1.rev2, .int x.1.ending, .bool x.2]
def inc (x : Int) : Int := IntKind.i64.wrap (x + 1)
def DA (r : Rul) (s : Inn) (counts : Bool) : Inn × Bool :=
  cond (!inR s.bowler s.bowled.length || !(Az r == 0)) (s, false)
    (let L := cond (GR s.bowlers s.bowlers.length s.bowler) s.bowlers (s.bowlers ++ [[.int s.bowler]])
     let o := cond counts (inc s.inover) s.inover
     let t : Inn := { s with bowlers := L, bowled := cond counts (I1 s.bowled s.bowler (inc (atI s.bowled (ix s.bowler) 0))) s.bowled, inover := o, ballage := cond counts (inc s.ballage) s.ballage }
     cond (iLt o r.balls) (t, false) ({ t with complete := inc s.complete, inover := 0, before := L, bowlers := [], bowler := 0 }, true))
theorem mf {N : Nat} {r1 r2 r3 r4 r5 r6 r7 r9 r10 r11 r12 : Int} {r8 : Bool} {r0 : ByteArray} {r13 : Rows} {s0 s1 s2 s3 s4 s5 s6 s7 s8 s9 s10 s11 s12 s13 s15 s21 s22 s23 s25 s26 s27 : Int} {s18 s20 : Bool} {s14 s16 s17 s19 s24 : Rows} {b : Bool} (h : Fit s14 s16 s17 s19 s24) (hw : s16.length ≤ 1048575) (hN : 2097152 < N) (hs : r0.size ≤ 1048576) : Iy N [.str r0, .int r1, .int r2, .int r3, .int r4, .int r5, .int r6, .int r7, .bool r8, .int r9, .int r10, .int r11, .int r12, .rows r13, .int s0, .int s1, .int s2, .int s3, .int s4, .int s5, .int s6, .int s7, .int s8, .int s9, .int s10, .int s11, .int s12, .int s13, .rows s14, .int s15, .rows s16, .rows s17, .bool s18, .rows s19, .bool s20, .int s21, .int s22, .int s23, .rows s24, .int s25, .int s26, .int s27, .bool b] = some (hZ (DA (⟨r0, r1, r2, r3, r4, r5, r6, r7, r8, r9, r10, r11, r12, r13⟩ : Rul) (⟨s0, s1, s2, s3, s4, s5, s6, s7, s8, s9, s10, s11, s12, s13, s14, s15, s16, s17, s18, s19, s20, s21, s22, s23, s24, s25, s26, s27⟩ : Inn) b)) := by
 show Ma (std (EN N) N) (xOf _) = _
 generalize hres : (some (hZ (DA (⟨r0, r1, r2, r3, r4, r5, r6, r7, r8, r9, r10, r11, r12, r13⟩ : Rul) (⟨s0, s1, s2, s3, s4, s5, s6, s7, s8, s9, s10, s11, s12, s13, s14, s15, s16, s17, s18, s19, s20, s21, s22, s23, s24, s25, s26, s27⟩ : Inn) b)) : Option (List PV)) = RR
 have ha : (s16 ++ [[PV.int s15]]).length ≤ 1048576 := by simp; omega
 simp only [Ma, Sw, Ll, U7, SB, std, xOf, PXb, PXc, PXn, PXm, Nat.reduceAdd, Int.reduceBEq, Uz h, Qo, C1 hN hs, MG hN h.bw', JD ha (show 8 ≤ 4096 by omega)]
 subst hres; simp only [DA]
 cases hp : inR s15 s19.length with
 | false => rfl
 | true =>
  rw [C8 hp h.bd]
  cases Az (⟨r0, r1, r2, r3, r4, r5, r6, r7, r8, r9, r10, r11, r12, r13⟩ : Rul) == 0 <;> try rfl
  cases GR s16 s16.length s15 <;> cases b <;> simp only [PXb, PXc, PXn, PXm, Nat.reduceAdd, Int.reduceBEq, inc]
  all_goals first | (cases iLt s11 r4 <;> rfl) | (cases iLt (IntKind.i64.wrap (s11 + 1)) r4 <;> rfl)
theorem pz {N : Nat} {r1 r2 r3 r4 r5 r6 r7 r9 r10 r11 r12 : Int} {r8 : Bool} {r0 : ByteArray} {r13 : Rows} {s0 s1 s2 s3 s4 s5 s6 s7 s8 s9 s10 s11 s12 s13 s15 s21 s22 s23 s25 s26 s27 : Int} {s18 s20 : Bool} {s14 s16 s17 s19 s24 : Rows} {b : Bool} (h : Fit s14 s16 s17 s19 s24) (hw : s16.length ≤ 1048575) (hN : 2097152 < N) (hs : r0.size ≤ 1048576) : Rv N [.str r0, .int r1, .int r2, .int r3, .int r4, .int r5, .int r6, .int r7, .bool r8, .int r9, .int r10, .int r11, .int r12, .rows r13, .int s0, .int s1, .int s2, .int s3, .int s4, .int s5, .int s6, .int s7, .int s8, .int s9, .int s10, .int s11, .int s12, .int s13, .rows s14, .int s15, .rows s16, .rows s17, .bool s18, .rows s19, .bool s20, .int s21, .int s22, .int s23, .rows s24, .int s25, .int s26, .int s27, .bool b] = some (hZ (DA (⟨r0, r1, r2, r3, r4, r5, r6, r7, r8, r9, r10, r11, r12, r13⟩ : Rul) (⟨s0, s1, s2, s3, s4, s5, s6, s7, s8, s9, s10, s11, s12, s13, s14, s15, s16, s17, s18, s19, s20, s21, s22, s23, s24, s25, s26, s27⟩ : Inn) b)) := by
 show RW (std (Gd N) N) (xOf _) = _
 generalize hres : (some (hZ (DA (⟨r0, r1, r2, r3, r4, r5, r6, r7, r8, r9, r10, r11, r12, r13⟩ : Rul) (⟨s0, s1, s2, s3, s4, s5, s6, s7, s8, s9, s10, s11, s12, s13, s14, s15, s16, s17, s18, s19, s20, s21, s22, s23, s24, s25, s26, s27⟩ : Inn) b)) : Option (List PV)) = RR
 have ha : (s16 ++ [[PV.int s15]]).length ≤ 1048576 := by simp; omega
 simp only [RW, Xt, Xo, Vm, ZP, std, xOf, PXb, PXc, PXn, PXm, Nat.reduceAdd, Int.reduceBEq, Bs h, TP, EF hN hs, ir hN h.bw', JD ha (show 8 ≤ 4096 by omega)]
 subst hres; simp only [DA]
 cases hp : inR s15 s19.length with
 | false => cases Az (⟨r0, r1, r2, r3, r4, r5, r6, r7, r8, r9, r10, r11, r12, r13⟩ : Rul) == 0 <;> rfl
 | true =>
  rw [C8 hp h.bd]
  cases Az (⟨r0, r1, r2, r3, r4, r5, r6, r7, r8, r9, r10, r11, r12, r13⟩ : Rul) == 0 <;> try rfl
  cases GR s16 s16.length s15 <;> cases b <;> simp only [PXb, PXc, PXn, PXm, Nat.reduceAdd, Int.reduceBEq, inc]
  all_goals first | (cases iLt s11 r4 <;> rfl) | (cases iLt (IntKind.i64.wrap (s11 + 1)) r4 <;> rfl)
def HU (r : Rul) (s : Inn) : Inn × Int :=
 cond (!(Az r == 0) || r.newball == 0 || iLt s.ballage (IntKind.i64.wrap (r.newball * r.balls))) (s, 22) ({ s with ballage := 0 }, 0)
theorem ed {N : Nat} {r1 r2 r3 r4 r5 r6 r7 r9 r10 r11 r12 : Int} {r8 : Bool} {r0 : ByteArray} {r13 : Rows} {s0 s1 s2 s3 s4 s5 s6 s7 s8 s9 s10 s11 s12 s13 s15 s21 s22 s23 s25 s26 s27 : Int} {s18 s20 : Bool} {s14 s16 s17 s19 s24 : Rows} (h : Fit s14 s16 s17 s19 s24) (hN : 2097152 < N) (hs : r0.size ≤ 1048576) : Fo N [.str r0, .int r1, .int r2, .int r3, .int r4, .int r5, .int r6, .int r7, .bool r8, .int r9, .int r10, .int r11, .int r12, .rows r13, .int s0, .int s1, .int s2, .int s3, .int s4, .int s5, .int s6, .int s7, .int s8, .int s9, .int s10, .int s11, .int s12, .int s13, .rows s14, .int s15, .rows s16, .rows s17, .bool s18, .rows s19, .bool s20, .int s21, .int s22, .int s23, .rows s24, .int s25, .int s26, .int s27] = some (AW (HU (⟨r0, r1, r2, r3, r4, r5, r6, r7, r8, r9, r10, r11, r12, r13⟩ : Rul) (⟨s0, s1, s2, s3, s4, s5, s6, s7, s8, s9, s10, s11, s12, s13, s14, s15, s16, s17, s18, s19, s20, s21, s22, s23, s24, s25, s26, s27⟩ : Inn))) := by
 show Iw (std (GF N) N) (xOf _) = _
 generalize hres : (some (AW (HU (⟨r0, r1, r2, r3, r4, r5, r6, r7, r8, r9, r10, r11, r12, r13⟩ : Rul) (⟨s0, s1, s2, s3, s4, s5, s6, s7, s8, s9, s10, s11, s12, s13, s14, s15, s16, s17, s18, s19, s20, s21, s22, s23, s24, s25, s26, s27⟩ : Inn))) : Option (List PV)) = RR
 simp only [Iw, P9, Ra, std, xOf, PXb, PXc, PXn, PXm, Nat.reduceAdd, Int.reduceBEq, Uz h, C1 hN hs]
 subst hres; simp only [HU]
 cases (!(Az (⟨r0, r1, r2, r3, r4, r5, r6, r7, r8, r9, r10, r11, r12, r13⟩ : Rul) == 0) || r9 == 0 || iLt s21 (IntKind.i64.wrap (r9 * r4))) <;> rfl
theorem jy {N : Nat} {r1 r2 r3 r4 r5 r6 r7 r9 r10 r11 r12 : Int} {r8 : Bool} {r0 : ByteArray} {r13 : Rows} {s0 s1 s2 s3 s4 s5 s6 s7 s8 s9 s10 s11 s12 s13 s15 s21 s22 s23 s25 s26 s27 : Int} {s18 s20 : Bool} {s14 s16 s17 s19 s24 : Rows} (h : Fit s14 s16 s17 s19 s24) (hN : 2097152 < N) (hs : r0.size ≤ 1048576) : LP N [.str r0, .int r1, .int r2, .int r3, .int r4, .int r5, .int r6, .int r7, .bool r8, .int r9, .int r10, .int r11, .int r12, .rows r13, .int s0, .int s1, .int s2, .int s3, .int s4, .int s5, .int s6, .int s7, .int s8, .int s9, .int s10, .int s11, .int s12, .int s13, .rows s14, .int s15, .rows s16, .rows s17, .bool s18, .rows s19, .bool s20, .int s21, .int s22, .int s23, .rows s24, .int s25, .int s26, .int s27] = some (AW (HU (⟨r0, r1, r2, r3, r4, r5, r6, r7, r8, r9, r10, r11, r12, r13⟩ : Rul) (⟨s0, s1, s2, s3, s4, s5, s6, s7, s8, s9, s10, s11, s12, s13, s14, s15, s16, s17, s18, s19, s20, s21, s22, s23, s24, s25, s26, s27⟩ : Inn))) := by
 show LY (std (Ic N) N) (xOf _) = _
 generalize hres : (some (AW (HU (⟨r0, r1, r2, r3, r4, r5, r6, r7, r8, r9, r10, r11, r12, r13⟩ : Rul) (⟨s0, s1, s2, s3, s4, s5, s6, s7, s8, s9, s10, s11, s12, s13, s14, s15, s16, s17, s18, s19, s20, s21, s22, s23, s24, s25, s26, s27⟩ : Inn))) : Option (List PV)) = RR
 simp only [LY, TU, TW, std, xOf, PXb, PXc, PXn, PXm, Nat.reduceAdd, Int.reduceBEq, Bs h, EF hN hs]
 subst hres; simp only [HU]
 cases (!(Az (⟨r0, r1, r2, r3, r4, r5, r6, r7, r8, r9, r10, r11, r12, r13⟩ : Rul) == 0) || r9 == 0 || iLt s21 (IntKind.i64.wrap (r9 * r4))) <;> rfl
end Go.Px
end
