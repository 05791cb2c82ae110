/- Part 10. -/
import Derived.Test.YtapipgdcgmmkaaaGreatPart07
import Derived.Test.YtapipgdcgmmkaaaGreatPart09
set_option linter.unusedVariables false
set_option linter.unusedSimpArgs false
section
namespace Go.Px
set_option maxRecDepth 100000
theorem G4 {N : Nat} {s0 s1 s2 s3 s4 s5 s6 s7 s8 s9 s10 s11 s12 s13 s15 s21 s22 s23 s25 s26 s27 : Int} {s18 s20 : Bool} {s14 s16 s17 s19 s24 : Rows} (h : Fit s14 s16 s17 s19 s24) : Ar N [.int s0, .int s1, .int s2, .int s3, .int s4, .int s5, .int s6, .int s7, .int s8, .int s9, .int s10, .int s11, .int s12, .int s13, .rows s14, .int s15, .rows s16, .rows s17, .bool s18, .rows s19, .bool s20, .int s21, .int s22, .int s23, .rows s24, .int s25, .int s26, .int s27] = some [.int s0, .int s1, .int s2, .int s3, .int s4, .int s5, .int s6, .int s7, .int s8, .int s9, .int s10, .int s11, .int s12, .int s13, .rows s14, .int s15, .rows s16, .rows s17, .bool s18, .rows s19, .bool s20, .int s21, .int s22, .int s23, .rows s24, .int s25, .int s26, .int s27] := by
 show Mk (std (Gn N) N) (xOf _) = _
 simp only [Mk, Lw, ON, OM, std, xOf, PXb, PXc, PXn, PXm, Nat.reduceAdd, Int.reduceBEq, AU, Ae, Aa, BQ h.bt (show 1 ≤ 4096 by omega), BQ h.bw' (show 8 ≤ 4096 by omega), BQ h.bf (show 8 ≤ 4096 by omega), BQ h.bd (show 8 ≤ 4096 by omega), BQ h.sb (show 1 ≤ 4096 by omega)]
theorem Bl {N : Nat} {s0 s1 s2 s3 s4 s5 s6 s7 s8 s9 s10 s11 s12 s13 s15 s21 s22 s23 s25 s26 s27 : Int} {s18 s20 : Bool} {s14 s16 s17 s19 s24 : Rows} (h : Fit s14 s16 s17 s19 s24) : AM N [.int s0, .int s1, .int s2, .int s3, .int s4, .int s5, .int s6, .int s7, .int s8, .int s9, .int s10, .int s11, .int s12, .int s13, .rows s14, .int s15, .rows s16, .rows s17, .bool s18, .rows s19, .bool s20, .int s21, .int s22, .int s23, .rows s24, .int s25, .int s26, .int s27] = some [.int s0, .int s1, .int s2, .int s3, .int s4, .int s5, .int s6, .int s7, .int s8, .int s9, .int s10, .int s11, .int s12, .int s13, .rows s14, .int s15, .rows s16, .rows s17, .bool s18, .rows s19, .bool s20, .int s21, .int s22, .int s23, .rows s24, .int s25, .int s26, .int s27] := by
 show Pw (std (Yf N) N) (xOf _) = _
 simp only [Pw, std, xOf, PXb, PXc, PXn, PXm, Nat.reduceAdd, Int.reduceBEq, Jj h.bt (show 1 ≤ 4096 by omega), Jj h.bw' (show 8 ≤ 4096 by omega), Jj h.bf (show 8 ≤ 4096 by omega), Jj h.bd (show 8 ≤ 4096 by omega), Jj h.sb (show 1 ≤ 4096 by omega)]
theorem G9 {N : Nat} {s0 s1 s2 s3 s4 s5 s6 s7 s8 s9 s10 s11 s12 s13 s15 s21 s22 s23 s25 s26 s27 : Int} {s18 s20 : Bool} {s14 s16 s17 s19 s24 : Rows} {p : Int}  : As N [.int s0, .int s1, .int s2, .int s3, .int s4, .int s5, .int s6, .int s7, .int s8, .int s9, .int s10, .int s11, .int s12, .int s13, .rows s14, .int s15, .rows s16, .rows s17, .bool s18, .rows s19, .bool s20, .int s21, .int s22, .int s23, .rows s24, .int s25, .int s26, .int s27, .int p] = some [.bool (inR p s14.length)] := by
 show KE (std (TN N) N) (xOf _) = _
 simp only [KE, std, xOf, PXb, PXc, PXn, PXm, Nat.reduceAdd, Int.reduceBEq]
 rfl
theorem Nx {N : Nat} {s0 s1 s2 s3 s4 s5 s6 s7 s8 s9 s10 s11 s12 s13 s15 s21 s22 s23 s25 s26 s27 : Int} {s18 s20 : Bool} {s14 s16 s17 s19 s24 : Rows} {p : Int}  : BM N [.int s0, .int s1, .int s2, .int s3, .int s4, .int s5, .int s6, .int s7, .int s8, .int s9, .int s10, .int s11, .int s12, .int s13, .rows s14, .int s15, .rows s16, .rows s17, .bool s18, .rows s19, .bool s20, .int s21, .int s22, .int s23, .rows s24, .int s25, .int s26, .int s27, .int p] = some [.bool (inR p s14.length)] := by
 show Nu (std (Vw N) N) (xOf _) = _
 simp only [Nu, std, xOf, PXb, PXc, PXn, PXm, Nat.reduceAdd, Int.reduceBEq]
 rfl
def CL (s : Inn) (d : Del) : Inn :=
  let odd := !(d.runs.tmod 2 == 0) != d.crossed
  let t : Inn := cond odd { s with striker := s.other, other := s.striker } s
  let k : Bool := d.how == 0
  cond (!k && (d.victim == 1 && !(s.striker == 0)))
    { t with striker := cond odd t.striker 0, other := cond odd 0 t.other, batters := cond (inR s.striker s.batters.length) (I5 s.batters s.striker 2) s.batters, wickets := IntKind.i64.wrap (s.wickets + 1) }
    (cond (!k && (d.victim == 2 && !(s.other == 0)))
      { t with striker := cond odd 0 t.striker, other := cond odd t.other 0, batters := cond (inR s.other s.batters.length) (I5 s.batters s.other 2) s.batters, wickets := IntKind.i64.wrap (s.wickets + 1) }
      t)
theorem mg {N : Nat} {s0 s1 s2 s3 s4 s5 s6 s7 s8 s9 s10 s11 s12 s13 s15 s21 s22 s23 s25 s26 s27 : Int} {s18 s20 : Bool} {s14 s16 s17 s19 s24 : Rows} {d0 d1 d2 d3 d4 d6 d7 d8 d9 d11 : Int} {d5 d10 : Bool} (h : Fit s14 s16 s17 s19 s24) : JI N [.int s0, .int s1, .int s2, .int s3, .int s4, .int s5, .int s6, .int s7, .int s8, .int s9, .int s10, .int s11, .int s12, .int s13, .rows s14, .int s15, .rows s16, .rows s17, .bool s18, .rows s19, .bool s20, .int s21, .int s22, .int s23, .rows s24, .int s25, .int s26, .int s27, .int d0, .int d1, .int d2, .int d3, .int d4, .bool d5, .int d6, .int d7, .int d8, .int d9, .bool d10, .int d11] = some (CL (⟨s0, s1, s2, s3, s4, s5, s6, s7, s8, s9, s10, s11, s12, s13, s14, s15, s16, s17, s18, s19, s20, s21, s22, s23, s24, s25, s26, s27⟩ : Inn) (⟨d0, d1, d2, d3, d4, d5, d6, d7, d8, d9, d10, d11⟩ : Del)).ls := by
 show Nm (std (J0 N) N) (xOf _) = _
 simp only [Nm, Tv, R3, std, xOf, PXb, PXc, PXn, PXm, Nat.reduceAdd, Int.reduceBEq, G4 h, G9, pl h.bt]
 unfold CL
 cases d5 <;> cases d2.tmod 2 == 0 <;> cases d6 == 0 <;> cases d7 == 1 <;> cases d7 == 2 <;> cases s12 == 0 <;> cases s13 == 0 <;> rfl
def bM (s : Inn) : Inn := { s with striker := s.other, other := s.striker }
theorem gI {N : Nat} {s0 s1 s2 s3 s4 s5 s6 s7 s8 s9 s10 s11 s12 s13 s15 s21 s22 s23 s25 s26 s27 : Int} {s18 s20 : Bool} {s14 s16 s17 s19 s24 : Rows} (h : Fit s14 s16 s17 s19 s24) : Fq N [.int s0, .int s1, .int s2, .int s3, .int s4, .int s5, .int s6, .int s7, .int s8, .int s9, .int s10, .int s11, .int s12, .int s13, .rows s14, .int s15, .rows s16, .rows s17, .bool s18, .rows s19, .bool s20, .int s21, .int s22, .int s23, .rows s24, .int s25, .int s26, .int s27] = some (bM (⟨s0, s1, s2, s3, s4, s5, s6, s7, s8, s9, s10, s11, s12, s13, s14, s15, s16, s17, s18, s19, s20, s21, s22, s23, s24, s25, s26, s27⟩ : Inn)).ls := by
 show Ih (std (KW N) N) (xOf _) = _
 simp only [Ih, RA, std, xOf, PXb, PXc, PXn, PXm, Nat.reduceAdd, Int.reduceBEq, G4 h]
 rfl
theorem al {N : Nat} {s0 s1 s2 s3 s4 s5 s6 s7 s8 s9 s10 s11 s12 s13 s15 s21 s22 s23 s25 s26 s27 : Int} {s18 s20 : Bool} {s14 s16 s17 s19 s24 : Rows} (h : Fit s14 s16 s17 s19 s24) : ET N [.int s0, .int s1, .int s2, .int s3, .int s4, .int s5, .int s6, .int s7, .int s8, .int s9, .int s10, .int s11, .int s12, .int s13, .rows s14, .int s15, .rows s16, .rows s17, .bool s18, .rows s19, .bool s20, .int s21, .int s22, .int s23, .rows s24, .int s25, .int s26, .int s27] = some (bM (⟨s0, s1, s2, s3, s4, s5, s6, s7, s8, s9, s10, s11, s12, s13, s14, s15, s16, s17, s18, s19, s20, s21, s22, s23, s24, s25, s26, s27⟩ : Inn)).ls := by
 show Nl (std (Ox N) N) (xOf _) = _
 simp only [Nl, VY, std, xOf, PXb, PXc, PXn, PXm, Nat.reduceAdd, Int.reduceBEq, Bl h]
 rfl
theorem qN {N : Nat} {s0 s1 s2 s3 s4 s5 s6 s7 s8 s9 s10 s11 s12 s13 s15 s21 s22 s23 s25 s26 s27 : Int} {s18 s20 : Bool} {s14 s16 s17 s19 s24 : Rows} {d0 d1 d2 d3 d4 d6 d7 d8 d9 d11 : Int} {d5 d10 : Bool} (h : Fit s14 s16 s17 s19 s24) : UJ N [.int s0, .int s1, .int s2, .int s3, .int s4, .int s5, .int s6, .int s7, .int s8, .int s9, .int s10, .int s11, .int s12, .int s13, .rows s14, .int s15, .rows s16, .rows s17, .bool s18, .rows s19, .bool s20, .int s21, .int s22, .int s23, .rows s24, .int s25, .int s26, .int s27, .int d0, .int d1, .int d2, .int d3, .int d4, .bool d5, .int d6, .int d7, .int d8, .int d9, .bool d10, .int d11] = some (CL (⟨s0, s1, s2, s3, s4, s5, s6, s7, s8, s9, s10, s11, s12, s13, s14, s15, s16, s17, s18, s19, s20, s21, s22, s23, s24, s25, s26, s27⟩ : Inn) (⟨d0, d1, d2, d3, d4, d5, d6, d7, d8, d9, d10, d11⟩ : Del)).ls := by
 show Uf (std (Kc N) N) (xOf _) = _
 simp only [Uf, Yy, XI, Xe, std, xOf, PXb, PXc, PXn, PXm, Nat.reduceAdd, Int.reduceBEq, Bl h, Nx, pl h.bt, al h, bM, CL]
 cases h71 : d7 == 1
 ·cases d5 <;> cases d2.tmod 2 == 0 <;> cases d6 == 0 <;> cases d7 == 2 <;> cases s12 == 0 <;> cases s13 == 0 <;> rfl
 ·rw [ip h71]
  cases d5 <;> cases d2.tmod 2 == 0 <;> cases d6 == 0 <;> cases s12 == 0 <;> rfl
theorem dx {N : Nat} {v : Int}  : Cj N [.int v] = some [.bool (!(v == 0))] := by
 show MD (std (QC N) N) (xOf _) = _
 rfl
theorem bZ {N : Nat} {v : Int}  : EA N [.int v] = some [.bool (!(v == 0))] := by
 show KR (std (Oc N) N) (xOf _) = _
 rfl
theorem WE {N : Nat} {s0 s1 s2 s3 s4 s5 s6 s7 s8 s9 s10 s11 s12 s13 s15 s21 s22 s23 s25 s26 s27 : Int} {s18 s20 : Bool} {s14 s16 s17 s19 s24 : Rows} (h : s14.length ≤ 1048576) (hN : 2097152 < N) : Bo N [.int s0, .int s1, .int s2, .int s3, .int s4, .int s5, .int s6, .int s7, .int s8, .int s9, .int s10, .int s11, .int s12, .int s13, .rows s14, .int s15, .rows s16, .rows s17, .bool s18, .rows s19, .bool s20, .int s21, .int s22, .int s23, .rows s24, .int s25, .int s26, .int s27] = some [.bool (CG s14)] := by
 show EO (std (EY N) N) (xOf _) = _
 simp only [EO, F8, std, xOf, PXb, PXc, PXn, AA]
 rw [show CG s14 = iLe 0 (RC (fun i => !(atI s14 i 0 == 0)) s14.length) from (Jy _ _).symm]
 rw [Option.bind_assoc]
 refine AN (CR (len := s14.length) (F0 fun i => !(atI s14 i 0 == 0)) ?_ ?_ s14.length 0 N (by omega) (by omega)) ?_
 ·intro self
  simp only [PXb, PXc, PXn, AA, Ap]
 ·intro i self hi
  simp only [PXb, PXc, PXn, AA, AS (show i ≤ 1099511627776 by omega), Aj hi, AR hi, F0, BE, F8, dx]
  cases atI s14 i 0 == 0 <;> rfl
 ·unfold RC
  cases Bw (F0 fun i => !(atI s14 i 0 == 0)) s14.length 0 <;> rfl
theorem fM {N : Nat} {s0 s1 s2 s3 s4 s5 s6 s7 s8 s9 s10 s11 s12 s13 s15 s21 s22 s23 s25 s26 s27 : Int} {s18 s20 : Bool} {s14 s16 s17 s19 s24 : Rows} (h : s14.length ≤ 1048576) (hN : 2097152 < N) : FX N [.int s0, .int s1, .int s2, .int s3, .int s4, .int s5, .int s6, .int s7, .int s8, .int s9, .int s10, .int s11, .int s12, .int s13, .rows s14, .int s15, .rows s16, .rows s17, .bool s18, .rows s19, .bool s20, .int s21, .int s22, .int s23, .rows s24, .int s25, .int s26, .int s27] = some [.bool (CG s14)] := by
 show Is (std (KU N) N) (xOf _) = _
 simp only [Is, E3, std, xOf, PXb, PXc, PXn, AA]
 rw [show CG s14 = iLe 0 (RC (fun i => !(atI s14 i 0 == 0)) s14.length) from (Jy _ _).symm]
 rw [Option.bind_assoc]
 refine AN (CR (len := s14.length) (F0 fun i => !(atI s14 i 0 == 0)) ?_ ?_ s14.length 0 N (by omega) (by omega)) ?_
 ·intro self
  simp only [PXb, PXc, PXn, AA, Ap]
 ·intro i self hi
  simp only [PXb, PXc, PXn, AA, AS (show i ≤ 1099511627776 by omega), Aj hi, AR hi, F0, BE, E3, bZ]
  cases atI s14 i 0 == 0 <;> rfl
 ·unfold RC
  cases Bw (F0 fun i => !(atI s14 i 0 == 0)) s14.length 0 <;> rfl
theorem VI {N : Nat} {s0 s1 s2 s3 s4 s5 s6 s7 s8 s9 s10 s11 s12 s13 s15 s21 s22 s23 s25 s26 s27 : Int} {s18 s20 : Bool} {s14 s16 s17 s19 s24 : Rows} (h : s14.length ≤ 1048576) (hN : 2097152 < N) : BP N [.int s0, .int s1, .int s2, .int s3, .int s4, .int s5, .int s6, .int s7, .int s8, .int s9, .int s10, .int s11, .int s12, .int s13, .rows s14, .int s15, .rows s16, .rows s17, .bool s18, .rows s19, .bool s20, .int s21, .int s22, .int s23, .rows s24, .int s25, .int s26, .int s27] = some [.bool (CG s14)] := by
 show IR (std (Qw N) N) (xOf _) = _
 simp only [IR, std, xOf, PXb, PXc, PXn, AA]
 refine AN (Bd (len := s14.length) (fun i => !(atI s14 i 0 == 0)) [.bool true] ?_ ?_ N (by omega)) ?_
 ·intro self
  simp only [PXb, PXc, PXn, AA, Ap]
 ·intro i self hi
  simp only [PXb, PXc, PXn, AA, AS (show i ≤ 1099511627776 by omega), Aj hi, AR hi, BE]
 ·unfold CG
  cases Ak (fun i => !(atI s14 i 0 == 0)) s14.length 0 <;> rfl
theorem U0 {N : Nat} {s0 s1 s2 s3 s4 s5 s6 s7 s8 s9 s10 s11 s12 s13 s15 s21 s22 s23 s25 s26 s27 : Int} {s18 s20 : Bool} {s14 s16 s17 s19 s24 : Rows} (h : s14.length ≤ 1048576) (hN : 2097152 < N) : BA N [.int s0, .int s1, .int s2, .int s3, .int s4, .int s5, .int s6, .int s7, .int s8, .int s9, .int s10, .int s11, .int s12, .int s13, .rows s14, .int s15, .rows s16, .rows s17, .bool s18, .rows s19, .bool s20, .int s21, .int s22, .int s23, .rows s24, .int s25, .int s26, .int s27] = some [.bool (Ed s14 s12 s13)] := by
 show Dp (std (D0 N) N) (xOf _) = _
 simp only [Dp, PE, std, xOf, PXb, PXc, PXn, PXm, Nat.reduceAdd, Int.reduceBEq, WE h hN]
 rfl
theorem ZX {N : Nat} {s0 s1 s2 s3 s4 s5 s6 s7 s8 s9 s10 s11 s12 s13 s15 s21 s22 s23 s25 s26 s27 : Int} {s18 s20 : Bool} {s14 s16 s17 s19 s24 : Rows} (h : s14.length ≤ 1048576) (hN : 2097152 < N) : B7 N [.int s0, .int s1, .int s2, .int s3, .int s4, .int s5, .int s6, .int s7, .int s8, .int s9, .int s10, .int s11, .int s12, .int s13, .rows s14, .int s15, .rows s16, .rows s17, .bool s18, .rows s19, .bool s20, .int s21, .int s22, .int s23, .rows s24, .int s25, .int s26, .int s27] = some [.bool (Ed s14 s12 s13)] := by
 show GS (std (Gv N) N) (xOf _) = _
 simp only [GS, VE, std, xOf, PXb, PXc, PXn, PXm, Nat.reduceAdd, Int.reduceBEq, VI h hN]
 rfl
theorem jj {N : Nat} {s0 s1 s2 s3 s4 s5 s6 s7 s8 s9 s10 s11 s12 s13 s15 s21 s22 s23 s25 s26 s27 : Int} {s18 s20 : Bool} {s14 s16 s17 s19 s24 : Rows} (h : s14.length ≤ 1048576) (hN : 2097152 < N) : Ch N [.int s0, .int s1, .int s2, .int s3, .int s4, .int s5, .int s6, .int s7, .int s8, .int s9, .int s10, .int s11, .int s12, .int s13, .rows s14, .int s15, .rows s16, .rows s17, .bool s18, .rows s19, .bool s20, .int s21, .int s22, .int s23, .rows s24, .int s25, .int s26, .int s27] = some [.rows (Bj s14 s14.length)] := by
 show FF (std (M3 N) N) (xOf _) = _
 simp only [FF, std, xOf, PXb, PXc, PXn, AA]
 refine AN (Du (len := s14.length) (fun i => [.rows (Bj s14 i), .int (i : Int)]) [.rows (Bj s14 s14.length)] ?_ ?_ N (by omega)) rfl
 ·intro self
  simp only [PXb, PXc, PXn, AA, Ap]
 ·intro i self hi
  have h2 : (Bj s14 i ++ [[PV.int ((i : Int) + 1)]]).length ≤ 4194304 := by have := TJ s14 i; simp; omega
  simp only [PXb, PXc, PXn, AA, AS (show i ≤ 1099511627776 by omega), Aj hi, AR hi, BE, Bj, Iz h2 (show 8 ≤ 4096 by omega)]
  cases (atI s14 i 0 == 0 || atI s14 i 0 == 3) <;> rfl
theorem pW {N : Nat} {s0 s1 s2 s3 s4 s5 s6 s7 s8 s9 s10 s11 s12 s13 s15 s21 s22 s23 s25 s26 s27 : Int} {s18 s20 : Bool} {s14 s16 s17 s19 s24 : Rows} (h : s14.length ≤ 1048576) (hN : 2097152 < N) : EF N [.int s0, .int s1, .int s2, .int s3, .int s4, .int s5, .int s6, .int s7, .int s8, .int s9, .int s10, .int s11, .int s12, .int s13, .rows s14, .int s15, .rows s16, .rows s17, .bool s18, .rows s19, .bool s20, .int s21, .int s22, .int s23, .rows s24, .int s25, .int s26, .int s27] = some [.rows (Bj s14 s14.length)] := by
 show Jq (std (Sr N) N) (xOf _) = _
 simp only [Jq, std, xOf, PXb, PXc, PXn, AA]
 refine AN (Du (len := s14.length) (fun i => [.rows (Bj s14 i), .int (i : Int)]) [.rows (Bj s14 s14.length)] ?_ ?_ N (by omega)) rfl
 ·intro self
  simp only [PXb, PXc, PXn, AA, Ap]
 ·intro i self hi
  have h2 : (Bj s14 i ++ [[PV.int ((i : Int) + 1)]]).length ≤ 4194304 := by have := TJ s14 i; simp; omega
  simp only [PXb, PXc, PXn, AA, AS (show i ≤ 1099511627776 by omega), Aj hi, AR hi, BE, Bj, Iz h2 (show 8 ≤ 4096 by omega)]
  cases (atI s14 i 0 == 0 || atI s14 i 0 == 3) <;> rfl
def SH (s : Inn) (p q : Int) : Inn × Int :=
  cond (CG s.batters) (s, 1) (cond (!inR p s.batters.length || !inR q s.batters.length) (s, 3) (cond (p == q) (s, 4)
    ({ s with batters := I5 (I5 s.batters p 1) q 1, striker := p, other := q }, 0)))
theorem jq {N : Nat} {s0 s1 s2 s3 s4 s5 s6 s7 s8 s9 s10 s11 s12 s13 s15 s21 s22 s23 s25 s26 s27 : Int} {s18 s20 : Bool} {s14 s16 s17 s19 s24 : Rows} {p : Int} {q : Int} (h : Fit s14 s16 s17 s19 s24) (hN : 2097152 < N) : H1 N [.int s0, .int s1, .int s2, .int s3, .int s4, .int s5, .int s6, .int s7, .int s8, .int s9, .int s10, .int s11, .int s12, .int s13, .rows s14, .int s15, .rows s16, .rows s17, .bool s18, .rows s19, .bool s20, .int s21, .int s22, .int s23, .rows s24, .int s25, .int s26, .int s27, .int p, .int q] = some (AW (SH (⟨s0, s1, s2, s3, s4, s5, s6, s7, s8, s9, s10, s11, s12, s13, s14, s15, s16, s17, s18, s19, s20, s21, s22, s23, s24, s25, s26, s27⟩ : Inn) p q)) := by
 show Lj (std (FP N) N) (xOf _) = _
 generalize hres : (some (AW (SH (⟨s0, s1, s2, s3, s4, s5, s6, s7, s8, s9, s10, s11, s12, s13, s14, s15, s16, s17, s18, s19, s20, s21, s22, s23, s24, s25, s26, s27⟩ : Inn) p q)) : Option (List PV)) = RR
 simp only [Lj, Tb, Q7, Qy, std, xOf, PXb, PXc, PXn, PXm, Nat.reduceAdd, Int.reduceBEq, G4 h, WE h.bt hN, G9]
 subst hres; simp only [SH]
 cases CG s14 <;> try rfl
 cases hp : inR p s14.length <;> cases hq : inR q s14.length <;> try rfl
 rw [DC hp h.bt, DC hq h.bt]
 cases p == q <;> rfl
theorem pQ {N : Nat} {s0 s1 s2 s3 s4 s5 s6 s7 s8 s9 s10 s11 s12 s13 s15 s21 s22 s23 s25 s26 s27 : Int} {s18 s20 : Bool} {s14 s16 s17 s19 s24 : Rows} {p : Int} {q : Int} (h : Fit s14 s16 s17 s19 s24) (hN : 2097152 < N) : R5 N [.int s0, .int s1, .int s2, .int s3, .int s4, .int s5, .int s6, .int s7, .int s8, .int s9, .int s10, .int s11, .int s12, .int s13, .rows s14, .int s15, .rows s16, .rows s17, .bool s18, .rows s19, .bool s20, .int s21, .int s22, .int s23, .rows s24, .int s25, .int s26, .int s27, .int p, .int q] = some (AW (SH (⟨s0, s1, s2, s3, s4, s5, s6, s7, s8, s9, s10, s11, s12, s13, s14, s15, s16, s17, s18, s19, s20, s21, s22, s23, s24, s25, s26, s27⟩ : Inn) p q)) := by
 show SF (std (JD N) N) (xOf _) = _
 generalize hres : (some (AW (SH (⟨s0, s1, s2, s3, s4, s5, s6, s7, s8, s9, s10, s11, s12, s13, s14, s15, s16, s17, s18, s19, s20, s21, s22, s23, s24, s25, s26, s27⟩ : Inn) p q)) : Option (List PV)) = RR
 simp only [SF, W3, Xs, WM, std, xOf, PXb, PXc, PXn, PXm, Nat.reduceAdd, Int.reduceBEq, Bl h, VI h.bt hN, Nx]
 subst hres; simp only [SH]
 cases CG s14 <;> try rfl
 cases hp : inR p s14.length <;> cases hq : inR q s14.length <;> try rfl
 rw [DC hp h.bt, DC hq h.bt]
 cases p == q <;> rfl
def KS (s : Inn) (p : Int) : Int :=
 cond (!inR p s.batters.length) 3 (cond (!Ed s.batters s.striker s.other || atI s.batters (ix p) 0 == 1) 4 (cond (atI s.batters (ix p) 0 == 2) 5 0))
theorem Zx {N : Nat} {s0 s1 s2 s3 s4 s5 s6 s7 s8 s9 s10 s11 s12 s13 s15 s21 s22 s23 s25 s26 s27 : Int} {s18 s20 : Bool} {s14 s16 s17 s19 s24 : Rows} {p : Int} (h : s14.length ≤ 1048576) (hN : 2097152 < N) : DW N [.int s0, .int s1, .int s2, .int s3, .int s4, .int s5, .int s6, .int s7, .int s8, .int s9, .int s10, .int s11, .int s12, .int s13, .rows s14, .int s15, .rows s16, .rows s17, .bool s18, .rows s19, .bool s20, .int s21, .int s22, .int s23, .rows s24, .int s25, .int s26, .int s27, .int p] = some [.int (KS (⟨s0, s1, s2, s3, s4, s5, s6, s7, s8, s9, s10, s11, s12, s13, s14, s15, s16, s17, s18, s19, s20, s21, s22, s23, s24, s25, s26, s27⟩ : Inn) p)] := by
 show N0 (std (J1 N) N) (xOf _) = _
 generalize hres : (some [.int (KS (⟨s0, s1, s2, s3, s4, s5, s6, s7, s8, s9, s10, s11, s12, s13, s14, s15, s16, s17, s18, s19, s20, s21, s22, s23, s24, s25, s26, s27⟩ : Inn) p)] : Option (List PV)) = RR
 simp only [N0, RG, Rw, std, xOf, PXb, PXc, PXn, PXm, Nat.reduceAdd, Int.reduceBEq, G9, U0 h hN]
 subst hres; simp only [KS]
 cases hp : inR p s14.length <;> try rfl
 rw [DC hp h]
 cases Ed s14 s12 s13 <;> try rfl
 simp only [PXb, PXc, PXn, PXm, Nat.reduceAdd, Int.reduceBEq, atI, ix]
theorem cT {N : Nat} {s0 s1 s2 s3 s4 s5 s6 s7 s8 s9 s10 s11 s12 s13 s15 s21 s22 s23 s25 s26 s27 : Int} {s18 s20 : Bool} {s14 s16 s17 s19 s24 : Rows} {p : Int} (h : s14.length ≤ 1048576) (hN : 2097152 < N) : EL N [.int s0, .int s1, .int s2, .int s3, .int s4, .int s5, .int s6, .int s7, .int s8, .int s9, .int s10, .int s11, .int s12, .int s13, .rows s14, .int s15, .rows s16, .rows s17, .bool s18, .rows s19, .bool s20, .int s21, .int s22, .int s23, .rows s24, .int s25, .int s26, .int s27, .int p] = some [.int (KS (⟨s0, s1, s2, s3, s4, s5, s6, s7, s8, s9, s10, s11, s12, s13, s14, s15, s16, s17, s18, s19, s20, s21, s22, s23, s24, s25, s26, s27⟩ : Inn) p)] := by
 show PT (std (LI N) N) (xOf _) = _
 generalize hres : (some [.int (KS (⟨s0, s1, s2, s3, s4, s5, s6, s7, s8, s9, s10, s11, s12, s13, s14, s15, s16, s17, s18, s19, s20, s21, s22, s23, s24, s25, s26, s27⟩ : Inn) p)] : Option (List PV)) = RR
 simp only [PT, VB, Vb, std, xOf, PXb, PXc, PXn, PXm, Nat.reduceAdd, Int.reduceBEq, Nx, ZX h hN]
 subst hres; simp only [KS]
 cases hp : inR p s14.length <;> try rfl
 rw [DC hp h]
 cases Ed s14 s12 s13 <;> try rfl
 simp only [PXb, PXc, PXn, PXm, Nat.reduceAdd, Int.reduceBEq, atI, ix]
theorem UT {s : Inn} {p : Int} (h : (KS s p == 0) = true) : inR p s.batters.length = true := by
 unfold KS at h
 cases hp : inR p s.batters.length with
 | true => rfl
 | false => rw [hp] at h; cases h
def Mi (s : Inn) (p : Int) : Inn × Int :=
 cond (KS s p == 0) ({ s with batters := I5 s.batters p 1, striker := cond (s.striker == 0) p s.striker, other := cond (s.striker == 0) s.other p }, 0) (s, KS s p)
def HO (s : Inn) (p : Int) : Inn × Int :=
 cond (KS s p == 0) ({ s with batters := I5 s.batters p 2, wickets := IntKind.i64.wrap (s.wickets + 1) }, 0) (s, KS s p)
theorem iX {N : Nat} {s0 s1 s2 s3 s4 s5 s6 s7 s8 s9 s10 s11 s12 s13 s15 s21 s22 s23 s25 s26 s27 : Int} {s18 s20 : Bool} {s14 s16 s17 s19 s24 : Rows} {p : Int} (h : Fit s14 s16 s17 s19 s24) (hN : 2097152 < N) : Gp N [.int s0, .int s1, .int s2, .int s3, .int s4, .int s5, .int s6, .int s7, .int s8, .int s9, .int s10, .int s11, .int s12, .int s13, .rows s14, .int s15, .rows s16, .rows s17, .bool s18, .rows s19, .bool s20, .int s21, .int s22, .int s23, .rows s24, .int s25, .int s26, .int s27, .int p] = some (AW (Mi (⟨s0, s1, s2, s3, s4, s5, s6, s7, s8, s9, s10, s11, s12, s13, s14, s15, s16, s17, s18, s19, s20, s21, s22, s23, s24, s25, s26, s27⟩ : Inn) p)) := by
 show KI (std (Hj N) N) (xOf _) = _
 generalize hres : (some (AW (Mi (⟨s0, s1, s2, s3, s4, s5, s6, s7, s8, s9, s10, s11, s12, s13, s14, s15, s16, s17, s18, s19, s20, s21, s22, s23, s24, s25, s26, s27⟩ : Inn) p)) : Option (List PV)) = RR
 simp only [KI, R2, Rj, std, xOf, PXb, PXc, PXn, PXm, Nat.reduceAdd, Int.reduceBEq, G4 h, Zx h.bt hN]
 subst hres; simp only [Mi]
 cases hm : KS (⟨s0, s1, s2, s3, s4, s5, s6, s7, s8, s9, s10, s11, s12, s13, s14, s15, s16, s17, s18, s19, s20, s21, s22, s23, s24, s25, s26, s27⟩ : Inn) p == 0 <;> try rfl
 rw [DC (UT hm) h.bt]
 cases s12 == 0 <;> rfl
theorem nE {N : Nat} {s0 s1 s2 s3 s4 s5 s6 s7 s8 s9 s10 s11 s12 s13 s15 s21 s22 s23 s25 s26 s27 : Int} {s18 s20 : Bool} {s14 s16 s17 s19 s24 : Rows} {p : Int} (h : Fit s14 s16 s17 s19 s24) (hN : 2097152 < N) : PX N [.int s0, .int s1, .int s2, .int s3, .int s4, .int s5, .int s6, .int s7, .int s8, .int s9, .int s10, .int s11, .int s12, .int s13, .rows s14, .int s15, .rows s16, .rows s17, .bool s18, .rows s19, .bool s20, .int s21, .int s22, .int s23, .rows s24, .int s25, .int s26, .int s27, .int p] = some (AW (Mi (⟨s0, s1, s2, s3, s4, s5, s6, s7, s8, s9, s10, s11, s12, s13, s14, s15, s16, s17, s18, s19, s20, s21, s22, s23, s24, s25, s26, s27⟩ : Inn) p)) := by
 show Pt (std (LS N) N) (xOf _) = _
 generalize hres : (some (AW (Mi (⟨s0, s1, s2, s3, s4, s5, s6, s7, s8, s9, s10, s11, s12, s13, s14, s15, s16, s17, s18, s19, s20, s21, s22, s23, s24, s25, s26, s27⟩ : Inn) p)) : Option (List PV)) = RR
 simp only [Pt, WV, Wn, std, xOf, PXb, PXc, PXn, PXm, Nat.reduceAdd, Int.reduceBEq, Bl h, cT h.bt hN]
 subst hres; simp only [Mi]
 cases hm : KS (⟨s0, s1, s2, s3, s4, s5, s6, s7, s8, s9, s10, s11, s12, s13, s14, s15, s16, s17, s18, s19, s20, s21, s22, s23, s24, s25, s26, s27⟩ : Inn) p == 0 <;> try rfl
 rw [DC (UT hm) h.bt]
 cases s12 == 0 <;> rfl
theorem dk {N : Nat} {s0 s1 s2 s3 s4 s5 s6 s7 s8 s9 s10 s11 s12 s13 s15 s21 s22 s23 s25 s26 s27 : Int} {s18 s20 : Bool} {s14 s16 s17 s19 s24 : Rows} {p : Int} (h : Fit s14 s16 s17 s19 s24) (hN : 2097152 < N) : Ee N [.int s0, .int s1, .int s2, .int s3, .int s4, .int s5, .int s6, .int s7, .int s8, .int s9, .int s10, .int s11, .int s12, .int s13, .rows s14, .int s15, .rows s16, .rows s17, .bool s18, .rows s19, .bool s20, .int s21, .int s22, .int s23, .rows s24, .int s25, .int s26, .int s27, .int p] = some (AW (HO (⟨s0, s1, s2, s3, s4, s5, s6, s7, s8, s9, s10, s11, s12, s13, s14, s15, s16, s17, s18, s19, s20, s21, s22, s23, s24, s25, s26, s27⟩ : Inn) p)) := by
 show Hg (std (Dh N) N) (xOf _) = _
 generalize hres : (some (AW (HO (⟨s0, s1, s2, s3, s4, s5, s6, s7, s8, s9, s10, s11, s12, s13, s14, s15, s16, s17, s18, s19, s20, s21, s22, s23, s24, s25, s26, s27⟩ : Inn) p)) : Option (List PV)) = RR
 simp only [Hg, Qn, OS, Qc, std, xOf, PXb, PXc, PXn, PXm, Nat.reduceAdd, Int.reduceBEq, G4 h, Zx h.bt hN, G9]
 subst hres; simp only [HO]
 cases hm : KS (⟨s0, s1, s2, s3, s4, s5, s6, s7, s8, s9, s10, s11, s12, s13, s14, s15, s16, s17, s18, s19, s20, s21, s22, s23, s24, s25, s26, s27⟩ : Inn) p == 0 <;> try rfl
 have hk : inR p s14.length = true := UT hm
 rw [DC hk h.bt, hk]
 rfl
theorem jc {N : Nat} {s0 s1 s2 s3 s4 s5 s6 s7 s8 s9 s10 s11 s12 s13 s15 s21 s22 s23 s25 s26 s27 : Int} {s18 s20 : Bool} {s14 s16 s17 s19 s24 : Rows} {p : Int} (h : Fit s14 s16 s17 s19 s24) (hN : 2097152 < N) : Lm N [.int s0, .int s1, .int s2, .int s3, .int s4, .int s5, .int s6, .int s7, .int s8, .int s9, .int s10, .int s11, .int s12, .int s13, .rows s14, .int s15, .rows s16, .rows s17, .bool s18, .rows s19, .bool s20, .int s21, .int s22, .int s23, .rows s24, .int s25, .int s26, .int s27, .int p] = some (AW (HO (⟨s0, s1, s2, s3, s4, s5, s6, s7, s8, s9, s10, s11, s12, s13, s14, s15, s16, s17, s18, s19, s20, s21, s22, s23, s24, s25, s26, s27⟩ : Inn) p)) := by
 show LQ (std (Ie N) N) (xOf _) = _
 generalize hres : (some (AW (HO (⟨s0, s1, s2, s3, s4, s5, s6, s7, s8, s9, s10, s11, s12, s13, s14, s15, s16, s17, s18, s19, s20, s21, s22, s23, s24, s25, s26, s27⟩ : Inn) p)) : Option (List PV)) = RR
 simp only [LQ, Ts, Tk, std, xOf, PXb, PXc, PXn, PXm, Nat.reduceAdd, Int.reduceBEq, Bl h, cT h.bt hN]
 subst hres; simp only [HO]
 cases hm : KS (⟨s0, s1, s2, s3, s4, s5, s6, s7, s8, s9, s10, s11, s12, s13, s14, s15, s16, s17, s18, s19, s20, s21, s22, s23, s24, s25, s26, s27⟩ : Inn) p == 0 <;> try rfl
 rw [DC (UT hm) h.bt]
 rfl
def KK (s : Inn) (p : Int) (hurt : Bool) : Inn × Int :=
  cond (!inR p s.batters.length) (s, 3) (cond (s.striker == 0 || s.other == 0) (s, 6) (cond (!(p == s.striker) && !(p == s.other)) (s, 4)
    (cond (hurt && ((Bj s.batters s.batters.length).length : Int) == 0) (s, 19)
      ({ s with striker := cond (p == s.striker) 0 s.striker, other := cond (p == s.striker) s.other 0, batters := I5 s.batters p (cond hurt 3 2), wickets := cond hurt s.wickets (IntKind.i64.wrap (s.wickets + 1)) }, 0))))
theorem gR {N : Nat} {s0 s1 s2 s3 s4 s5 s6 s7 s8 s9 s10 s11 s12 s13 s15 s21 s22 s23 s25 s26 s27 : Int} {s18 s20 : Bool} {s14 s16 s17 s19 s24 : Rows} {p : Int} {b : Bool} (h : Fit s14 s16 s17 s19 s24) (hN : 2097152 < N) : Fe N [.int s0, .int s1, .int s2, .int s3, .int s4, .int s5, .int s6, .int s7, .int s8, .int s9, .int s10, .int s11, .int s12, .int s13, .rows s14, .int s15, .rows s16, .rows s17, .bool s18, .rows s19, .bool s20, .int s21, .int s22, .int s23, .rows s24, .int s25, .int s26, .int s27, .int p, .bool b] = some (AW (KK (⟨s0, s1, s2, s3, s4, s5, s6, s7, s8, s9, s10, s11, s12, s13, s14, s15, s16, s17, s18, s19, s20, s21, s22, s23, s24, s25, s26, s27⟩ : Inn) p b)) := by
 show I3 (std (D1 N) N) (xOf _) = _
 generalize hres : (some (AW (KK (⟨s0, s1, s2, s3, s4, s5, s6, s7, s8, s9, s10, s11, s12, s13, s14, s15, s16, s17, s18, s19, s20, s21, s22, s23, s24, s25, s26, s27⟩ : Inn) p b)) : Option (List PV)) = RR
 simp only [I3, QZ, Qp, PJ, std, xOf, PXb, PXc, PXn, PXm, Nat.reduceAdd, Int.reduceBEq, G4 h, G9, jj h.bt hN]
 subst hres; simp only [KK]
 cases hp : inR p s14.length <;> try rfl
 rw [DC hp h.bt]
 cases s12 == 0 <;> cases s13 == 0 <;> try rfl
 cases p == s12 <;> cases p == s13 <;> cases b <;> try rfl
 all_goals (simp only [PXb, PXc, PXn, PXm, Nat.reduceAdd, Int.reduceBEq]; cases ((Bj s14 s14.length).length : Int) == 0 <;> rfl)
theorem rT (L : Rows) (p a b : Int) : I5 (I5 L p a) p b = I5 L p b := by
 unfold I5
 rw [List.set_set]
 rcases Nat.lt_or_ge (ix p) L.length with h | h
 ·have : A3 (L.set (ix p) (Bz (A3 L (ix p)) 0 [.int a])) (ix p) = Bz (A3 L (ix p)) 0 [.int a] := by
   unfold A3
   simp [List.getD_eq_getElem?_getD, List.getElem?_set, h]
  rw [this]
  simp only [Bz, List.set_set]
 ·rw [List.set_eq_of_length_le h, List.set_eq_of_length_le h]
theorem kj {N : Nat} {s0 s1 s2 s3 s4 s5 s6 s7 s8 s9 s10 s11 s12 s13 s15 s21 s22 s23 s25 s26 s27 : Int} {s18 s20 : Bool} {s14 s16 s17 s19 s24 : Rows} {p : Int} {b : Bool} (h : Fit s14 s16 s17 s19 s24) (hN : 2097152 < N) : NS N [.int s0, .int s1, .int s2, .int s3, .int s4, .int s5, .int s6, .int s7, .int s8, .int s9, .int s10, .int s11, .int s12, .int s13, .rows s14, .int s15, .rows s16, .rows s17, .bool s18, .rows s19, .bool s20, .int s21, .int s22, .int s23, .rows s24, .int s25, .int s26, .int s27, .int p, .bool b] = some (AW (KK (⟨s0, s1, s2, s3, s4, s5, s6, s7, s8, s9, s10, s11, s12, s13, s14, s15, s16, s17, s18, s19, s20, s21, s22, s23, s24, s25, s26, s27⟩ : Inn) p b)) := by
 show Mq (std (GR N) N) (xOf _) = _
 generalize hres : (some (AW (KK (⟨s0, s1, s2, s3, s4, s5, s6, s7, s8, s9, s10, s11, s12, s13, s14, s15, s16, s17, s18, s19, s20, s21, s22, s23, s24, s25, s26, s27⟩ : Inn) p b)) : Option (List PV)) = RR
 simp only [Mq, Ve, WL, Tz, std, xOf, PXb, PXc, PXn, PXm, Nat.reduceAdd, Int.reduceBEq, Bl h, Nx, pW h.bt hN]
 subst hres; simp only [KK]
 rw [BEq.comm (a := s12) (b := p), BEq.comm (a := s13) (b := p)]
 cases hp : inR p s14.length <;> try rfl
 simp only [DC hp h.bt, PXb, PXc, PXn, PXm, Nat.reduceAdd, Int.reduceBEq]
 have e := rT s14 p 3 2
 cases s12 == 0 <;> cases s13 == 0 <;> try rfl
 cases p == s12 <;> cases p == s13 <;> cases b <;> try rfl
 all_goals (simp only [PXb, PXc, PXn, PXm, Nat.reduceAdd, Int.reduceBEq]; first | rfl | (cases ((Bj s14 s14.length).length : Int) == 0 <;> first | rfl | (rw [← e]; rfl)) | (rw [← e]; rfl))
end Go.Px
end
section
namespace Go.Px
set_option maxRecDepth 100000
def btw (a b c : Int) : Bool := iLe b a && iLe a c
theorem Di (N : Nat) (a b c : Int) : Ah N [.int a, .int b, .int c] = some [.bool (btw a b c)] := by
 show some [PV.bool (cond (iLe b a) (iLe a c) false)] = _
 rw [Pk]; rfl
theorem L9 (N : Nat) (a b c : Int) : CQ N [.int a, .int b, .int c] = some [.bool (btw a b c)] := by
 show some [PV.bool (cond (iLe b a) (iLe a c) false)] = _
 rw [Pk]; rfl
theorem rR (N : Nat) (a b c : Int) : TR N [.int a, .int b, .int c] = some [.bool (btw a b c)] := by
 show some [PV.bool (cond (iLe b a) (iLe a c) false)] = _
 rw [Pk]; rfl
theorem bA (N : Nat) (a b c : Int) : Eo N [.int a, .int b, .int c] = some [.bool (btw a b c)] := by
 show some [PV.bool (cond (iLe b a) (iLe a c) false)] = _
 rw [Pk]; rfl
def F3 (x1 x2 x3 x4 x5 x6 x7 x9 x10 x11 x12 : Int) : Bool := btw x1 2 11 && btw x2 1 2 && btw x3 0 90 && btw x4 4 8 && btw x5 0 90 && btw x6 1 5 && btw x7 1 5 && btw x9 0 200 && btw x10 0 1000 && btw x11 0 9 && btw x12 0 11
theorem eE (N : Nat) (x0 : ByteArray) (x1 x2 x3 x4 x5 x6 x7 x9 x10 x11 x12 : Int) (x8 : Bool) (x13 : Rows) :
   Fw N [.str x0, .int x1, .int x2, .int x3, .int x4, .int x5, .int x6, .int x7, .bool x8, .int x9, .int x10, .int x11, .int x12, .rows x13] = some [.bool (F3 x1 x2 x3 x4 x5 x6 x7 x9 x10 x11 x12)] := by
  show Iu (std (Kb N) N) (xOf _) = _
  have e : ∀ ls, Kb N 47 [] ls = CQ N ls := fun ls => rfl
  simp only [Iu, std, xOf, e, L9, PXb, PXc, PXn, AA, F3]
def Ou (s : ByteArray) (i : Nat) : Bool := !(iLe 65 (Lr s i) && iLe (Lr s i) 90) && ((i : Int) == 0 || ((!(Lr s i == 95) && !(Lr s i == 45)) && (iLt (Lr s i) 48 || iLt 57 (Lr s i))))
def Kv (s : ByteArray) : Bool := !Ak (Ou s) s.size 0 && (iLe 1 s.size && iLe s.size 16)
theorem uL (s : ByteArray) : (FO s).length = s.size := by
 simp only [FO, List.length_map, Array.length_toList]; rfl
theorem uU (s : ByteArray) (i : Nat) (h : i < s.size) : pvI (AJ (FO s) i 0) = Lr s i := by
 unfold AJ A3 AH FO Lr
 simp only [List.getD_eq_getElem?_getD, List.getElem?_map]
 have : i < s.data.toList.length := by simpa using h
 rw [List.getElem?_eq_getElem this]
 simp [List.getElem?_eq_getElem this]
theorem l7 (N : Nat) (s : ByteArray) (hN : s.size < N) (hs : s.size ≤ 1048576) : K6 N [.str s] = some [.bool (Kv s)] := by
 show P2 (std (Yi N) N) (xOf _) = _
 simp only [P2, std, xOf, uL, PXb, PXc, PXn, AA]
 refine AN (Bd (len := s.size) (Ou s) [.bool false] ?_ ?_ N hN) ?_
 ·intro self
  simp only [PXb, PXc, PXn, AA, Ap]
 ·intro i self hi
  simp only [PXb, PXc, PXn, AA, Int.toNat_natCast, uU s i hi, AS (show i ≤ 1099511627776 by omega), Aj hi, AR hi, Ou]
 ·unfold Kv
  cases Ak (Ou s) s.size 0 <;> rfl
theorem rh (bs : ByteArray) (i : Nat) (r : List UInt8) : (ByteArray.toList.loop bs i r).length = r.length + (bs.size - i) := by
 induction i, r using ByteArray.toList.loop.induct (bs := bs) with
 | case1 i r h ih => unfold ByteArray.toList.loop; rw [if_pos h, ih]; simp; omega
 | case2 i r h => unfold ByteArray.toList.loop; rw [if_neg h]; simp; omega
theorem gQ (bs : ByteArray) : bs.toList.length = bs.size := by
 unfold ByteArray.toList; rw [rh]; simp
theorem oA (s : ByteArray) : (s.toList == (⟨#[]⟩ : ByteArray).toList) = !iLe 1 (s.size : Int) := by
 have h := gQ s
 have h0 := gQ (⟨#[]⟩ : ByteArray)
 rw [Bool.eq_iff_iff]
 simp only [beq_iff_eq, iLe, Bool.not_eq_true', decide_eq_false_iff_not]
 constructor
 ·intro e; rw [e, h0] at h
  have : (⟨#[]⟩ : ByteArray).size = 0 := rfl
  omega
 ·intro e
  have e1 : s.toList = [] := List.eq_nil_of_length_eq_zero (by omega)
  have e2 : (⟨#[]⟩ : ByteArray).toList = [] := List.eq_nil_of_length_eq_zero h0
  rw [e1, e2]
theorem oE (N : Nat) (s : ByteArray) (hN : s.size < N) (hs : s.size ≤ 1048576) : Nn N [.str s] = some [.bool (Kv s)] := by
 show Rl (std (aH N) N) (xOf _) = _
 simp only [Rl, std, xOf, PXb, PXc, PXn, AA, oA]
 have e : iLe 1 (s.size : Int) = false ∨ iLe 1 (s.size : Int) = true := by cases iLe 1 (s.size : Int) <;> simp
 have e2 : iLt 16 (s.size : Int) = !iLe (s.size : Int) 16 := by unfold iLt iLe; rw [Bool.eq_iff_iff]; simp
 rw [e2]
 cases h : iLe 1 (s.size : Int) && iLe (s.size : Int) 16 with
 | false =>
  have : (!iLe 1 (s.size : Int) || !iLe (s.size : Int) 16) = true := by rw [← Bool.not_and, h]; rfl
  simp only [this, cond_true, Kv, h, Bool.and_false]
 | true =>
  have : (!iLe 1 (s.size : Int) || !iLe (s.size : Int) 16) = false := by rw [← Bool.not_and, h]; rfl
  simp only [this, cond_false, Kv, h, Bool.and_true]
  refine AN (Bd (len := s.size) (Ou s) [.bool false] ?_ ?_ N hN) ?_
  ·intro self
   simp only [PXb, PXc, PXn, AA, Ap]
  ·intro i self hi
   simp only [PXb, PXc, AA, Int.toNat_natCast, AS (show i ≤ 1099511627776 by omega), Aj hi, AR hi, Ou]
   cases (iLe 65 (Lr s i) && iLe (Lr s i) 90) <;> rfl
  ·cases Ak (Ou s) s.size 0 <;> rfl
end Go.Px
end
section
namespace Go.Px
set_option maxRecDepth 100000
theorem oe {i len : Nat} (h : i < len) (hl : len ≤ 1099511627776) : (!iLt 0 (i : Int) || iIn (IntKind.i64.wrap ((i : Int) - 1)) (len : Int)) = true := by
 rw [Fv (by omega) (by omega)]
 simp only [iLt, iIn, Bool.or_eq_true, Bool.not_eq_true', decide_eq_false_iff_not, decide_eq_true_eq]
 omega
def pf (L : Rows) (ov : Int) (i : Nat) : Bool := (iLt (atI L i 0) 1 || iLt (atI L i 1) (atI L i 0) || iLt ov (atI L i 1)) || !btw (atI L i 2) 0 11
def kg (L : Rows) (i : Nat) : Bool := iLt 0 (i : Int) && iLe (atI L i 0) (pvI (AJ L (IntKind.i64.wrap ((i : Int) - 1)).toNat 1))
def f5 (L : Rows) (ov : Int) (i : Nat) : Option (List PV) := cond (pf L ov i) (some [.int 2]) (cond (kg L i) (some [.int 8]) none)
def qh : Option (List PV) → Int
 | none => 0
 | some r => pvI (AH r 0)
def gt (L : Rows) (ov : Int) : Int := cond (iLt 8 (L.length : Int)) 9 (qh (Bw (f5 L ov) L.length 0))
theorem W7 (o : Option (List PV)) : cond (pvI (AH (SR o) 0) == ((0 : Nat) : Int)) (some [PV.int (pvI (AH (SR o) 1))]) (some [PV.int 0]) = some [PV.int (qh o)] := by
 cases o <;> rfl
theorem gX (N : Nat) (x0 : ByteArray) (x1 x2 x3 x4 x5 x6 x7 x9 x10 x11 x12 : Int) (x8 : Bool) (L : Rows) (hN : 2097152 < N) :
   G3 N [.str x0, .int x1, .int x2, .int x3, .int x4, .int x5, .int x6, .int x7, .bool x8, .int x9, .int x10, .int x11, .int x12, .rows L] = some [.int (gt L x3)] := by
  show KG (std (MA N) N) (xOf _) = _
  have e : ∀ ls, MA N 47 [] ls = CQ N ls := fun ls => rfl
  simp only [KG, std, xOf, e, L9, PXb, PXc, PXn, AA, gt]
  cases h8 : iLt 8 (L.length : Int) with
  | true => rfl
  | false =>
    have hl : L.length ≤ 8 := by simp [iLt] at h8; omega
    simp only [cond_false]
    refine AN (CR (len := L.length) (f5 L x3) ?_ ?_ L.length 0 N (by omega) (by omega)) ?_
    · intro self
      simp only [PXb, PXc, PXn, AA, Ap]
    · intro i self hi
      simp only [PXb, PXc, PXn, AA, Int.toNat_natCast, AS (show i ≤ 1099511627776 by omega), Aj hi, AR hi, L9, e, oe hi (by omega)]
      simp only [f5, pf, kg, atI]
      cases (iLt (pvI (AJ L i 0)) 1 || iLt (pvI (AJ L i 1)) (pvI (AJ L i 0)) || iLt x3 (pvI (AJ L i 1)) || !btw (pvI (AJ L i 2)) 0 11) <;>
      cases (iLt 0 (i : Int) && iLe (pvI (AJ L i 0)) (pvI (AJ L (IntKind.i64.wrap ((i : Int) - 1)).toNat 1))) <;> rfl
    · exact W7 _
def De (x0 : ByteArray) (x1 x2 x3 x4 x5 x6 x7 x9 x10 x11 x12 : Int) (L : Rows) : Int :=
  cond (!Kv x0) 5 (cond (!F3 x1 x2 x3 x4 x5 x6 x7 x9 x10 x11 x12) 2
    (cond ((!(x10 == 0) && x2 == 1) || ((!(x5 == 0) || iLt 0 (L.length : Int)) && x3 == 0)) 1
      (cond (!(x5 == 0) && iLt (IntKind.i64.wrap (x5 * x1)) x3) 13 (gt L x3))))
theorem WW (N : Nat) (x0 : ByteArray) (x1 x2 x3 x4 x5 x6 x7 x9 x10 x11 x12 : Int) (x8 : Bool) (L : Rows) (hN : 2097152 < N) (hs : x0.size ≤ 1048576) :
   AP N [.str x0, .int x1, .int x2, .int x3, .int x4, .int x5, .int x6, .int x7, .bool x8, .int x9, .int x10, .int x11, .int x12, .rows L] = some [.int (De x0 x1 x2 x3 x4 x5 x6 x7 x9 x10 x11 x12 L)] := by
  show LL (std (Fj N) N) (xOf _) = _
  have e : ∀ ls, Fj N 31 [] ls = K6 N ls := fun ls => rfl
  have e2 : ∀ ls, Fj N 32 [] ls = Fw N ls := fun ls => rfl
  have e3 : ∀ ls, Fj N 33 [] ls = G3 N ls := fun ls => rfl
  simp only [LL, std, xOf, e, e2, e3, l7 N x0 (by omega) hs, eE, gX N _ _ _ _ _ _ _ _ _ _ _ _ _ _ hN, PXb, PXc, AA, De]
  cases Kv x0 <;> cases F3 x1 x2 x3 x4 x5 x6 x7 x9 x10 x11 x12 <;> try rfl
  simp only [PXb, PXc, AA, Bool.not_true]
  cases (!(x10 == 0) && x2 == 1) <;> cases ((!(x5 == 0) || iLt 0 (L.length : Int)) && x3 == 0) <;> try rfl
  cases (!(x5 == 0) && iLt (IntKind.i64.wrap (x5 * x1)) x3) <;> rfl
theorem aW (N : Nat) (x0 : ByteArray) (x1 x2 x3 x4 x5 x6 x7 x9 x10 x11 x12 : Int) (x8 : Bool) (L : Rows) (hN : 2097152 < N) (hs : x0.size ≤ 1048576) :
   Ab N [.str x0, .int x1, .int x2, .int x3, .int x4, .int x5, .int x6, .int x7, .bool x8, .int x9, .int x10, .int x11, .int x12, .rows L] = some [.int (De x0 x1 x2 x3 x4 x5 x6 x7 x9 x10 x11 x12 L)] := by
  show PQ (std (LP N) N) (xOf _) = _
  have e : ∀ ls, LP N 53 [] ls = Nn N ls := fun ls => rfl
  have e2 : ∀ ls, LP N 54 [] ls = TR N ls := fun ls => rfl
  simp only [PQ, std, xOf, e, e2, oE N x0 (by omega) hs, rR, PXb, PXc, PXn, AA]
  simp only [← Bool.not_and, De]
  rw [show (btw x1 2 11 && btw x2 1 2 && btw x3 0 90 && btw x4 4 8 && btw x5 0 90 && btw x6 1 5 && btw x7 1 5 && btw x9 0 200 && btw x10 0 1000 && btw x11 0 9 && btw x12 0 11) = F3 x1 x2 x3 x4 x5 x6 x7 x9 x10 x11 x12 from rfl]
  rw [Bool.and_comm (x3 == 0)]
  cases Kv x0 <;> cases F3 x1 x2 x3 x4 x5 x6 x7 x9 x10 x11 x12 <;> try rfl
  cases (!(x10 == 0) && x2 == 1) || ((!(x5 == 0) || iLt 0 (L.length : Int)) && x3 == 0) <;> try rfl
  cases (!(x5 == 0) && iLt (IntKind.i64.wrap (x5 * x1)) x3) <;> try rfl
  simp only [Bool.not_true, cond_false, gt]
  cases h8 : iLt 8 (L.length : Int) with
  | true => rfl
  | false =>
    have hl : L.length ≤ 8 := by simp [iLt] at h8; omega
    simp only [cond_false]
    refine AN (CR (len := L.length) (f5 L x3) ?_ ?_ L.length 0 N (by omega) (by omega)) ?_
    · intro self
      simp only [PXb, PXc, PXn, AA, Ap]
    · intro i self hi
      simp only [PXb, PXc, PXn, AA, Int.toNat_natCast, AS (show i ≤ 1099511627776 by omega), Aj hi, AR hi, oe hi (by omega)]
      simp only [f5, pf, kg, atI]
      cases (iLt (pvI (AJ L i 0)) 1 || iLt (pvI (AJ L i 1)) (pvI (AJ L i 0)) || iLt x3 (pvI (AJ L i 1)) || !btw (pvI (AJ L i 2)) 0 11) <;>
      cases (iLt 0 (i : Int) && iLe (pvI (AJ L i 0)) (pvI (AJ L (IntKind.i64.wrap ((i : Int) - 1)).toNat 1))) <;> rfl
    · exact W7 _
end Go.Px
end
section
namespace Go.Px
set_option maxRecDepth 100000
theorem ZA (N : Nat) (L : Rows) (v : Int) (hN : L.length < N) (hl : L.length ≤ 2097152) : DX N [.rows L, .int v] = some [.int (RC (fun j => v == atI L j 0) L.length)] := by
 show Fn (std (NU N) N) (xOf _) = _
 simp only [Fn, std, xOf, PXb, PXc, PXn, AA]
 refine AN (CR (len := L.length) (F0 fun j => v == atI L j 0) ?_ ?_ L.length 0 N (by omega) (by omega)) ?_
 ·intro self
  simp only [PXb, PXc, PXn, AA, Ap]
 ·intro i self hi
  simp only [PXb, PXc, PXn, AA, AS (show i ≤ 1099511627776 by omega), Aj hi, AR hi, F0, BE]
  cases v == atI L i 0 <;> rfl
 ·unfold RC
  cases Bw (F0 fun j => v == atI L j 0) L.length 0 <;> rfl
def G7 (L : Rows) (k : Nat) (v : Int) : Bool := Ak (fun j => v == atI L j 0) k 0
theorem Ki (N : Nat) (L : Rows) (v : Int) (hN : L.length < N) (hl : L.length ≤ 2097152) : Am N [.rows L, .int v] = some [.bool (G7 L L.length v)] := by
 show Ds (std (E8 N) N) (xOf _) = _
 have e : ∀ ls, E8 N 93 [] ls = DX N ls := fun ls => rfl
 simp only [Ds, std, xOf, PXb, PXc, PXn, AA, e, ZA N L v hN hl, Jy, G7]
theorem ri (L : Rows) (i : Nat) (v : Int) (h : i ≤ L.length) : G7 (L.take i) (L.take i).length v = G7 L i v := by
 rw [List.length_take, Nat.min_eq_left h]
 exact fF i 0 (fun j _ hj => by rw [kr (by omega)])
def KA (L : Rows) (n : Int) (i : Nat) : Bool := !btw (atI L i 0) 1 n || G7 L i (atI L i 0)
def FK (L : Rows) (n : Int) : Bool := !Ak (KA L n) L.length 0
theorem Np (N : Nat) (L : Rows) (n : Int) (hN : L.length < N) (hl : L.length ≤ 2097152) : DH N [.rows L, .int n] = some [.bool (FK L n)] := by
 show E0 (std (Dr N) N) (xOf _) = _
 have e : ∀ ls, Dr N 48 [] ls = Ah N ls := fun ls => rfl
 have e2 : ∀ ls, Dr N 70 [] ls = Am N ls := fun ls => rfl
 simp only [E0, std, xOf, PXb, PXc, PXn, AA]
 refine AN (Bd (len := L.length) (KA L n) [.bool false] ?_ ?_ N hN) ?_
 ·intro self
  simp only [PXb, PXc, PXn, AA, Ap]
 ·intro i self hi
  have h1 : (L.take i).length ≤ L.length := List.length_take_le' i L
  simp only [PXb, PXc, PXn, AA, AS (show i ≤ 1099511627776 by omega), Aj hi, AR hi, e, e2, Di, sm (Nat.le_of_lt hi), Int.toNat_zero, List.drop_zero, Ki N (L.take i) _ (by omega) (by omega), ri L i _ (by omega), BE, KA]
  cases btw (atI L i 0) 1 n <;> cases G7 L i (atI L i 0) <;> rfl
 ·unfold FK
  cases Ak (KA L n) L.length 0 <;> rfl
theorem gE (N : Nat) (L : Rows) (n : Int) (hN : L.length < N) (hl : L.length ≤ 2097152) : QH N [.rows L, .int n] = some [.bool (FK L n)] := by
 show Ue (std (VT N) N) (xOf _) = _
 have e : ∀ ls, VT N 105 [] ls = Eo N ls := fun ls => rfl
 simp only [Ue, std, xOf, PXb, PXc, PXn, AA]
 refine AN (Bd (len := L.length) (KA L n) [.bool false] ?_ ?_ N hN) ?_
 ·intro self
  simp only [PXb, PXc, PXn, AA, Ap]
 ·intro i self hi
  have h1 : (L.take i).length = i := by rw [List.length_take]; omega
  simp only [PXb, PXc, PXn, AA, AS (show i ≤ 1099511627776 by omega), Aj hi, AR hi, e, bA, sm (Nat.le_of_lt hi), Int.toNat_zero, List.drop_zero, BE, KA, h1]
  cases btw (atI L i 0) 1 n with
  | false => rfl
  | true =>
   simp only [PXb, PXc, PXn, AA]
   refine AN (Ww (len := i) (fun j => [.int (j : Int)]) (fun j => atI L i 0 == atI L j 0) [.int 0, .bool false] [.int 1, .int (i : Int)] ?_ ?_ N (by omega)) ?_
   ·intro self
    simp only [PXb, PXc, PXn, AA, Ap]
   ·intro j self hj
    simp only [PXb, PXc, PXn, AA, AS (show j ≤ 1099511627776 by omega), Aj hj, AR hj, kr hj]
    rfl
   ·unfold G7
    cases Ak (fun j => atI L i 0 == atI L j 0) i 0 <;> rfl
 ·unfold FK
  cases Ak (KA L n) L.length 0 <;> rfl
theorem bQ (N : Nat) (v : Int) : Cj N [.int v] = some [.bool (!(v == 0))] := rfl
def lsI (L14 L16 L17 L19 L24 : Rows) (b18 b20 : Bool) (x0 x1 x2 x3 x4 x5 x6 x7 x8 x9 x10 x11 x12 x13 x15 x21 x22 x23 x25 x26 x27 : Int) : List PV :=
 [.int x0, .int x1, .int x2, .int x3, .int x4, .int x5, .int x6, .int x7, .int x8, .int x9, .int x10, .int x11, .int x12, .int x13, .rows L14, .int x15, .rows L16, .rows L17, .bool b18, .rows L19, .bool b20, .int x21, .int x22, .int x23, .rows L24, .int x25, .int x26, .int x27]
section
variable (N : Nat) (L14 L16 L17 L19 L24 : Rows) (b18 b20 : Bool) (x0 x1 x2 x3 x4 x5 x6 x7 x8 x9 x10 x11 x12 x13 x15 x21 x22 x23 x25 x26 x27 : Int)
theorem gj (hN : L14.length < N) (hl : L14.length ≤ 2097152) : Bo N (lsI L14 L16 L17 L19 L24 b18 b20 x0 x1 x2 x3 x4 x5 x6 x7 x8 x9 x10 x11 x12 x13 x15 x21 x22 x23 x25 x26 x27) = some [.bool (CG L14)] := by
 show EO (std (EY N) N) (xOf (lsI ..)) = _
 have e : ∀ ls, EY N 173 [] ls = Cj N ls := fun ls => rfl
 simp only [EO, std, xOf, lsI, PXb, PXc, PXn, AA]
 rw [show CG L14 = iLe 0 (RC (fun i => !(atI L14 i 0 == 0)) L14.length) from (Jy _ _).symm]
 rw [Option.bind_assoc]
 refine AN (CR (len := L14.length) (F0 fun i => !(atI L14 i 0 == 0)) ?_ ?_ L14.length 0 N (by omega) (by omega)) ?_
 ·intro self
  simp only [PXb, PXc, PXn, AA, Ap]
 ·intro i self hi
  simp only [PXb, PXc, PXn, AA, AS (show i ≤ 1099511627776 by omega), Aj hi, AR hi, F0, BE, e, bQ]
  cases atI L14 i 0 == 0 <;> rfl
 ·unfold RC
  cases Bw (F0 fun i => !(atI L14 i 0 == 0)) L14.length 0 <;> rfl
theorem aI (hN : L14.length < N) (hl : L14.length ≤ 2097152) : BP N (lsI L14 L16 L17 L19 L24 b18 b20 x0 x1 x2 x3 x4 x5 x6 x7 x8 x9 x10 x11 x12 x13 x15 x21 x22 x23 x25 x26 x27) = some [.bool (CG L14)] := by
 show IR (std (Qw N) N) (xOf (lsI ..)) = _
 simp only [IR, std, xOf, lsI, PXb, PXc, PXn, AA]
 refine AN (Bd (len := L14.length) (fun i => !(atI L14 i 0 == 0)) [.bool true] ?_ ?_ N hN) ?_
 ·intro self
  simp only [PXb, PXc, PXn, AA, Ap]
 ·intro i self hi
  simp only [PXb, PXc, PXn, AA, AS (show i ≤ 1099511627776 by omega), Aj hi, AR hi, BE]
 ·unfold CG
  cases Ak (fun i => !(atI L14 i 0 == 0)) L14.length 0 <;> rfl
theorem ec (hN : L14.length < N) (hl : L14.length ≤ 2097152) : BA N (lsI L14 L16 L17 L19 L24 b18 b20 x0 x1 x2 x3 x4 x5 x6 x7 x8 x9 x10 x11 x12 x13 x15 x21 x22 x23 x25 x26 x27) = some [.bool (Ed L14 x12 x13)] := by
 show Dp (std (D0 N) N) (xOf (lsI ..)) = _
 have e : ∀ ls, D0 N 143 [] ls = Bo N ls := fun ls => rfl
 have := gj N L14 L16 L17 L19 L24 b18 b20 x0 x1 x2 x3 x4 x5 x6 x7 x8 x9 x10 x11 x12 x13 x15 x21 x22 x23 x25 x26 x27 hN hl
 simp only [lsI] at this
 simp only [Dp, std, xOf, lsI, PXb, PXc, PXn, AA, e, this, Ed]
theorem jg (hN : L14.length < N) (hl : L14.length ≤ 2097152) : B7 N (lsI L14 L16 L17 L19 L24 b18 b20 x0 x1 x2 x3 x4 x5 x6 x7 x8 x9 x10 x11 x12 x13 x15 x21 x22 x23 x25 x26 x27) = some [.bool (Ed L14 x12 x13)] := by
 show GS (std (Gv N) N) (xOf (lsI ..)) = _
 have e : ∀ ls, Gv N 119 [] ls = BP N ls := fun ls => rfl
 have := aI N L14 L16 L17 L19 L24 b18 b20 x0 x1 x2 x3 x4 x5 x6 x7 x8 x9 x10 x11 x12 x13 x15 x21 x22 x23 x25 x26 x27 hN hl
 simp only [lsI] at this
 simp only [GS, std, xOf, lsI, PXb, PXc, PXn, AA, e, this, Ed]
theorem iA (hN : L14.length < N) (hl : L14.length ≤ 2097152) : Ch N (lsI L14 L16 L17 L19 L24 b18 b20 x0 x1 x2 x3 x4 x5 x6 x7 x8 x9 x10 x11 x12 x13 x15 x21 x22 x23 x25 x26 x27) = some [.rows (Bj L14 L14.length)] := by
 show FF (std (M3 N) N) (xOf (lsI ..)) = _
 simp only [FF, std, xOf, lsI, PXb, PXc, PXn, AA]
 refine AN (Du (len := L14.length) (fun i => [.rows (Bj L14 i), .int (i : Int)]) [.rows (Bj L14 L14.length)] ?_ ?_ N hN) rfl
 ·intro self
  simp only [PXb, PXc, PXn, AA, Ap]
 ·intro i self hi
  have h2 : (Bj L14 i ++ [[PV.int ((i : Int) + 1)]]).length ≤ 4194304 := by have := TJ L14 i; simp; omega
  simp only [PXb, PXc, PXn, AA, AS (show i ≤ 1099511627776 by omega), Aj hi, AR hi, BE, Bj, Iz h2 (show 8 ≤ 4096 by omega)]
  cases (atI L14 i 0 == 0 || atI L14 i 0 == 3) <;> rfl
theorem oK (hN : L14.length < N) (hl : L14.length ≤ 2097152) : EF N (lsI L14 L16 L17 L19 L24 b18 b20 x0 x1 x2 x3 x4 x5 x6 x7 x8 x9 x10 x11 x12 x13 x15 x21 x22 x23 x25 x26 x27) = some [.rows (Bj L14 L14.length)] := by
 show Jq (std (Sr N) N) (xOf (lsI ..)) = _
 simp only [Jq, std, xOf, lsI, PXb, PXc, PXn, AA]
 refine AN (Du (len := L14.length) (fun i => [.rows (Bj L14 i), .int (i : Int)]) [.rows (Bj L14 L14.length)] ?_ ?_ N hN) rfl
 ·intro self
  simp only [PXb, PXc, PXn, AA, Ap]
 ·intro i self hi
  have h2 : (Bj L14 i ++ [[PV.int ((i : Int) + 1)]]).length ≤ 4194304 := by have := TJ L14 i; simp; omega
  simp only [PXb, PXc, PXn, AA, AS (show i ≤ 1099511627776 by omega), Aj hi, AR hi, BE, Bj, Iz h2 (show 8 ≤ 4096 by omega)]
  cases (atI L14 i 0 == 0 || atI L14 i 0 == 3) <;> rfl
end
theorem Xz (N : Nat) (v : Int) : DK N [.int v] = some [.bool (!btw v 0 1000000000)] := by
 show E2 (std (Gd N) N) (xOf _) = _
 have e : ∀ ls, Gd N 48 [] ls = Ah N ls := fun ls => rfl
 simp only [E2, std, xOf, PXb, PXc, PXn, AA, e, Di]
end Go.Px
end
section
namespace Go.Px
set_option maxRecDepth 100000
def pIs (L : Rows) (v : Int) (i : Nat) : Bool := atI L i 0 == v
def XD (s n : Int) (i : Nat) : Bool := s == (i : Int) + 1 || n == (i : Int) + 1
def SL (L : Rows) (s n : Int) (i : Nat) : Bool := iLt 3 (atI L i 0) || (pIs L 1 i && !XD s n i)
def UR (L : Rows) (s n : Int) (i : Nat) : Bool := iLt 3 (atI L i 0) || !(pIs L 1 i == XD s n i)
def eX (L : Rows) : Int := CB (pIs L 2) L.length
def ins (L : Rows) : Int := CB (pIs L 1) L.length
def two (s n : Int) : Int := cond (!(n == 0)) (IntKind.i64.wrap (cond (!(s == 0)) (IntKind.i64.wrap (0 + 1)) 0 + 1)) (cond (!(s == 0)) (IntKind.i64.wrap (0 + 1)) 0)
def kc (L : Rows) (s n wk k : Int) : Bool :=
 !Ak (SL L s n) L.length 0 && ((btw s 0 k && btw n 0 k) && (!(s == n && !(s == 0)) && ((two s n == ins L && (!CG L || iLt 0 (two s n))) && eX L == wk)))
def UK (L : Rows) (s n wk : Int) : Bool :=
 !Ak (UR L s n) L.length 0 && (!((CG L && iLt (ins L) 1) || (!(s == 0) && s == n)) && wk == eX L)
def pE (L : Rows) : Nat → Bool
 | 0 => false
 | i + 1 => pE L i || !(atI L i 0 == 0)
theorem oc (L : Rows) : ∀ i, pE L i = Ak (fun j => !(atI L j 0 == 0)) i 0
 | 0 => rfl
 | i + 1 => by rw [ZW, Nat.zero_add, ← oc L i]; rfl
section
variable (N : Nat) (L14 L16 L17 L19 L24 : Rows) (b18 b20 : Bool) (x0 x1 x2 x3 x4 x5 x6 x7 x8 x9 x10 x11 x12 x13 x15 x21 x22 x23 x25 x26 x27 : Int)
theorem ah (k : Int) (hN : L14.length < N) (hl : L14.length ≤ 2097152) : D7 N (lsI L14 L16 L17 L19 L24 b18 b20 x0 x1 x2 x3 x4 x5 x6 x7 x8 x9 x10 x11 x12 x13 x15 x21 x22 x23 x25 x26 x27 ++ [.int k]) = some [.bool (kc L14 x12 x13 x4 k)] := by
  simp only [lsI, List.cons_append, List.nil_append]
  show GL (std (Id N) N) (xOf _) = _
  have e : ∀ ls, Id N 48 [] ls = Ah N ls := fun ls => rfl
  simp only [GL, std, xOf, lsI, PXb, PXc, PXn, AA]
  refine AN (Ww (len := L14.length) (fun i => [.int (CB (pIs L14 2) i), .int (CB (pIs L14 1) i), .bool (pE L14 i), .int (i : Int)])
    (SL L14 x12 x13) [.int 0, .bool false] [.int 1, .int (eX L14), .int (ins L14), .bool (CG L14)] ?_ ?_ N hN) ?_
  · intro self
    simp only [PXb, PXc, PXn, AA, Ap, oc]
    rfl
  · intro i self hi
    simp only [PXb, PXc, AA, AS (show i ≤ 1099511627776 by omega), Aj hi, AR hi, BE, W6 (pIs L14 2) (show i ≤ 1099511627776 by omega), W6 (pIs L14 1) (show i ≤ 1099511627776 by omega)]
    unfold SL pIs XD
    simp only [CB, pE]
    cases h3 : iLt 3 (atI L14 i 0) with
    | true => rfl
    | false =>
      cases h1 : atI L14 i 0 == 1 with
      | true =>
        rw [ip h1]
        cases x12 == (i : Int) + 1 <;> cases x13 == (i : Int) + 1 <;> rfl
      | false => cases h2 : atI L14 i 0 == 2 <;> rfl
  · unfold kc
    simp only [e, Di]
    cases Ak (SL L14 x12 x13) L14.length 0 with
    | true => rfl
    | false =>
      simp only [PXb, PXc, PXn, AA]
      unfold two
      cases btw x12 0 k <;> cases btw x13 0 k <;> try rfl
      cases x12 == 0 <;> cases x13 == 0 <;> cases x12 == x13 <;> try rfl
theorem gy (hN : L14.length < N) (hl : L14.length ≤ 2097152) : ID N (lsI L14 L16 L17 L19 L24 b18 b20 x0 x1 x2 x3 x4 x5 x6 x7 x8 x9 x10 x11 x12 x13 x15 x21 x22 x23 x25 x26 x27) = some [.bool (UK L14 x12 x13 x4)] := by
  show LV (std (M6 N) N) (xOf (lsI ..)) = _
  have e : ∀ ls, M6 N 119 [] ls = BP N ls := fun ls => rfl
  have h70 := aI N L14 L16 L17 L19 L24 b18 b20 x0 x1 x2 x3 x4 x5 x6 x7 x8 x9 x10 x11 x12 x13 x15 x21 x22 x23 x25 x26 x27 hN hl
  simp only [lsI] at h70
  simp only [LV, std, xOf, lsI, PXb, PXc, PXn, AA, e, h70]
  refine AN (Ww (len := L14.length) (fun i => [.int (CB (pIs L14 2) i), .int (CB (pIs L14 1) i), .int (i : Int)])
    (UR L14 x12 x13) [.int 0, .bool false] [.int 1, .int (eX L14), .int (ins L14)] ?_ ?_ N hN) ?_
  · intro self
    simp only [PXb, PXc, PXn, AA, Ap]
    rfl
  · intro i self hi
    simp only [PXb, PXc, AA, AS (show i ≤ 1099511627776 by omega), Aj hi, AR hi, BE, W6 (pIs L14 2) (show i ≤ 1099511627776 by omega), W6 (pIs L14 1) (show i ≤ 1099511627776 by omega)]
    unfold UR pIs XD
    simp only [CB]
    cases h3 : iLt 3 (atI L14 i 0) with
    | true => rfl
    | false =>
      cases h1 : atI L14 i 0 == 1 with
      | true =>
        rw [ip h1]
        cases x12 == (i : Int) + 1 <;> cases x13 == (i : Int) + 1 <;> rfl
      | false => cases h2 : atI L14 i 0 == 2 <;> cases x12 == (i : Int) + 1 <;> cases x13 == (i : Int) + 1 <;> rfl
  · unfold UK
    cases Ak (UR L14 x12 x13) L14.length 0 with
    | true => rfl
    | false =>
      simp only [PXb, PXc, PXn, AA]
      cases CG L14 <;> cases h : iLt (ins L14) 1 <;> cases x12 == 0 <;> cases x12 == x13 <;> first | rfl | (simp [SR, AH, h])
end
end Go.Px
end
section
namespace Go.Px
set_option maxRecDepth 100000
theorem tN (s n : Int) : two s n = cond (!(s == 0)) 1 0 + cond (!(n == 0)) 1 0 := by
 unfold two
 cases s == 0 <;> cases n == 0 <;> rfl
theorem tc {s n : Int} {len : Nat} (h1 : 0 ≤ s ∧ s ≤ (len : Int)) (h2 : 0 ≤ n ∧ n ≤ (len : Int)) (hd : (s == n && !(s == 0)) = false) : two s n = CB (XD s n) len := by
 have hs : iLe s (len : Int) = true := by simp only [iLe, decide_eq_true_eq]; omega
 have hn : iLe n (len : Int) = true := by simp only [iLe, decide_eq_true_eq]; omega
 unfold XD
 rw [qf (p := fun i => s == (i : Int) + 1) (q := fun i => n == (i : Int) + 1) len (fun j _ hp => by
  have e1 : s = (j : Int) + 1 := by simpa using hp
  show (n == (j : Int) + 1) = false
  rw [beq_eq_false_iff_ne]
  intro e2
  have e3 : (s == n) = true := by rw [beq_iff_eq]; omega
  have e4 : (s == 0) = false := by rw [beq_eq_false_iff_ne]; omega
  rw [e3, e4] at hd; cases hd), mD s len h1.1, mD n len h2.1, hs, hn, Bool.and_true, Bool.and_true, tN]
theorem tJ (x : Int) : iLt 0 x = !iLt x 1 := by
 unfold iLt
 rw [Bool.eq_iff_iff]
 simp only [decide_eq_true_eq, Bool.not_eq_true', decide_eq_false_iff_not]
 omega
theorem sW {L : Rows} {s n : Int} (h1 : 0 ≤ s ∧ s ≤ (L.length : Int)) (h2 : 0 ≤ n ∧ n ≤ (L.length : Int)) (hd : (s == n && !(s == 0)) = false) :
    (!Ak (SL L s n) L.length 0 && two s n == ins L) = !Ak (UR L s n) L.length 0 := by
  have h2c := tc h1 h2 hd
  rw [Bool.eq_iff_iff]
  simp only [Bool.and_eq_true, Bool.not_eq_true', Fg, beq_iff_eq]
  constructor
  · intro ⟨ha, hb⟩ j _ hj
    have hm : ∀ j, j < L.length → pIs L 1 j = true → XD s n j = true := fun j hj hp => by
      have := ha j (Nat.zero_le _) (by omega)
      unfold SL at this
      rw [hp] at this
      simp only [Bool.or_eq_false_iff, Bool.true_and, Bool.not_eq_false'] at this
      exact this.2
    have he := qO L.length hm (by rw [← h2c, hb]; rfl) j (by omega)
    have := ha j (Nat.zero_le _) hj
    unfold SL at this
    unfold UR
    rw [Bool.or_eq_false_iff] at this ⊢
    exact ⟨this.1, by rw [he]; simp⟩
  · intro ha
    have hm : ∀ j, j < L.length → pIs L 1 j = XD s n j := fun j hj => by
      have := ha j (Nat.zero_le _) (by omega)
      unfold UR at this
      rw [Bool.or_eq_false_iff] at this
      simpa using this.2
    refine ⟨fun j h0 hj => ?_, ?_⟩
    · have := ha j h0 hj
      unfold UR at this
      unfold SL
      rw [Bool.or_eq_false_iff] at this ⊢
      refine ⟨this.1, ?_⟩
      rw [hm j (by omega)]
      cases XD s n j <;> rfl
    · rw [h2c]
      exact (i3 L.length hm).symm
theorem uK (L : Rows) (s n wk k : Int) (hk : (L.length : Int) = k) : kc L s n wk k = (btw s 0 k && btw n 0 k && UK L s n wk) := by
 subst hk
 unfold kc UK
 cases hs : btw s 0 (L.length : Int) with
 | false => simp only [Bool.false_and, Bool.and_false]
 | true =>
  cases hn : btw n 0 (L.length : Int) with
  | false => simp only [Bool.false_and, Bool.and_false]
  | true =>
   have h1 : 0 ≤ s ∧ s ≤ (L.length : Int) := by simpa [btw, iLe] using hs
   have h2 : 0 ≤ n ∧ n ≤ (L.length : Int) := by simpa [btw, iLe] using hn
   simp only [Bool.true_and]
   cases hd : (s == n && !(s == 0)) with
   | true =>
    have : (!(s == 0) && s == n) = true := by rw [Bool.and_comm]; exact hd
    rw [this]
    simp only [Bool.or_true, Bool.not_true, Bool.false_and, Bool.and_false]
   | false =>
    have : (!(s == 0) && s == n) = false := by rw [Bool.and_comm]; exact hd
    rw [this, ← sW h1 h2 hd]
    simp only [Bool.or_false, Bool.not_false, Bool.true_and]
    rw [show (wk == eX L) = (eX L == wk) from BEq.comm]
    cases hA : Ak (SL L s n) L.length 0 with
    | true => rfl
    | false =>
     cases hB : two s n == ins L with
     | false => rfl
     | true =>
      rw [beq_iff_eq.1 hB, tJ]
      simp only [Bool.true_and, Bool.not_false, Bool.not_and]
end Go.Px
end
section
namespace Go.Px
set_option maxRecDepth 100000
def C3 (v : Int) : Bool := !btw v 0 1000000000
def XO (x1 x3 x5 x6 x7 x8 x9 x10 x21 x23 x25 x26 : Int) : Rows := [[.int x1], [.int x3], [.int x5], [.int x6], [.int x7], [.int x8], [.int x9], [.int x10], [.int x21], [.int x23], [.int x25], [.int x26]]
section
variable (N : Nat) (L14 L16 L17 L19 L24 : Rows) (b18 b20 : Bool) (x0 x1 x2 x3 x4 x5 x6 x7 x8 x9 x10 x11 x12 x13 x15 x21 x22 x23 x25 x26 x27 : Int)
theorem ZB (hN : 2097152 < N) (hl : L19.length ≤ 1048576) : D5 N (lsI L14 L16 L17 L19 L24 b18 b20 x0 x1 x2 x3 x4 x5 x6 x7 x8 x9 x10 x11 x12 x13 x15 x21 x22 x23 x25 x26 x27) = some [.bool (!(Ka C3 (XO x1 x3 x5 x6 x7 x8 x9 x10 x21 x23 x25 x26) || Ka C3 L19))] := by
 show GB (std (Ic N) N) (xOf (lsI ..)) = _
 have e : ∀ ls, Ic N 72 [] ls = DK N ls := fun ls => rfl
 rw [← lT]
 simp only [GB, std, xOf, lsI, PXb, PXc, PXn, AA, XO]
 generalize hM : ([PV.int x1] :: [PV.int x3] :: [PV.int x5] :: [PV.int x6] :: [PV.int x7] :: [PV.int x8] :: [PV.int x9] :: [PV.int x10] :: [PV.int x21] :: [PV.int x23] :: [PV.int x25] :: [PV.int x26] :: L19 : Rows) = M
 have hM2 : M.length ≤ 2097152 := by rw [← hM]; simp only [List.length_cons]; omega
 rw [Iz (n := M.length) (by omega) (by omega)]
 simp only [PXb, PXc, PXn, AA]
 rw [Option.bind_assoc]
 refine AN (CR (len := M.length) (F0 fun i => C3 (atI M i 0)) ?_ ?_ M.length 0 N (by omega) (by omega)) ?_
 ·intro self
  simp only [PXb, PXc, PXn, AA, Ap]
 ·intro i self hi
  simp only [PXb, PXc, PXn, AA, AS (show i ≤ 1099511627776 by omega), Aj hi, AR hi, F0, BE, e, Xz, C3]
  cases btw (atI M i 0) 0 1000000000 <;> rfl
 ·unfold Ka
  rw [← Jy]
  unfold RC
  cases Bw (F0 fun i => C3 (atI M i 0)) M.length 0 <;> rfl
end
def MF (a3 x2 : Int) : Bool := cond (a3 == 0) (x2 == 0) (btw x2 1 a3)
def Kq (s : ByteArray) (a1 a2 a3 a4 a5 a6 a7 a9 a10 a11 a12 : Int) (La L14 L16 L17 L19 L24 : Rows) (x0 x1 x2 x3 x4 x5 x6 x7 x8 x9 x10 x11 x12 x13 x15 x21 x22 x23 x25 x26 x27 : Int) : Bool :=
  De s a1 a2 a3 a4 a5 a6 a7 a9 a10 a11 a12 La == 0 && (btw x0 1 2 && ((L14.length : Int) == a1 && ((L19.length : Int) == a1 && ((L24.length : Int) == a1 && (!iLt 5 x27 &&
    (btw x12 0 a1 && (btw x13 0 a1 && (UK L14 x12 x13 x4 && (btw x15 0 a1 && (btw x22 0 a1 && (FK L16 a1 && (FK L17 a1 && (MF a3 x2 && (btw x11 0 (IntKind.i64.wrap (a4 - 1)) &&
      (!Ka C3 (XO x1 x3 x5 x6 x7 x8 x9 x10 x21 x23 x25 x26) && !Ka C3 L19)))))))))))))))
theorem pS {s : ByteArray} {a1 a2 a3 a4 a5 a6 a7 a9 a10 a11 a12 : Int} {La : Rows} (h : (De s a1 a2 a3 a4 a5 a6 a7 a9 a10 a11 a12 La == 0) = true) : 0 ≤ a3 := by
 unfold De at h
 cases hn : Kv s with
 | false => rw [hn] at h; exact absurd h Bool.false_ne_true
 | true =>
  cases hr : F3 a1 a2 a3 a4 a5 a6 a7 a9 a10 a11 a12 with
  | false => rw [hn, hr] at h; exact absurd h Bool.false_ne_true
  | true =>
   unfold F3 at hr
   simp only [Bool.and_eq_true] at hr
   have := hr.1.1.1.1.1.1.1.1.2
   unfold btw iLe at this
   simp only [Bool.and_eq_true, decide_eq_true_eq] at this
   omega
theorem iS {a : Int} (h : 0 ≤ a) : iLt 0 a = !(a == 0) := by
 unfold iLt
 rw [Bool.eq_iff_iff]
 simp only [decide_eq_true_eq, Bool.not_eq_true', beq_eq_false_iff_ne]
 omega
section
variable (N : Nat) (s : ByteArray) (a1 a2 a3 a4 a5 a6 a7 a9 a10 a11 a12 : Int) (a8 : Bool) (La : Rows) (L14 L16 L17 L19 L24 : Rows) (b18 b20 : Bool) (x0 x1 x2 x3 x4 x5 x6 x7 x8 x9 x10 x11 x12 x13 x15 x21 x22 x23 x25 x26 x27 : Int)
theorem S7 (hN : 2097152 < N) (hs : s.size ≤ 1048576) (h14 : L14.length ≤ 1048576) (h16 : L16.length ≤ 1048576) (h17 : L17.length ≤ 1048576) (h19 : L19.length ≤ 1048576) : BB N ([.str s, .int a1, .int a2, .int a3, .int a4, .int a5, .int a6, .int a7, .bool a8, .int a9, .int a10, .int a11, .int a12, .rows La] ++ lsI L14 L16 L17 L19 L24 b18 b20 x0 x1 x2 x3 x4 x5 x6 x7 x8 x9 x10 x11 x12 x13 x15 x21 x22 x23 x25 x26 x27) = some [.bool (Kq s a1 a2 a3 a4 a5 a6 a7 a9 a10 a11 a12 La L14 L16 L17 L19 L24 x0 x1 x2 x3 x4 x5 x6 x7 x8 x9 x10 x11 x12 x13 x15 x21 x22 x23 x25 x26 x27)] := by
 simp only [lsI, List.cons_append, List.nil_append]
 show Im (std (CM N) N) (xOf _) = _
 have e1 : ∀ ls, CM N 17 [] ls = AP N ls := fun ls => rfl
 have e2 : ∀ ls, CM N 48 [] ls = Ah N ls := fun ls => rfl
 have e3 : ∀ ls, CM N 49 [] ls = D7 N ls := fun ls => rfl
 have e4 : ∀ ls, CM N 50 [] ls = DH N ls := fun ls => rfl
 have e5 : ∀ ls, CM N 51 [] ls = D5 N ls := fun ls => rfl
 have l54 := ah N L14 L16 L17 L19 L24 b18 b20 x0 x1 x2 x3 x4 x5 x6 x7 x8 x9 x10 x11 x12 x13 x15 x21 x22 x23 x25 x26 x27 a1 (by omega) (by omega)
 have l56 := ZB N L14 L16 L17 L19 L24 b18 b20 x0 x1 x2 x3 x4 x5 x6 x7 x8 x9 x10 x11 x12 x13 x15 x21 x22 x23 x25 x26 x27 (by omega) (by omega)
 simp only [lsI, List.cons_append, List.nil_append] at l54 l56
 simp only [Im, std, xOf, PXb, PXc, PXn, AA, e1, e2, e3, e4, e5, WW N s _ _ _ _ _ _ _ _ _ _ _ _ _ hN hs, Di, l54, l56, Np N L16 _ (by omega) (by omega), Np N L17 _ (by omega) (by omega)]
 unfold Kq MF
 cases hc : De s a1 a2 a3 a4 a5 a6 a7 a9 a10 a11 a12 La == 0 <;> try rfl
 cases btw x0 1 2 <;> try rfl
 cases h14 : (L14.length : Int) == a1 <;> try rfl
 cases (L19.length : Int) == a1 <;> try rfl
 cases (L24.length : Int) == a1 <;> try rfl
 cases iLt 5 x27 <;> try rfl
 rw [uK L14 x12 x13 x4 a1 (beq_iff_eq.1 h14)]
 cases btw x12 0 a1 <;> try rfl
 cases btw x13 0 a1 <;> try rfl
 cases UK L14 x12 x13 x4 <;> try rfl
 cases btw x15 0 a1 <;> try rfl
 cases btw x22 0 a1 <;> try rfl
 cases FK L16 a1 <;> try rfl
 cases FK L17 a1 <;> try rfl
 cases a3 == 0 <;> cases x2 == 0 <;> cases btw x2 1 a3 <;> rfl
theorem aq (hN : 2097152 < N) (hs : s.size ≤ 1048576) (h14 : L14.length ≤ 1048576) (h16 : L16.length ≤ 1048576) (h17 : L17.length ≤ 1048576) (h19 : L19.length ≤ 1048576) : CX N ([.str s, .int a1, .int a2, .int a3, .int a4, .int a5, .int a6, .int a7, .bool a8, .int a9, .int a10, .int a11, .int a12, .rows La] ++ lsI L14 L16 L17 L19 L24 b18 b20 x0 x1 x2 x3 x4 x5 x6 x7 x8 x9 x10 x11 x12 x13 x15 x21 x22 x23 x25 x26 x27) = some [.bool (Kq s a1 a2 a3 a4 a5 a6 a7 a9 a10 a11 a12 La L14 L16 L17 L19 L24 x0 x1 x2 x3 x4 x5 x6 x7 x8 x9 x10 x11 x12 x13 x15 x21 x22 x23 x25 x26 x27)] := by
 simp only [lsI, List.cons_append, List.nil_append]
 show Pl (std (FG N) N) (xOf _) = _
 have e1 : ∀ ls, FG N 37 [] ls = Ab N ls := fun ls => rfl
 have e2 : ∀ ls, FG N 105 [] ls = Eo N ls := fun ls => rfl
 have e3 : ∀ ls, FG N 107 [] ls = ID N ls := fun ls => rfl
 have e4 : ∀ ls, FG N 106 [] ls = QH N ls := fun ls => rfl
 have l60 := gy N L14 L16 L17 L19 L24 b18 b20 x0 x1 x2 x3 x4 x5 x6 x7 x8 x9 x10 x11 x12 x13 x15 x21 x22 x23 x25 x26 x27 (by omega) (by omega)
 simp only [lsI, List.cons_append, List.nil_append] at l60
 simp only [Pl, std, xOf, PXb, PXc, PXn, AA, e1, e2, e3, e4, aW N s _ _ _ _ _ _ _ _ _ _ _ _ _ hN hs, bA, l60, gE N L16 _ (by omega) (by omega), gE N L17 _ (by omega) (by omega)]
 unfold Kq MF
 cases hc : De s a1 a2 a3 a4 a5 a6 a7 a9 a10 a11 a12 La == 0 <;> try rfl
 rw [iS (pS hc)]
 cases btw x0 1 2 <;> try rfl
 cases h14 : (L14.length : Int) == a1 <;> try rfl
 cases (L19.length : Int) == a1 <;> try rfl
 cases (L24.length : Int) == a1 <;> try rfl
 cases iLt 5 x27 <;> try rfl
 cases btw x12 0 a1 <;> try rfl
 cases btw x13 0 a1 <;> try rfl
 cases UK L14 x12 x13 x4
 ·simp only [PXb, PXc, PXn, AA]
 cases btw x15 0 a1 <;> try rfl
 cases btw x22 0 a1 <;> try rfl
 cases FK L16 a1 <;> try rfl
 cases FK L17 a1 <;> try rfl
 have ho : (a3 == 0 && !(x2 == 0) || !(a3 == 0) && (a3 == 0 && !(x2 == 0) || !!(a3 == 0) || !btw x2 1 a3) || !btw x11 0 (IntKind.i64.wrap (a4 - 1))) = !(MF a3 x2 && btw x11 0 (IntKind.i64.wrap (a4 - 1))) := by
  unfold MF
  cases a3 == 0 <;> cases x2 == 0 <;> cases btw x2 1 a3 <;> cases btw x11 0 (IntKind.i64.wrap (a4 - 1)) <;> rfl
 rw [ho]
 show _ = some [PV.bool (MF a3 x2 && (btw x11 0 (IntKind.i64.wrap (a4 - 1)) && _))]
 rw [← Bool.and_assoc]
 cases MF a3 x2 && btw x11 0 (IntKind.i64.wrap (a4 - 1)) <;> try rfl
 simp only [PXb, PXc, PXn, AA]
 change (HV (fun s11 c11 => cond (iLt (pvI (AH c11 0)) ((XO x1 x3 x5 x6 x7 x8 x9 x10 x21 x23 x25 x26).length : Int)) (cond (iIn (pvI (AH c11 0)) ((XO x1 x3 x5 x6 x7 x8 x9 x10 x21 x23 x25 x26).length : Int)) (cond (!btw (pvI (AJ (XO x1 x3 x5 x6 x7 x8 x9 x10 x21 x23 x25 x26) (pvI (AH c11 0)).toNat 0)) 0 1000000000) (some [PV.int 0, PV.bool false]) (s11 [Leaf.int (IntKind.i64.wrap (pvI (AH c11 0) + 1))])) none) (some [PV.int 1])) N [PV.int 0]).bind _ = _
 generalize hM : XO x1 x3 x5 x6 x7 x8 x9 x10 x21 x23 x25 x26 = M
 have hM2 : M.length = 12 := by rw [← hM]; rfl
 refine AN (Bd (len := M.length) (fun i => C3 (atI M i 0)) [.bool false] ?_ ?_ N (by omega)) ?_
 ·intro self
  simp only [PXb, PXc, PXn, AA, Ap]
 ·intro i self hi
  simp only [PXb, PXc, PXn, AA, AS (show i ≤ 1099511627776 by omega), Aj hi, AR hi, BE, C3]
 ·show _ = some [PV.bool (!Ak (fun i => C3 (atI M i 0)) M.length 0 && _)]
  cases Ak (fun i => C3 (atI M i 0)) M.length 0 <;> try rfl
  refine AN (Bd (len := L19.length) (fun i => C3 (atI L19 i 0)) [.bool false] ?_ ?_ N (by omega)) ?_
  ·intro self
   simp only [PXb, PXc, PXn, AA, Ap]
  ·intro i self hi
   simp only [PXb, PXc, PXn, AA, AS (show i ≤ 1099511627776 by omega), Aj hi, AR hi, BE, C3]
  ·show _ = some [PV.bool (!Ak (fun i => C3 (atI L19 i 0)) L19.length 0)]
   cases Ak (fun i => C3 (atI L19 i 0)) L19.length 0 <;> rfl
end
end Go.Px
end
section
namespace Go.Px
set_option maxRecDepth 100000
def ma (v : Bool) (L : Rows) (s n : Int) (x1 x2 x3 x10 : Int) : Int :=
 cond (!v) 0 (cond (iLt 0 x1 && iLe x1 x3) 3 (cond (Ed L s n && ((Bj L L.length).length : Int) == 0) 1 (cond (iLt 0 x2 && iLe x2 x10) 2 0)))
theorem o4 {c : Int} {n : Nat} (hc : 0 ≤ c) : iRg 0 (cond (iLt c (n : Int)) c (n : Int)) (n : Int) = true := by
 cases h : iLt c (n : Int) with
 | true => simp only [iLt, decide_eq_true_eq] at h; simp only [cond_true, iRg, decide_eq_true_eq]; omega
 | false => simp only [cond_false, iRg, decide_eq_true_eq]; omega
def cut (L : Rows) (c : Int) : Rows := (L.take (cond (iLt c (L.length : Int)) c (L.length : Int)).toNat).drop (0 : Int).toNat
def sP (s : ByteArray) (c : Int) : ByteArray := s.extract (0 : Int).toNat (cond (iLt c (s.size : Int)) c (s.size : Int)).toNat
theorem sD (s : ByteArray) (c : Int) : (sP s c).size ≤ s.size := by
 unfold sP
 rw [ByteArray.size_extract]
 omega
end Go.Px
end
section
namespace Go.Px
set_option maxRecDepth 100000
section
variable (N : Nat) (s : ByteArray) (a1 a2 a3 a4 a5 a6 a7 a9 a10 a11 a12 : Int) (a8 : Bool) (La : Rows) (L14 L16 L17 L19 L24 : Rows) (b18 b20 : Bool) (x0 x1 x2 x3 x4 x5 x6 x7 x8 x9 x10 x11 x12 x13 x15 x21 x22 x23 x25 x26 x27 : Int)
theorem bX (hN : 2097152 < N) (hs : s.size ≤ 1048576) (h14 : L14.length ≤ 1048576) (h16 : L16.length ≤ 1048576) (h17 : L17.length ≤ 1048576) (h19 : L19.length ≤ 1048576) : DP N ([.str s, .int a1, .int a2, .int a3, .int a4, .int a5, .int a6, .int a7, .bool a8, .int a9, .int a10, .int a11, .int a12, .rows La] ++ lsI L14 L16 L17 L19 L24 b18 b20 x0 x1 x2 x3 x4 x5 x6 x7 x8 x9 x10 x11 x12 x13 x15 x21 x22 x23 x25 x26 x27) =
    some [.int (ma (Kq s a1 a2 a3 a4 a5 a6 a7 a9 a10 a11 a12 La L14 L16 L17 L19 L24 x0 x1 x2 x3 x4 x5 x6 x7 x8 x9 x10 x11 x12 x13 x15 x21 x22 x23 x25 x26 x27) L14 x12 x13 x1 x2 x3 x10)] := by
  simp only [lsI, List.cons_append, List.nil_append]
  show HT (std (DY N) N) (xOf _) = _
  have e1 : ∀ ls, DY N 34 [] ls = BB N ls := fun ls => rfl
  have e2 : ∀ ls, DY N 137 [] ls = BA N ls := fun ls => rfl
  have e3 : ∀ ls, DY N 138 [] ls = Ch N ls := fun ls => rfl
  have l16 := S7 N s a1 a2 a3 a4 a5 a6 a7 a9 a10 a11 a12 a8 La L14 L16 L17 L19 L24 b18 b20 x0 x1 x2 x3 x4 x5 x6 x7 x8 x9 x10 x11 x12 x13 x15 x21 x22 x23 x25 x26 x27 hN hs h14 h16 h17 h19
  have l61 := ec N L14 L16 L17 L19 L24 b18 b20 x0 x1 x2 x3 x4 x5 x6 x7 x8 x9 x10 x11 x12 x13 x15 x21 x22 x23 x25 x26 x27 (by omega) (by omega)
  have l62 := iA N L14 L16 L17 L19 L24 b18 b20 x0 x1 x2 x3 x4 x5 x6 x7 x8 x9 x10 x11 x12 x13 x15 x21 x22 x23 x25 x26 x27 (by omega) (by omega)
  simp only [lsI, List.cons_append, List.nil_append] at l16 l61 l62
  simp only [HT, std, xOf, PXb, PXc, PXn, AA, e1, e2, e3, l16, l61, l62, ma]
  cases Kq s a1 a2 a3 a4 a5 a6 a7 a9 a10 a11 a12 La L14 L16 L17 L19 L24 x0 x1 x2 x3 x4 x5 x6 x7 x8 x9 x10 x11 x12 x13 x15 x21 x22 x23 x25 x26 x27 <;> try rfl
  cases (iLt 0 x1 && iLe x1 x3) <;> try rfl
  cases Ed L14 x12 x13
  · cases (iLt 0 x2 && iLe x2 x10) <;> rfl
  · simp only [PXb, PXc, PXn, AA]
    cases ((Bj L14 L14.length).length : Int) == 0 <;> cases (iLt 0 x2 && iLe x2 x10) <;> rfl
theorem jf (hN : 2097152 < N) (hs : s.size ≤ 1048576) (h14 : L14.length ≤ 1048576) (h16 : L16.length ≤ 1048576) (h17 : L17.length ≤ 1048576) (h19 : L19.length ≤ 1048576) : I6 N ([.str s, .int a1, .int a2, .int a3, .int a4, .int a5, .int a6, .int a7, .bool a8, .int a9, .int a10, .int a11, .int a12, .rows La] ++ lsI L14 L16 L17 L19 L24 b18 b20 x0 x1 x2 x3 x4 x5 x6 x7 x8 x9 x10 x11 x12 x13 x15 x21 x22 x23 x25 x26 x27) =
    some [.int (ma (Kq s a1 a2 a3 a4 a5 a6 a7 a9 a10 a11 a12 La L14 L16 L17 L19 L24 x0 x1 x2 x3 x4 x5 x6 x7 x8 x9 x10 x11 x12 x13 x15 x21 x22 x23 x25 x26 x27) L14 x12 x13 x1 x2 x3 x10)] := by
  simp only [lsI, List.cons_append, List.nil_append]
  show NG (std (Gf N) N) (xOf _) = _
  have e1 : ∀ ls, Gf N 79 [] ls = CX N ls := fun ls => rfl
  have e2 : ∀ ls, Gf N 171 [] ls = B7 N ls := fun ls => rfl
  have e3 : ∀ ls, Gf N 172 [] ls = EF N ls := fun ls => rfl
  have l16 := aq N s a1 a2 a3 a4 a5 a6 a7 a9 a10 a11 a12 a8 La L14 L16 L17 L19 L24 b18 b20 x0 x1 x2 x3 x4 x5 x6 x7 x8 x9 x10 x11 x12 x13 x15 x21 x22 x23 x25 x26 x27 hN hs h14 h16 h17 h19
  have l61 := jg N L14 L16 L17 L19 L24 b18 b20 x0 x1 x2 x3 x4 x5 x6 x7 x8 x9 x10 x11 x12 x13 x15 x21 x22 x23 x25 x26 x27 (by omega) (by omega)
  have l62 := oK N L14 L16 L17 L19 L24 b18 b20 x0 x1 x2 x3 x4 x5 x6 x7 x8 x9 x10 x11 x12 x13 x15 x21 x22 x23 x25 x26 x27 (by omega) (by omega)
  simp only [lsI, List.cons_append, List.nil_append] at l16 l61 l62
  simp only [NG, std, xOf, PXb, PXc, PXn, AA, e1, e2, e3, l16, l61, l62, ma]
  cases Kq s a1 a2 a3 a4 a5 a6 a7 a9 a10 a11 a12 La L14 L16 L17 L19 L24 x0 x1 x2 x3 x4 x5 x6 x7 x8 x9 x10 x11 x12 x13 x15 x21 x22 x23 x25 x26 x27 <;> try rfl
  cases (iLt 0 x1 && iLe x1 x3) <;> try rfl
  cases Ed L14 x12 x13
  · cases (iLt 0 x2 && iLe x2 x10) <;> rfl
  · simp only [PXb, PXc, PXn, AA]
    cases ((Bj L14 L14.length).length : Int) == 0 <;> cases (iLt 0 x2 && iLe x2 x10) <;> rfl
end
end Go.Px
end
section
namespace Go.Px
set_option maxRecDepth 100000
section
variable (N : Nat) (s : ByteArray) (a1 a2 a3 a4 a5 a6 a7 a9 a10 a11 a12 : Int) (a8 : Bool) (La : Rows) (L14 L16 L17 L19 L24 : Rows) (b18 b20 : Bool) (x0 x1 x2 x3 x4 x5 x6 x7 x8 x9 x10 x11 x12 x13 x15 x21 x22 x23 x25 x26 x27 : Int)
def Zn (a4 x10 x11 : Int) : Int := IntKind.i64.wrap (IntKind.i64.wrap (x10 * a4) + x11)
end
end Go.Px
end
section
namespace Go.Px
set_option maxRecDepth 100000
def Aw (r : Rul) : Int := De r.name r.side r.innings r.overs r.balls r.quota r.wide r.noball r.newball r.followon r.reviews r.outside r.power
theorem C8 {N : Nat} {r1 r2 r3 r4 r5 r6 r7 r9 r10 r11 r12 : Int} {r8 : Bool} {r0 : ByteArray} {r13 : Rows} (hN : 2097152 < N) (hs : r0.size ≤ 1048576) : AP N [.str r0, .int r1, .int r2, .int r3, .int r4, .int r5, .int r6, .int r7, .bool r8, .int r9, .int r10, .int r11, .int r12, .rows r13] = some [.int (Aw (⟨r0, r1, r2, r3, r4, r5, r6, r7, r8, r9, r10, r11, r12, r13⟩ : Rul))] := by
 exact WW N _ _ _ _ _ _ _ _ _ _ _ _ _ _ hN hs
theorem EH {N : Nat} {r1 r2 r3 r4 r5 r6 r7 r9 r10 r11 r12 : Int} {r8 : Bool} {r0 : ByteArray} {r13 : Rows} (hN : 2097152 < N) (hs : r0.size ≤ 1048576) : Ab N [.str r0, .int r1, .int r2, .int r3, .int r4, .int r5, .int r6, .int r7, .bool r8, .int r9, .int r10, .int r11, .int r12, .rows r13] = some [.int (Aw (⟨r0, r1, r2, r3, r4, r5, r6, r7, r8, r9, r10, r11, r12, r13⟩ : Rul))] := by
 exact aW N _ _ _ _ _ _ _ _ _ _ _ _ _ _ hN hs
theorem VL {N : Nat} {s0 s1 s2 s3 s4 s5 s6 s7 s8 s9 s10 s11 s12 s13 s15 s21 s22 s23 s25 s26 s27 : Int} {s18 s20 : Bool} {s14 s16 s17 s19 s24 : Rows} (h : Fit s14 s16 s17 s19 s24) : CV N [.int s0, .int s1, .int s2, .int s3, .int s4, .int s5, .int s6, .int s7, .int s8, .int s9, .int s10, .int s11, .int s12, .int s13, .rows s14, .int s15, .rows s16, .rows s17, .bool s18, .rows s19, .bool s20, .int s21, .int s22, .int s23, .rows s24, .int s25, .int s26, .int s27] = some [.int s0, .int s1, .int s2, .int s3, .int s4, .int s5, .int s6, .int s7, .int s8, .int s9, .int s10, .int s11, .int s12, .int s13, .rows s14, .int s15, .rows s16, .rows s17, .bool s18, .rows s19, .bool s20, .int s21, .int s22, .int s23, .rows s24, .int s25, .int s26, .int s27] := by
 show PW (std (H2 N) N) (xOf _) = _
 simp only [PW, Md, Om, OW, std, xOf, PXb, PXc, PXn, PXm, Nat.reduceAdd, Int.reduceBEq, AU, Ae, Aa, BQ h.bt (show 1 ≤ 4096 by omega), BQ h.bw' (show 8 ≤ 4096 by omega), BQ h.bf (show 8 ≤ 4096 by omega), BQ h.bd (show 8 ≤ 4096 by omega), BQ h.sb (show 1 ≤ 4096 by omega)]
theorem Va {N : Nat} {s0 s1 s2 s3 s4 s5 s6 s7 s8 s9 s10 s11 s12 s13 s15 s21 s22 s23 s25 s26 s27 : Int} {s18 s20 : Bool} {s14 s16 s17 s19 s24 : Rows} (h : Fit s14 s16 s17 s19 s24) : CU N [.int s0, .int s1, .int s2, .int s3, .int s4, .int s5, .int s6, .int s7, .int s8, .int s9, .int s10, .int s11, .int s12, .int s13, .rows s14, .int s15, .rows s16, .rows s17, .bool s18, .rows s19, .bool s20, .int s21, .int s22, .int s23, .rows s24, .int s25, .int s26, .int s27] = some [.int s0, .int s1, .int s2, .int s3, .int s4, .int s5, .int s6, .int s7, .int s8, .int s9, .int s10, .int s11, .int s12, .int s13, .rows s14, .int s15, .rows s16, .rows s17, .bool s18, .rows s19, .bool s20, .int s21, .int s22, .int s23, .rows s24, .int s25, .int s26, .int s27] := by
 show Pc (std (H0 N) N) (xOf _) = _
 simp only [Pc, Me, PK, OT, std, xOf, PXb, PXc, PXn, PXm, Nat.reduceAdd, Int.reduceBEq, AU, Ae, Aa, BQ h.bt (show 1 ≤ 4096 by omega), BQ h.bw' (show 8 ≤ 4096 by omega), BQ h.bf (show 8 ≤ 4096 by omega), BQ h.bd (show 8 ≤ 4096 by omega), BQ h.sb (show 1 ≤ 4096 by omega)]
theorem Bx {N : Nat} {s0 s1 s2 s3 s4 s5 s6 s7 s8 s9 s10 s11 s12 s13 s15 s21 s22 s23 s25 s26 s27 : Int} {s18 s20 : Bool} {s14 s16 s17 s19 s24 : Rows} (h : Fit s14 s16 s17 s19 s24) : AO N [.int s0, .int s1, .int s2, .int s3, .int s4, .int s5, .int s6, .int s7, .int s8, .int s9, .int s10, .int s11, .int s12, .int s13, .rows s14, .int s15, .rows s16, .rows s17, .bool s18, .rows s19, .bool s20, .int s21, .int s22, .int s23, .rows s24, .int s25, .int s26, .int s27] = some [.int s0, .int s1, .int s2, .int s3, .int s4, .int s5, .int s6, .int s7, .int s8, .int s9, .int s10, .int s11, .int s12, .int s13, .rows s14, .int s15, .rows s16, .rows s17, .bool s18, .rows s19, .bool s20, .int s21, .int s22, .int s23, .rows s24, .int s25, .int s26, .int s27] := by
 show Ig (std (D2 N) N) (xOf _) = _
 simp only [Ig, Jz, L4, Kl, std, xOf, PXb, PXc, PXn, PXm, Nat.reduceAdd, Int.reduceBEq, AU, Ae, Aa, BQ h.bt (show 1 ≤ 4096 by omega), BQ h.bw' (show 8 ≤ 4096 by omega), BQ h.bf (show 8 ≤ 4096 by omega), BQ h.bd (show 8 ≤ 4096 by omega), BQ h.sb (show 1 ≤ 4096 by omega)]
theorem VM {N : Nat} {s0 s1 s2 s3 s4 s5 s6 s7 s8 s9 s10 s11 s12 s13 s15 s21 s22 s23 s25 s26 s27 : Int} {s18 s20 : Bool} {s14 s16 s17 s19 s24 : Rows} (h : Fit s14 s16 s17 s19 s24) : Cu N [.int s0, .int s1, .int s2, .int s3, .int s4, .int s5, .int s6, .int s7, .int s8, .int s9, .int s10, .int s11, .int s12, .int s13, .rows s14, .int s15, .rows s16, .rows s17, .bool s18, .rows s19, .bool s20, .int s21, .int s22, .int s23, .rows s24, .int s25, .int s26, .int s27] = some [.int s0, .int s1, .int s2, .int s3, .int s4, .int s5, .int s6, .int s7, .int s8, .int s9, .int s10, .int s11, .int s12, .int s13, .rows s14, .int s15, .rows s16, .rows s17, .bool s18, .rows s19, .bool s20, .int s21, .int s22, .int s23, .rows s24, .int s25, .int s26, .int s27] := by
 show P7 (std (Qv N) N) (xOf _) = _
 simp only [P7, Vx, std, xOf, PXb, PXc, PXn, PXm, Nat.reduceAdd, Int.reduceBEq, Bl h]
theorem Qt {N : Nat} {s0 s1 s2 s3 s4 s5 s6 s7 s8 s9 s10 s11 s12 s13 s15 s21 s22 s23 s25 s26 s27 : Int} {s18 s20 : Bool} {s14 s16 s17 s19 s24 : Rows} {p : Int}  : Bi N [.int s0, .int s1, .int s2, .int s3, .int s4, .int s5, .int s6, .int s7, .int s8, .int s9, .int s10, .int s11, .int s12, .int s13, .rows s14, .int s15, .rows s16, .rows s17, .bool s18, .rows s19, .bool s20, .int s21, .int s22, .int s23, .rows s24, .int s25, .int s26, .int s27, .int p] = some [.bool (inR p s19.length)] := by
 show LU (std (UO N) N) (xOf _) = _
 simp only [LU, std, xOf, PXb, PXc, PXn, PXm, Nat.reduceAdd, Int.reduceBEq]
 rfl
theorem TL {N : Nat} {s0 s1 s2 s3 s4 s5 s6 s7 s8 s9 s10 s11 s12 s13 s15 s21 s22 s23 s25 s26 s27 : Int} {s18 s20 : Bool} {s14 s16 s17 s19 s24 : Rows} {p : Int}  : B4 N [.int s0, .int s1, .int s2, .int s3, .int s4, .int s5, .int s6, .int s7, .int s8, .int s9, .int s10, .int s11, .int s12, .int s13, .rows s14, .int s15, .rows s16, .rows s17, .bool s18, .rows s19, .bool s20, .int s21, .int s22, .int s23, .rows s24, .int s25, .int s26, .int s27, .int p] = some [.bool (inR p s19.length)] := by
 show Nf (std (Wf N) N) (xOf _) = _
 simp only [Nf, std, xOf, PXb, PXc, PXn, PXm, Nat.reduceAdd, Int.reduceBEq]
 rfl
theorem H7 {N : Nat} {s0 s1 s2 s3 s4 s5 s6 s7 s8 s9 s10 s11 s12 s13 s15 s21 s22 s23 s25 s26 s27 : Int} {s18 s20 : Bool} {s14 s16 s17 s19 s24 : Rows} {p : Int}  : Ay N [.int s0, .int s1, .int s2, .int s3, .int s4, .int s5, .int s6, .int s7, .int s8, .int s9, .int s10, .int s11, .int s12, .int s13, .rows s14, .int s15, .rows s16, .rows s17, .bool s18, .rows s19, .bool s20, .int s21, .int s22, .int s23, .rows s24, .int s25, .int s26, .int s27, .int p] = some [.bool (inR p s24.length)] := by
 show LW (std (UB N) N) (xOf _) = _
 simp only [LW, std, xOf, PXb, PXc, PXn, PXm, Nat.reduceAdd, Int.reduceBEq]
 rfl
theorem Ml {N : Nat} {s0 s1 s2 s3 s4 s5 s6 s7 s8 s9 s10 s11 s12 s13 s15 s21 s22 s23 s25 s26 s27 : Int} {s18 s20 : Bool} {s14 s16 s17 s19 s24 : Rows} {p : Int}  : BN N [.int s0, .int s1, .int s2, .int s3, .int s4, .int s5, .int s6, .int s7, .int s8, .int s9, .int s10, .int s11, .int s12, .int s13, .rows s14, .int s15, .rows s16, .rows s17, .bool s18, .rows s19, .bool s20, .int s21, .int s22, .int s23, .rows s24, .int s25, .int s26, .int s27, .int p] = some [.bool (inR p s24.length)] := by
 show NW (std (Wo N) N) (xOf _) = _
 simp only [NW, std, xOf, PXb, PXc, PXn, PXm, Nat.reduceAdd, Int.reduceBEq]
 rfl
def atB (L : Rows) (i j : Nat) : Bool := pvB (AJ L i j)
theorem ib (L : Rows) (i j : Nat) : pvB (AJ L i j) = atB L i j := rfl
def Ct (s : Inn) (p : Int) : Bool := inR p s.subs.length && atB s.subs (ix p) 0
theorem HZ {N : Nat} {s0 s1 s2 s3 s4 s5 s6 s7 s8 s9 s10 s11 s12 s13 s15 s21 s22 s23 s25 s26 s27 : Int} {s18 s20 : Bool} {s14 s16 s17 s19 s24 : Rows} {p : Int} (h : s24.length ≤ 1048576) : Ax N [.int s0, .int s1, .int s2, .int s3, .int s4, .int s5, .int s6, .int s7, .int s8, .int s9, .int s10, .int s11, .int s12, .int s13, .rows s14, .int s15, .rows s16, .rows s17, .bool s18, .rows s19, .bool s20, .int s21, .int s22, .int s23, .rows s24, .int s25, .int s26, .int s27, .int p] = some [.bool (Ct (⟨s0, s1, s2, s3, s4, s5, s6, s7, s8, s9, s10, s11, s12, s13, s14, s15, s16, s17, s18, s19, s20, s21, s22, s23, s24, s25, s26, s27⟩ : Inn) p)] := by
 show Hi (std (I8 N) N) (xOf _) = _
 generalize hres : (some [.bool (Ct (⟨s0, s1, s2, s3, s4, s5, s6, s7, s8, s9, s10, s11, s12, s13, s14, s15, s16, s17, s18, s19, s20, s21, s22, s23, s24, s25, s26, s27⟩ : Inn) p)] : Option (List PV)) = RR
 simp only [Hi, PH, std, xOf, PXb, PXc, PXn, PXm, Nat.reduceAdd, Int.reduceBEq, H7, pl h]
 subst hres; simp only [Ct]
 cases hp : inR p s24.length with
 | false => rfl
 | true => first | rfl | (rw [DC hp h]; rfl)
theorem Gb {N : Nat} {s0 s1 s2 s3 s4 s5 s6 s7 s8 s9 s10 s11 s12 s13 s15 s21 s22 s23 s25 s26 s27 : Int} {s18 s20 : Bool} {s14 s16 s17 s19 s24 : Rows} {p : Int} (h : s24.length ≤ 1048576) : Au N [.int s0, .int s1, .int s2, .int s3, .int s4, .int s5, .int s6, .int s7, .int s8, .int s9, .int s10, .int s11, .int s12, .int s13, .rows s14, .int s15, .rows s16, .rows s17, .bool s18, .rows s19, .bool s20, .int s21, .int s22, .int s23, .rows s24, .int s25, .int s26, .int s27, .int p] = some [.bool (Ct (⟨s0, s1, s2, s3, s4, s5, s6, s7, s8, s9, s10, s11, s12, s13, s14, s15, s16, s17, s18, s19, s20, s21, s22, s23, s24, s25, s26, s27⟩ : Inn) p)] := by
 show J4 (std (TY N) N) (xOf _) = _
 generalize hres : (some [.bool (Ct (⟨s0, s1, s2, s3, s4, s5, s6, s7, s8, s9, s10, s11, s12, s13, s14, s15, s16, s17, s18, s19, s20, s21, s22, s23, s24, s25, s26, s27⟩ : Inn) p)] : Option (List PV)) = RR
 simp only [J4, std, xOf, PXb, PXc, PXn, PXm, Nat.reduceAdd, Int.reduceBEq, pl h]
 subst hres; simp only [Ct]
 cases hp : inR p s24.length with
 | false =>
  unfold inR at hp
  have hq : (!iLe 1 p || !iLe p (s24.length : Int) || iIn (IntKind.i64.wrap (p - 1)) (s24.length : Int)) = true := by rw [← Bool.not_and, hp]; rfl
  simp only [hp, hq, PXb, PXc, PXn, PXm, Nat.reduceAdd, Int.reduceBEq]
 | true => have hk := DC hp h; unfold inR at hp; simp only [hp, hk, PXb, PXc, PXn, PXm, Nat.reduceAdd, Int.reduceBEq, atB, ix]
def eA (x : Int) : Int := cond (iLt x 0) 0 x
def NV (r : Rul) (s : Inn) (p : Int) : Int :=
 cond (!inR p s.bowled.length || !(Aw r == 0)) 0 (cond (r.quota == 0) (-1) (eA (IntKind.i64.wrap (IntKind.i64.wrap (r.quota * r.balls) - eA (atI s.bowled (ix p) 0)))))
theorem pR (r : Rul) (s : Inn) (p : Int) : iLe 0 (NV r s p) = !(NV r s p == -1) := by
 unfold NV
 cases (!inR p s.bowled.length || !(Aw r == 0)) with
 | true => rfl
 | false =>
  cases r.quota == 0 with
  | true => rfl
  | false =>
   simp only [cond_false]
   generalize IntKind.i64.wrap (IntKind.i64.wrap (r.quota * r.balls) - eA (atI s.bowled (ix p) 0)) = x
   unfold eA
   cases h : iLt x 0 with
   | true => rfl
   | false =>
    simp only [iLt, decide_eq_false_iff_not] at h
    simp only [cond_false]
    have h1 : iLe 0 x = true := by simp only [iLe, decide_eq_true_eq]; omega
    have h2 : (x == -1) = false := by simp only [beq_eq_false_iff_ne]; omega
    rw [h1, h2]; rfl
theorem lV {N : Nat} {r1 r2 r3 r4 r5 r6 r7 r9 r10 r11 r12 : Int} {r8 : Bool} {r0 : ByteArray} {r13 : Rows} {s0 s1 s2 s3 s4 s5 s6 s7 s8 s9 s10 s11 s12 s13 s15 s21 s22 s23 s25 s26 s27 : Int} {s18 s20 : Bool} {s14 s16 s17 s19 s24 : Rows} {p : Int} (h : Fit s14 s16 s17 s19 s24) (hN : 2097152 < N) (hs : r0.size ≤ 1048576) : JT N [.str r0, .int r1, .int r2, .int r3, .int r4, .int r5, .int r6, .int r7, .bool r8, .int r9, .int r10, .int r11, .int r12, .rows r13, .int s0, .int s1, .int s2, .int s3, .int s4, .int s5, .int s6, .int s7, .int s8, .int s9, .int s10, .int s11, .int s12, .int s13, .rows s14, .int s15, .rows s16, .rows s17, .bool s18, .rows s19, .bool s20, .int s21, .int s22, .int s23, .rows s24, .int s25, .int s26, .int s27, .int p] = some [.int (NV (⟨r0, r1, r2, r3, r4, r5, r6, r7, r8, r9, r10, r11, r12, r13⟩ : Rul) (⟨s0, s1, s2, s3, s4, s5, s6, s7, s8, s9, s10, s11, s12, s13, s14, s15, s16, s17, s18, s19, s20, s21, s22, s23, s24, s25, s26, s27⟩ : Inn) p)] := by
 show Ns (std (KC N) N) (xOf _) = _
 generalize hres : (some [.int (NV (⟨r0, r1, r2, r3, r4, r5, r6, r7, r8, r9, r10, r11, r12, r13⟩ : Rul) (⟨s0, s1, s2, s3, s4, s5, s6, s7, s8, s9, s10, s11, s12, s13, s14, s15, s16, s17, s18, s19, s20, s21, s22, s23, s24, s25, s26, s27⟩ : Inn) p)] : Option (List PV)) = RR
 simp only [Ns, Sl, Sd, std, xOf, PXb, PXc, PXn, PXm, Nat.reduceAdd, Int.reduceBEq, C8 hN hs, Qt]
 subst hres; simp only [NV]
 cases hp : inR p s19.length with
 | false => rfl
 | true => rw [DC hp h.bd]; cases Aw (⟨r0, r1, r2, r3, r4, r5, r6, r7, r8, r9, r10, r11, r12, r13⟩ : Rul) == 0 <;> cases r5 == 0 <;> rfl
theorem qG {N : Nat} {r1 r2 r3 r4 r5 r6 r7 r9 r10 r11 r12 : Int} {r8 : Bool} {r0 : ByteArray} {r13 : Rows} {s0 s1 s2 s3 s4 s5 s6 s7 s8 s9 s10 s11 s12 s13 s15 s21 s22 s23 s25 s26 s27 : Int} {s18 s20 : Bool} {s14 s16 s17 s19 s24 : Rows} {p : Int} (h : Fit s14 s16 s17 s19 s24) (hN : 2097152 < N) (hs : r0.size ≤ 1048576) : Nq N [.str r0, .int r1, .int r2, .int r3, .int r4, .int r5, .int r6, .int r7, .bool r8, .int r9, .int r10, .int r11, .int r12, .rows r13, .int s0, .int s1, .int s2, .int s3, .int s4, .int s5, .int s6, .int s7, .int s8, .int s9, .int s10, .int s11, .int s12, .int s13, .rows s14, .int s15, .rows s16, .rows s17, .bool s18, .rows s19, .bool s20, .int s21, .int s22, .int s23, .rows s24, .int s25, .int s26, .int s27, .int p] = some [.int (NV (⟨r0, r1, r2, r3, r4, r5, r6, r7, r8, r9, r10, r11, r12, r13⟩ : Rul) (⟨s0, s1, s2, s3, s4, s5, s6, s7, s8, s9, s10, s11, s12, s13, s14, s15, s16, s17, s18, s19, s20, s21, s22, s23, s24, s25, s26, s27⟩ : Inn) p)] := by
 show R6 (std (Nk N) N) (xOf _) = _
 generalize hres : (some [.int (NV (⟨r0, r1, r2, r3, r4, r5, r6, r7, r8, r9, r10, r11, r12, r13⟩ : Rul) (⟨s0, s1, s2, s3, s4, s5, s6, s7, s8, s9, s10, s11, s12, s13, s14, s15, s16, s17, s18, s19, s20, s21, s22, s23, s24, s25, s26, s27⟩ : Inn) p)] : Option (List PV)) = RR
 simp only [R6, X1, V9, std, xOf, PXb, PXc, PXn, PXm, Nat.reduceAdd, Int.reduceBEq, EH hN hs, TL]
 subst hres; simp only [NV]
 cases hp : inR p s19.length with
 | false => cases Aw (⟨r0, r1, r2, r3, r4, r5, r6, r7, r8, r9, r10, r11, r12, r13⟩ : Rul) == 0 <;> rfl
 | true => rw [DC hp h.bd]; cases Aw (⟨r0, r1, r2, r3, r4, r5, r6, r7, r8, r9, r10, r11, r12, r13⟩ : Rul) == 0 <;> cases r5 == 0 <;> rfl
theorem jb {N : Nat} {L : Rows} {v : Int} (hN : 2097152 < N) (hl : L.length ≤ 1048576) : HI N [.rows L, .int v] = some [.bool (G7 L L.length v)] := by
 show Uo (std (bu N) N) (xOf _) = _
 simp only [Uo, std, xOf, PXb, PXc, PXn, AA]
 refine AN (Bd (len := L.length) (fun j => v == atI L j 0) [.bool true] ?_ ?_ N (by omega)) ?_
 ·intro self
  simp only [PXb, PXc, PXn, AA, Ap]
 ·intro i self hi
  simp only [PXb, PXc, PXn, AA, AS (show i ≤ 1099511627776 by omega), Aj hi, AR hi, BE]
  rw [BEq.comm (a := v)]
 ·unfold G7
  cases Ak (fun j => v == atI L j 0) L.length 0 <;> rfl
theorem MX {N : Nat} {L : Rows} {v : Int} (hN : 2097152 < N) (hl : L.length ≤ 1048576) : Am N [.rows L, .int v] = some [.bool (G7 L L.length v)] := by
 exact Ki N L v (by omega) (by omega)
def IQ (r : Rul) (s : Inn) (p : Int) : Int :=
  cond (!inR p s.bowled.length || !(Aw r == 0)) 3 (cond (p == s.keeper || p == s.bowler || Ct s p) 7
    (cond (G7 s.before s.before.length p) 8 (cond (!(NV r s p == -1) && iLt s.inover (IntKind.i64.wrap (r.balls - NV r s p))) 9 0)))
theorem qq {p : Int} {n m : Nat} (h : inR p n = true) : inR p m = iLe p (m : Int) := by
 unfold inR at h ⊢
 rw [Bool.and_eq_true] at h
 rw [h.1, Bool.true_and]
theorem oF {N : Nat} {r1 r2 r3 r4 r5 r6 r7 r9 r10 r11 r12 : Int} {r8 : Bool} {r0 : ByteArray} {r13 : Rows} {s0 s1 s2 s3 s4 s5 s6 s7 s8 s9 s10 s11 s12 s13 s15 s21 s22 s23 s25 s26 s27 : Int} {s18 s20 : Bool} {s14 s16 s17 s19 s24 : Rows} {p : Int} (h : Fit s14 s16 s17 s19 s24) (hN : 2097152 < N) (hs : r0.size ≤ 1048576) : K5 N [.str r0, .int r1, .int r2, .int r3, .int r4, .int r5, .int r6, .int r7, .bool r8, .int r9, .int r10, .int r11, .int r12, .rows r13, .int s0, .int s1, .int s2, .int s3, .int s4, .int s5, .int s6, .int s7, .int s8, .int s9, .int s10, .int s11, .int s12, .int s13, .rows s14, .int s15, .rows s16, .rows s17, .bool s18, .rows s19, .bool s20, .int s21, .int s22, .int s23, .rows s24, .int s25, .int s26, .int s27, .int p] = some [.int (IQ (⟨r0, r1, r2, r3, r4, r5, r6, r7, r8, r9, r10, r11, r12, r13⟩ : Rul) (⟨s0, s1, s2, s3, s4, s5, s6, s7, s8, s9, s10, s11, s12, s13, s14, s15, s16, s17, s18, s19, s20, s21, s22, s23, s24, s25, s26, s27⟩ : Inn) p)] := by
 show PP (std (E9 N) N) (xOf _) = _
 generalize hres : (some [.int (IQ (⟨r0, r1, r2, r3, r4, r5, r6, r7, r8, r9, r10, r11, r12, r13⟩ : Rul) (⟨s0, s1, s2, s3, s4, s5, s6, s7, s8, s9, s10, s11, s12, s13, s14, s15, s16, s17, s18, s19, s20, s21, s22, s23, s24, s25, s26, s27⟩ : Inn) p)] : Option (List PV)) = RR
 simp only [PP, Tt, Ma, Tq, VW, std, xOf, PXb, PXc, PXn, PXm, Nat.reduceAdd, Int.reduceBEq, C8 hN hs, Qt, lV h hN hs, MX hN h.bf]
 subst hres; simp only [IQ, Ct]
 cases hp : inR p s19.length with
 | false => rfl
 | true =>
  rw [qq (m := s24.length) hp]
  have hq : (!(iLe p (s24.length : Int)) || iIn (IntKind.i64.wrap (p - 1)) (s24.length : Int)) = true := by
   cases h1 : iLe p (s24.length : Int) with
   | false => rfl
   | true => rw [DC (by rw [qq hp]; exact h1) h.sb]; rfl
  rw [hq]
  cases Aw (⟨r0, r1, r2, r3, r4, r5, r6, r7, r8, r9, r10, r11, r12, r13⟩ : Rul) == 0 <;> rfl
theorem q9 {N : Nat} {r1 r2 r3 r4 r5 r6 r7 r9 r10 r11 r12 : Int} {r8 : Bool} {r0 : ByteArray} {r13 : Rows} {s0 s1 s2 s3 s4 s5 s6 s7 s8 s9 s10 s11 s12 s13 s15 s21 s22 s23 s25 s26 s27 : Int} {s18 s20 : Bool} {s14 s16 s17 s19 s24 : Rows} {p : Int} (h : Fit s14 s16 s17 s19 s24) (hN : 2097152 < N) (hs : r0.size ≤ 1048576) : QQ N [.str r0, .int r1, .int r2, .int r3, .int r4, .int r5, .int r6, .int r7, .bool r8, .int r9, .int r10, .int r11, .int r12, .rows r13, .int s0, .int s1, .int s2, .int s3, .int s4, .int s5, .int s6, .int s7, .int s8, .int s9, .int s10, .int s11, .int s12, .int s13, .rows s14, .int s15, .rows s16, .rows s17, .bool s18, .rows s19, .bool s20, .int s21, .int s22, .int s23, .rows s24, .int s25, .int s26, .int s27, .int p] = some [.int (IQ (⟨r0, r1, r2, r3, r4, r5, r6, r7, r8, r9, r10, r11, r12, r13⟩ : Rul) (⟨s0, s1, s2, s3, s4, s5, s6, s7, s8, s9, s10, s11, s12, s13, s14, s15, s16, s17, s18, s19, s20, s21, s22, s23, s24, s25, s26, s27⟩ : Inn) p)] := by
 show UN (std (F1 N) N) (xOf _) = _
 generalize hres : (some [.int (IQ (⟨r0, r1, r2, r3, r4, r5, r6, r7, r8, r9, r10, r11, r12, r13⟩ : Rul) (⟨s0, s1, s2, s3, s4, s5, s6, s7, s8, s9, s10, s11, s12, s13, s14, s15, s16, s17, s18, s19, s20, s21, s22, s23, s24, s25, s26, s27⟩ : Inn) p)] : Option (List PV)) = RR
 simp only [UN, Y6, VZ, XP, Zc, bl, std, xOf, PXb, PXc, PXn, PXm, Nat.reduceAdd, Int.reduceBEq, EH hN hs, TL, qG h hN hs, jb hN h.bf, Gb h.sb, pR]
 subst hres; simp only [IQ]
 cases hp : inR p s19.length <;> cases Aw (⟨r0, r1, r2, r3, r4, r5, r6, r7, r8, r9, r10, r11, r12, r13⟩ : Rul) == 0 <;> cases p == s22 <;> cases p == s15 <;> rfl
def R0 (r : Rul) (s : Inn) (p : Int) : Inn × Int := (cond (IQ r s p == 0) { s with bowler := p } s, IQ r s p)
theorem mc {N : Nat} {r1 r2 r3 r4 r5 r6 r7 r9 r10 r11 r12 : Int} {r8 : Bool} {r0 : ByteArray} {r13 : Rows} {s0 s1 s2 s3 s4 s5 s6 s7 s8 s9 s10 s11 s12 s13 s15 s21 s22 s23 s25 s26 s27 : Int} {s18 s20 : Bool} {s14 s16 s17 s19 s24 : Rows} {p : Int} (h : Fit s14 s16 s17 s19 s24) (hN : 2097152 < N) (hs : r0.size ≤ 1048576) : JQ N [.str r0, .int r1, .int r2, .int r3, .int r4, .int r5, .int r6, .int r7, .bool r8, .int r9, .int r10, .int r11, .int r12, .rows r13, .int s0, .int s1, .int s2, .int s3, .int s4, .int s5, .int s6, .int s7, .int s8, .int s9, .int s10, .int s11, .int s12, .int s13, .rows s14, .int s15, .rows s16, .rows s17, .bool s18, .rows s19, .bool s20, .int s21, .int s22, .int s23, .rows s24, .int s25, .int s26, .int s27, .int p] = some (AW (R0 (⟨r0, r1, r2, r3, r4, r5, r6, r7, r8, r9, r10, r11, r12, r13⟩ : Rul) (⟨s0, s1, s2, s3, s4, s5, s6, s7, s8, s9, s10, s11, s12, s13, s14, s15, s16, s17, s18, s19, s20, s21, s22, s23, s24, s25, s26, s27⟩ : Inn) p)) := by
 show M8 (std (KB N) N) (xOf _) = _
 generalize hres : (some (AW (R0 (⟨r0, r1, r2, r3, r4, r5, r6, r7, r8, r9, r10, r11, r12, r13⟩ : Rul) (⟨s0, s1, s2, s3, s4, s5, s6, s7, s8, s9, s10, s11, s12, s13, s14, s15, s16, s17, s18, s19, s20, s21, s22, s23, s24, s25, s26, s27⟩ : Inn) p)) : Option (List PV)) = RR
 simp only [M8, VR, Vc, std, xOf, PXb, PXc, PXn, PXm, Nat.reduceAdd, Int.reduceBEq, VL h, oF h hN hs]
 subst hres; simp only [R0]
 cases IQ (⟨r0, r1, r2, r3, r4, r5, r6, r7, r8, r9, r10, r11, r12, r13⟩ : Rul) (⟨s0, s1, s2, s3, s4, s5, s6, s7, s8, s9, s10, s11, s12, s13, s14, s15, s16, s17, s18, s19, s20, s21, s22, s23, s24, s25, s26, s27⟩ : Inn) p == 0 <;> rfl
theorem qE {N : Nat} {r1 r2 r3 r4 r5 r6 r7 r9 r10 r11 r12 : Int} {r8 : Bool} {r0 : ByteArray} {r13 : Rows} {s0 s1 s2 s3 s4 s5 s6 s7 s8 s9 s10 s11 s12 s13 s15 s21 s22 s23 s25 s26 s27 : Int} {s18 s20 : Bool} {s14 s16 s17 s19 s24 : Rows} {p : Int} (h : Fit s14 s16 s17 s19 s24) (hN : 2097152 < N) (hs : r0.size ≤ 1048576) : Rk N [.str r0, .int r1, .int r2, .int r3, .int r4, .int r5, .int r6, .int r7, .bool r8, .int r9, .int r10, .int r11, .int r12, .rows r13, .int s0, .int s1, .int s2, .int s3, .int s4, .int s5, .int s6, .int s7, .int s8, .int s9, .int s10, .int s11, .int s12, .int s13, .rows s14, .int s15, .rows s16, .rows s17, .bool s18, .rows s19, .bool s20, .int s21, .int s22, .int s23, .rows s24, .int s25, .int s26, .int s27, .int p] = some (AW (R0 (⟨r0, r1, r2, r3, r4, r5, r6, r7, r8, r9, r10, r11, r12, r13⟩ : Rul) (⟨s0, s1, s2, s3, s4, s5, s6, s7, s8, s9, s10, s11, s12, s13, s14, s15, s16, s17, s18, s19, s20, s21, s22, s23, s24, s25, s26, s27⟩ : Inn) p)) := by
 show SK (std (OI N) N) (xOf _) = _
 generalize hres : (some (AW (R0 (⟨r0, r1, r2, r3, r4, r5, r6, r7, r8, r9, r10, r11, r12, r13⟩ : Rul) (⟨s0, s1, s2, s3, s4, s5, s6, s7, s8, s9, s10, s11, s12, s13, s14, s15, s16, s17, s18, s19, s20, s21, s22, s23, s24, s25, s26, s27⟩ : Inn) p)) : Option (List PV)) = RR
 simp only [SK, XN, aN, std, xOf, PXb, PXc, PXn, PXm, Nat.reduceAdd, Int.reduceBEq, Bl h, q9 h hN hs]
 subst hres; simp only [R0]
 cases IQ (⟨r0, r1, r2, r3, r4, r5, r6, r7, r8, r9, r10, r11, r12, r13⟩ : Rul) (⟨s0, s1, s2, s3, s4, s5, s6, s7, s8, s9, s10, s11, s12, s13, s14, s15, s16, s17, s18, s19, s20, s21, s22, s23, s24, s25, s26, s27⟩ : Inn) p == 0 <;> rfl
def iw (x : Inn × Bool) : List PV := [.int x.1.side, .int x.1.target, .int x.1.overs, .int x.1.runs, .int x.1.wickets, .int x.1.wides, .int x.1.noballs, .int x.1.byes, .int x.1.legbyes, .int x.1.pens, .int x.1.complete, .int x.1.inover, .int x.1.striker, .int x.1.other, .rows x.1.batters, .int x.1.bowler, .rows x.1.bowlers, .rows x.1.before, .bool x.1.fresh, .rows x.1.bowled, .bool x.1.freehit, .int x.1.ballage, .int x.1.keeper, .int x.1.outside, .rows x.1.subs, .int x.1.rev1, .int x.1.rev2, .int x.1.ending, .bool x.2]
def inc (x : Int) : Int := IntKind.i64.wrap (x + 1)
def DG (r : Rul) (s : Inn) (counts : Bool) : Inn × Bool :=
  cond (!inR s.bowler s.bowled.length || !(Aw r == 0)) (s, false)
    (let L := cond (G7 s.bowlers s.bowlers.length s.bowler) s.bowlers (s.bowlers ++ [[.int s.bowler]])
     let o := cond counts (inc s.inover) s.inover
     let t : Inn := { s with bowlers := L, bowled := cond counts (I5 s.bowled s.bowler (inc (atI s.bowled (ix s.bowler) 0))) s.bowled, inover := o, ballage := cond counts (inc s.ballage) s.ballage }
     cond (iLt o r.balls) (t, false) ({ t with complete := inc s.complete, inover := 0, before := L, bowlers := [], bowler := 0 }, true))
theorem mK {N : Nat} {r1 r2 r3 r4 r5 r6 r7 r9 r10 r11 r12 : Int} {r8 : Bool} {r0 : ByteArray} {r13 : Rows} {s0 s1 s2 s3 s4 s5 s6 s7 s8 s9 s10 s11 s12 s13 s15 s21 s22 s23 s25 s26 s27 : Int} {s18 s20 : Bool} {s14 s16 s17 s19 s24 : Rows} {b : Bool} (h : Fit s14 s16 s17 s19 s24) (hw : s16.length ≤ 1048575) (hN : 2097152 < N) (hs : r0.size ≤ 1048576) : JO N [.str r0, .int r1, .int r2, .int r3, .int r4, .int r5, .int r6, .int r7, .bool r8, .int r9, .int r10, .int r11, .int r12, .rows r13, .int s0, .int s1, .int s2, .int s3, .int s4, .int s5, .int s6, .int s7, .int s8, .int s9, .int s10, .int s11, .int s12, .int s13, .rows s14, .int s15, .rows s16, .rows s17, .bool s18, .rows s19, .bool s20, .int s21, .int s22, .int s23, .rows s24, .int s25, .int s26, .int s27, .bool b] = some (iw (DG (⟨r0, r1, r2, r3, r4, r5, r6, r7, r8, r9, r10, r11, r12, r13⟩ : Rul) (⟨s0, s1, s2, s3, s4, s5, s6, s7, s8, s9, s10, s11, s12, s13, s14, s15, s16, s17, s18, s19, s20, s21, s22, s23, s24, s25, s26, s27⟩ : Inn) b)) := by
 show Nr (std (ER N) N) (xOf _) = _
 generalize hres : (some (iw (DG (⟨r0, r1, r2, r3, r4, r5, r6, r7, r8, r9, r10, r11, r12, r13⟩ : Rul) (⟨s0, s1, s2, s3, s4, s5, s6, s7, s8, s9, s10, s11, s12, s13, s14, s15, s16, s17, s18, s19, s20, s21, s22, s23, s24, s25, s26, s27⟩ : Inn) b)) : Option (List PV)) = RR
 have ha : (s16 ++ [[PV.int s15]]).length ≤ 1048576 := by simp; omega
 simp only [Nr, TD, Ls, Vj, Tf, std, xOf, PXb, PXc, PXn, PXm, Nat.reduceAdd, Int.reduceBEq, VL h, Qt, C8 hN hs, MX hN h.bw', Jj ha (show 8 ≤ 4096 by omega)]
 subst hres; simp only [DG]
 cases hp : inR s15 s19.length with
 | false => rfl
 | true =>
  rw [DC hp h.bd]
  cases Aw (⟨r0, r1, r2, r3, r4, r5, r6, r7, r8, r9, r10, r11, r12, r13⟩ : Rul) == 0 <;> try rfl
  cases G7 s16 s16.length s15 <;> cases b <;> simp only [PXb, PXc, PXn, PXm, Nat.reduceAdd, Int.reduceBEq, inc]
  all_goals first | (cases iLt s11 r4 <;> rfl) | (cases iLt (IntKind.i64.wrap (s11 + 1)) r4 <;> rfl)
theorem pe {N : Nat} {r1 r2 r3 r4 r5 r6 r7 r9 r10 r11 r12 : Int} {r8 : Bool} {r0 : ByteArray} {r13 : Rows} {s0 s1 s2 s3 s4 s5 s6 s7 s8 s9 s10 s11 s12 s13 s15 s21 s22 s23 s25 s26 s27 : Int} {s18 s20 : Bool} {s14 s16 s17 s19 s24 : Rows} {b : Bool} (h : Fit s14 s16 s17 s19 s24) (hw : s16.length ≤ 1048575) (hN : 2097152 < N) (hs : r0.size ≤ 1048576) : SM N [.str r0, .int r1, .int r2, .int r3, .int r4, .int r5, .int r6, .int r7, .bool r8, .int r9, .int r10, .int r11, .int r12, .rows r13, .int s0, .int s1, .int s2, .int s3, .int s4, .int s5, .int s6, .int s7, .int s8, .int s9, .int s10, .int s11, .int s12, .int s13, .rows s14, .int s15, .rows s16, .rows s17, .bool s18, .rows s19, .bool s20, .int s21, .int s22, .int s23, .rows s24, .int s25, .int s26, .int s27, .bool b] = some (iw (DG (⟨r0, r1, r2, r3, r4, r5, r6, r7, r8, r9, r10, r11, r12, r13⟩ : Rul) (⟨s0, s1, s2, s3, s4, s5, s6, s7, s8, s9, s10, s11, s12, s13, s14, s15, s16, s17, s18, s19, s20, s21, s22, s23, s24, s25, s26, s27⟩ : Inn) b)) := by
 show SQ (std (Gz N) N) (xOf _) = _
 generalize hres : (some (iw (DG (⟨r0, r1, r2, r3, r4, r5, r6, r7, r8, r9, r10, r11, r12, r13⟩ : Rul) (⟨s0, s1, s2, s3, s4, s5, s6, s7, s8, s9, s10, s11, s12, s13, s14, s15, s16, s17, s18, s19, s20, s21, s22, s23, s24, s25, s26, s27⟩ : Inn) b)) : Option (List PV)) = RR
 have ha : (s16 ++ [[PV.int s15]]).length ≤ 1048576 := by simp; omega
 simp only [SQ, W1, Xm, Wk, aP, std, xOf, PXb, PXc, PXn, PXm, Nat.reduceAdd, Int.reduceBEq, Bl h, TL, EH hN hs, jb hN h.bw', Jj ha (show 8 ≤ 4096 by omega)]
 subst hres; simp only [DG]
 cases hp : inR s15 s19.length with
 | false => cases Aw (⟨r0, r1, r2, r3, r4, r5, r6, r7, r8, r9, r10, r11, r12, r13⟩ : Rul) == 0 <;> rfl
 | true =>
  rw [DC hp h.bd]
  cases Aw (⟨r0, r1, r2, r3, r4, r5, r6, r7, r8, r9, r10, r11, r12, r13⟩ : Rul) == 0 <;> try rfl
  cases G7 s16 s16.length s15 <;> cases b <;> simp only [PXb, PXc, PXn, PXm, Nat.reduceAdd, Int.reduceBEq, inc]
  all_goals first | (cases iLt s11 r4 <;> rfl) | (cases iLt (IntKind.i64.wrap (s11 + 1)) r4 <;> rfl)
def HY (r : Rul) (s : Inn) : Inn × Int :=
 cond (!(Aw r == 0) || r.newball == 0 || iLt s.ballage (IntKind.i64.wrap (r.newball * r.balls))) (s, 22) ({ s with ballage := 0 }, 0)
theorem fx {N : Nat} {r1 r2 r3 r4 r5 r6 r7 r9 r10 r11 r12 : Int} {r8 : Bool} {r0 : ByteArray} {r13 : Rows} {s0 s1 s2 s3 s4 s5 s6 s7 s8 s9 s10 s11 s12 s13 s15 s21 s22 s23 s25 s26 s27 : Int} {s18 s20 : Bool} {s14 s16 s17 s19 s24 : Rows} (h : Fit s14 s16 s17 s19 s24) (hN : 2097152 < N) (hs : r0.size ≤ 1048576) : FN N [.str r0, .int r1, .int r2, .int r3, .int r4, .int r5, .int r6, .int r7, .bool r8, .int r9, .int r10, .int r11, .int r12, .rows r13, .int s0, .int s1, .int s2, .int s3, .int s4, .int s5, .int s6, .int s7, .int s8, .int s9, .int s10, .int s11, .int s12, .int s13, .rows s14, .int s15, .rows s16, .rows s17, .bool s18, .rows s19, .bool s20, .int s21, .int s22, .int s23, .rows s24, .int s25, .int s26, .int s27] = some (AW (HY (⟨r0, r1, r2, r3, r4, r5, r6, r7, r8, r9, r10, r11, r12, r13⟩ : Rul) (⟨s0, s1, s2, s3, s4, s5, s6, s7, s8, s9, s10, s11, s12, s13, s14, s15, s16, s17, s18, s19, s20, s21, s22, s23, s24, s25, s26, s27⟩ : Inn))) := by
 show Il (std (GN N) N) (xOf _) = _
 generalize hres : (some (AW (HY (⟨r0, r1, r2, r3, r4, r5, r6, r7, r8, r9, r10, r11, r12, r13⟩ : Rul) (⟨s0, s1, s2, s3, s4, s5, s6, s7, s8, s9, s10, s11, s12, s13, s14, s15, s16, s17, s18, s19, s20, s21, s22, s23, s24, s25, s26, s27⟩ : Inn))) : Option (List PV)) = RR
 simp only [Il, QW, SJ, std, xOf, PXb, PXc, PXn, PXm, Nat.reduceAdd, Int.reduceBEq, VL h, C8 hN hs]
 subst hres; simp only [HY]
 cases (!(Aw (⟨r0, r1, r2, r3, r4, r5, r6, r7, r8, r9, r10, r11, r12, r13⟩ : Rul) == 0) || r9 == 0 || iLt s21 (IntKind.i64.wrap (r9 * r4))) <;> rfl
theorem kD {N : Nat} {r1 r2 r3 r4 r5 r6 r7 r9 r10 r11 r12 : Int} {r8 : Bool} {r0 : ByteArray} {r13 : Rows} {s0 s1 s2 s3 s4 s5 s6 s7 s8 s9 s10 s11 s12 s13 s15 s21 s22 s23 s25 s26 s27 : Int} {s18 s20 : Bool} {s14 s16 s17 s19 s24 : Rows} (h : Fit s14 s16 s17 s19 s24) (hN : 2097152 < N) (hs : r0.size ≤ 1048576) : Lp N [.str r0, .int r1, .int r2, .int r3, .int r4, .int r5, .int r6, .int r7, .bool r8, .int r9, .int r10, .int r11, .int r12, .rows r13, .int s0, .int s1, .int s2, .int s3, .int s4, .int s5, .int s6, .int s7, .int s8, .int s9, .int s10, .int s11, .int s12, .int s13, .rows s14, .int s15, .rows s16, .rows s17, .bool s18, .rows s19, .bool s20, .int s21, .int s22, .int s23, .rows s24, .int s25, .int s26, .int s27] = some (AW (HY (⟨r0, r1, r2, r3, r4, r5, r6, r7, r8, r9, r10, r11, r12, r13⟩ : Rul) (⟨s0, s1, s2, s3, s4, s5, s6, s7, s8, s9, s10, s11, s12, s13, s14, s15, s16, s17, s18, s19, s20, s21, s22, s23, s24, s25, s26, s27⟩ : Inn))) := by
 show LE (std (I0 N) N) (xOf _) = _
 generalize hres : (some (AW (HY (⟨r0, r1, r2, r3, r4, r5, r6, r7, r8, r9, r10, r11, r12, r13⟩ : Rul) (⟨s0, s1, s2, s3, s4, s5, s6, s7, s8, s9, s10, s11, s12, s13, s14, s15, s16, s17, s18, s19, s20, s21, s22, s23, s24, s25, s26, s27⟩ : Inn))) : Option (List PV)) = RR
 simp only [LE, T0, Tu, std, xOf, PXb, PXc, PXn, PXm, Nat.reduceAdd, Int.reduceBEq, Bl h, EH hN hs]
 subst hres; simp only [HY]
 cases (!(Aw (⟨r0, r1, r2, r3, r4, r5, r6, r7, r8, r9, r10, r11, r12, r13⟩ : Rul) == 0) || r9 == 0 || iLt s21 (IntKind.i64.wrap (r9 * r4))) <;> rfl
end Go.Px
end
