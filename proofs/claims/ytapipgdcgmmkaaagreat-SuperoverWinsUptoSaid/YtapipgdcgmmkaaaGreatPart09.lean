/- Part 9. -/
import Derived.Test.YtapipgdcgmmkaaaGreatPart07
import Derived.Test.YtapipgdcgmmkaaaGreatPart08
set_option linter.unusedVariables false
set_option linter.unusedSimpArgs false
section
namespace Go.Px
set_option maxRecDepth 100000
theorem FX {N : Nat} {s0 s1 s2 s3 s4 s5 s6 s7 s8 s9 s10 s11 s12 s13 s15 s21 s22 s23 s25 s26 s27 : Int} {s18 s20 : Bool} {s14 s16 s17 s19 s24 : Rows} (h : Fit s14 s16 s17 s19 s24) : Ae N [.int s0, .int s1, .int s2, .int s3, .int s4, .int s5, .int s6, .int s7, .int s8, .int s9, .int s10, .int s11, .int s12, .int s13, .rows s14, .int s15, .rows s16, .rows s17, .bool s18, .rows s19, .bool s20, .int s21, .int s22, .int s23, .rows s24, .int s25, .int s26, .int s27] = some [.int s0, .int s1, .int s2, .int s3, .int s4, .int s5, .int s6, .int s7, .int s8, .int s9, .int s10, .int s11, .int s12, .int s13, .rows s14, .int s15, .rows s16, .rows s17, .bool s18, .rows s19, .bool s20, .int s21, .int s22, .int s23, .rows s24, .int s25, .int s26, .int s27] := by
 show J1 (std (Fc N) N) (xOf _) = _
 simp only [J1, JB, KQ, Jl, std, xOf, PXb, PXc, PXn, PXm, Nat.reduceAdd, Int.reduceBEq, AM, AU, AQ, A8 h.bt (show 1 ≤ 4096 by omega), A8 h.bw' (show 8 ≤ 4096 by omega), A8 h.bf (show 8 ≤ 4096 by omega), A8 h.bd (show 8 ≤ 4096 by omega), A8 h.sb (show 1 ≤ 4096 by omega)]
theorem Fe {N : Nat} {s0 s1 s2 s3 s4 s5 s6 s7 s8 s9 s10 s11 s12 s13 s15 s21 s22 s23 s25 s26 s27 : Int} {s18 s20 : Bool} {s14 s16 s17 s19 s24 : Rows} {p : Int}  : Ah N [.int s0, .int s1, .int s2, .int s3, .int s4, .int s5, .int s6, .int s7, .int s8, .int s9, .int s10, .int s11, .int s12, .int s13, .rows s14, .int s15, .rows s16, .rows s17, .bool s18, .rows s19, .bool s20, .int s21, .int s22, .int s23, .rows s24, .int s25, .int s26, .int s27, .int p] = some [.bool (inR p s14.length)] := by
 show Hd (std (Nc N) N) (xOf _) = _
 simp only [Hd, std, xOf, PXb, PXc, PXn, PXm, Nat.reduceAdd, Int.reduceBEq]
 rfl
def Dv (s : Inn) (d : Del) : Inn :=
  let odd := !(d.runs.tmod 2 == 0) != d.crossed
  let t : Inn := cond odd { s with striker := s.other, other := s.striker } s
  let k : Bool := d.how == 0
  cond (!k && (d.victim == 1 && !(s.striker == 0)))
    { t with striker := cond odd t.striker 0, other := cond odd 0 t.other, batters := cond (inR s.striker s.batters.length) (LA s.batters s.striker 2) s.batters, wickets := IntKind.i64.wrap (s.wickets + 1) }
    (cond (!k && (d.victim == 2 && !(s.other == 0)))
      { t with striker := cond odd 0 t.striker, other := cond odd t.other 0, batters := cond (inR s.other s.batters.length) (LA s.batters s.other 2) s.batters, wickets := IntKind.i64.wrap (s.wickets + 1) }
      t)
theorem YJ {N : Nat} {s0 s1 s2 s3 s4 s5 s6 s7 s8 s9 s10 s11 s12 s13 s15 s21 s22 s23 s25 s26 s27 : Int} {s18 s20 : Bool} {s14 s16 s17 s19 s24 : Rows} {d0 d1 d2 d3 d4 d6 d7 d8 d9 d11 : Int} {d5 d10 : Bool} (h : Fit s14 s16 s17 s19 s24) : HF N [.int s0, .int s1, .int s2, .int s3, .int s4, .int s5, .int s6, .int s7, .int s8, .int s9, .int s10, .int s11, .int s12, .int s13, .rows s14, .int s15, .rows s16, .rows s17, .bool s18, .rows s19, .bool s20, .int s21, .int s22, .int s23, .rows s24, .int s25, .int s26, .int s27, .int d0, .int d1, .int d2, .int d3, .int d4, .bool d5, .int d6, .int d7, .int d8, .int d9, .bool d10, .int d11] = some (Dv (⟨s0, s1, s2, s3, s4, s5, s6, s7, s8, s9, s10, s11, s12, s13, s14, s15, s16, s17, s18, s19, s20, s21, s22, s23, s24, s25, s26, s27⟩ : Inn) (⟨d0, d1, d2, d3, d4, d5, d6, d7, d8, d9, d10, d11⟩ : Del)).ls := by
 show Ji (std (Hs N) N) (xOf _) = _
 simp only [Ji, N1, Mf, std, xOf, PXb, PXc, PXn, PXm, Nat.reduceAdd, Int.reduceBEq, FX h, Fe, dL h.bt]
 unfold Dv
 cases d5 <;> cases d2.tmod 2 == 0 <;> cases d6 == 0 <;> cases d7 == 1 <;> cases d7 == 2 <;> cases s12 == 0 <;> cases s13 == 0 <;> rfl
def Yt (s : Inn) : Inn := { s with striker := s.other, other := s.striker }
theorem UJ {N : Nat} {s0 s1 s2 s3 s4 s5 s6 s7 s8 s9 s10 s11 s12 s13 s15 s21 s22 s23 s25 s26 s27 : Int} {s18 s20 : Bool} {s14 s16 s17 s19 s24 : Rows} (h : Fit s14 s16 s17 s19 s24) : Em N [.int s0, .int s1, .int s2, .int s3, .int s4, .int s5, .int s6, .int s7, .int s8, .int s9, .int s10, .int s11, .int s12, .int s13, .rows s14, .int s15, .rows s16, .rows s17, .bool s18, .rows s19, .bool s20, .int s21, .int s22, .int s23, .rows s24, .int s25, .int s26, .int s27] = some (Yt (⟨s0, s1, s2, s3, s4, s5, s6, s7, s8, s9, s10, s11, s12, s13, s14, s15, s16, s17, s18, s19, s20, s21, s22, s23, s24, s25, s26, s27⟩ : Inn)).ls := by
 show G2 (std (H5 N) N) (xOf _) = _
 simp only [G2, Ly, std, xOf, PXb, PXc, PXn, PXm, Nat.reduceAdd, Int.reduceBEq, FX h]
 rfl
theorem Tm {N : Nat} {v : Int}  : B7 N [.int v] = some [.bool (!(v == 0))] := by
 show Iy (std (Lw N) N) (xOf _) = _
 rfl
theorem Ss {N : Nat} {v : Int}  : DR N [.int v] = some [.bool (!(v == 0))] := by
 show H0 (std (KV N) N) (xOf _) = _
 rfl
theorem Pg {N : Nat} {s0 s1 s2 s3 s4 s5 s6 s7 s8 s9 s10 s11 s12 s13 s15 s21 s22 s23 s25 s26 s27 : Int} {s18 s20 : Bool} {s14 s16 s17 s19 s24 : Rows} (h : s14.length ≤ 1048576) (hN : 2097152 < N) : BS N [.int s0, .int s1, .int s2, .int s3, .int s4, .int s5, .int s6, .int s7, .int s8, .int s9, .int s10, .int s11, .int s12, .int s13, .rows s14, .int s15, .rows s16, .rows s17, .bool s18, .rows s19, .bool s20, .int s21, .int s22, .int s23, .rows s24, .int s25, .int s26, .int s27] = some [.bool (Dy s14)] := by
 show Dc (std (Dr N) N) (xOf _) = _
 simp only [Dc, E6, std, xOf, PXb, PXc, PXn, AJ]
 rw [show Dy s14 = iLe 0 (L5 (fun i => !(atI s14 i 0 == 0)) s14.length) from (Ho _ _).symm]
 rw [Option.bind_assoc]
 refine Af (CQ (len := s14.length) (E0 fun i => !(atI s14 i 0 == 0)) ?_ ?_ s14.length 0 N (by omega) (by omega)) ?_
 ·intro self
  simp only [PXb, PXc, PXn, AJ, B0]
 ·intro i self hi
  simp only [PXb, PXc, PXn, AJ, Al (show i ≤ 1099511627776 by omega), BH hi, Am hi, E0, Ce, E6, Tm]
  cases atI s14 i 0 == 0 <;> rfl
 ·unfold L5
  cases BP (E0 fun i => !(atI s14 i 0 == 0)) s14.length 0 <;> rfl
theorem UL {N : Nat} {s0 s1 s2 s3 s4 s5 s6 s7 s8 s9 s10 s11 s12 s13 s15 s21 s22 s23 s25 s26 s27 : Int} {s18 s20 : Bool} {s14 s16 s17 s19 s24 : Rows} (h : s14.length ≤ 1048576) (hN : 2097152 < N) : Es N [.int s0, .int s1, .int s2, .int s3, .int s4, .int s5, .int s6, .int s7, .int s8, .int s9, .int s10, .int s11, .int s12, .int s13, .rows s14, .int s15, .rows s16, .rows s17, .bool s18, .rows s19, .bool s20, .int s21, .int s22, .int s23, .rows s24, .int s25, .int s26, .int s27] = some [.bool (Dy s14)] := by
 show Gq (std (Hy N) N) (xOf _) = _
 simp only [Gq, EA, std, xOf, PXb, PXc, PXn, AJ]
 rw [show Dy s14 = iLe 0 (L5 (fun i => !(atI s14 i 0 == 0)) s14.length) from (Ho _ _).symm]
 rw [Option.bind_assoc]
 refine Af (CQ (len := s14.length) (E0 fun i => !(atI s14 i 0 == 0)) ?_ ?_ s14.length 0 N (by omega) (by omega)) ?_
 ·intro self
  simp only [PXb, PXc, PXn, AJ, B0]
 ·intro i self hi
  simp only [PXb, PXc, PXn, AJ, Al (show i ≤ 1099511627776 by omega), BH hi, Am hi, E0, Ce, EA, Ss]
  cases atI s14 i 0 == 0 <;> rfl
 ·unfold L5
  cases BP (E0 fun i => !(atI s14 i 0 == 0)) s14.length 0 <;> rfl
theorem OX {N : Nat} {s0 s1 s2 s3 s4 s5 s6 s7 s8 s9 s10 s11 s12 s13 s15 s21 s22 s23 s25 s26 s27 : Int} {s18 s20 : Bool} {s14 s16 s17 s19 s24 : Rows} (h : s14.length ≤ 1048576) (hN : 2097152 < N) : Ay N [.int s0, .int s1, .int s2, .int s3, .int s4, .int s5, .int s6, .int s7, .int s8, .int s9, .int s10, .int s11, .int s12, .int s13, .rows s14, .int s15, .rows s16, .rows s17, .bool s18, .rows s19, .bool s20, .int s21, .int s22, .int s23, .rows s24, .int s25, .int s26, .int s27] = some [.bool (Jr s14 s12 s13)] := by
 show C4 (std (DK N) N) (xOf _) = _
 simp only [C4, K4, std, xOf, PXb, PXc, PXn, PXm, Nat.reduceAdd, Int.reduceBEq, Pg h hN]
 rfl
theorem WW {N : Nat} {s0 s1 s2 s3 s4 s5 s6 s7 s8 s9 s10 s11 s12 s13 s15 s21 s22 s23 s25 s26 s27 : Int} {s18 s20 : Bool} {s14 s16 s17 s19 s24 : Rows} (h : s14.length ≤ 1048576) (hN : 2097152 < N) : B4 N [.int s0, .int s1, .int s2, .int s3, .int s4, .int s5, .int s6, .int s7, .int s8, .int s9, .int s10, .int s11, .int s12, .int s13, .rows s14, .int s15, .rows s16, .rows s17, .bool s18, .rows s19, .bool s20, .int s21, .int s22, .int s23, .rows s24, .int s25, .int s26, .int s27] = some [.rows (D1 s14 s14.length)] := by
 show EJ (std (J2 N) N) (xOf _) = _
 simp only [EJ, std, xOf, PXb, PXc, PXn, AJ]
 refine Af (Nb (len := s14.length) (fun i => [.rows (D1 s14 i), .int (i : Int)]) [.rows (D1 s14 s14.length)] ?_ ?_ N (by omega)) rfl
 ·intro self
  simp only [PXb, PXc, PXn, AJ, B0]
 ·intro i self hi
  have h2 : (D1 s14 i ++ [[PV.int ((i : Int) + 1)]]).length ≤ 4194304 := by have := Tj s14 i; simp; omega
  simp only [PXb, PXc, PXn, AJ, Al (show i ≤ 1099511627776 by omega), BH hi, Am hi, Ce, D1, Jg h2 (show 8 ≤ 4096 by omega)]
  cases (atI s14 i 0 == 0 || atI s14 i 0 == 3) <;> rfl
def Sa (s : Inn) (p q : Int) : Inn × Int :=
  cond (Dy s.batters) (s, 1) (cond (!inR p s.batters.length || !inR q s.batters.length) (s, 3) (cond (p == q) (s, 4)
    ({ s with batters := LA (LA s.batters p 1) q 1, striker := p, other := q }, 0)))
theorem WZ {N : Nat} {s0 s1 s2 s3 s4 s5 s6 s7 s8 s9 s10 s11 s12 s13 s15 s21 s22 s23 s25 s26 s27 : Int} {s18 s20 : Bool} {s14 s16 s17 s19 s24 : Rows} {p : Int} {q : Int} (h : Fit s14 s16 s17 s19 s24) (hN : 2097152 < N) : GN N [.int s0, .int s1, .int s2, .int s3, .int s4, .int s5, .int s6, .int s7, .int s8, .int s9, .int s10, .int s11, .int s12, .int s13, .rows s14, .int s15, .rows s16, .rows s17, .bool s18, .rows s19, .bool s20, .int s21, .int s22, .int s23, .rows s24, .int s25, .int s26, .int s27, .int p, .int q] = some (Ax (Sa (⟨s0, s1, s2, s3, s4, s5, s6, s7, s8, s9, s10, s11, s12, s13, s14, s15, s16, s17, s18, s19, s20, s21, s22, s23, s24, s25, s26, s27⟩ : Inn) p q)) := by
 show IZ (std (Ey N) N) (xOf _) = _
 generalize hres : (some (Ax (Sa (⟨s0, s1, s2, s3, s4, s5, s6, s7, s8, s9, s10, s11, s12, s13, s14, s15, s16, s17, s18, s19, s20, s21, s22, s23, s24, s25, s26, s27⟩ : Inn) p q)) : Option (List PV)) = RR
 simp only [IZ, Na, L1, MC, std, xOf, PXb, PXc, PXn, PXm, Nat.reduceAdd, Int.reduceBEq, FX h, Pg h.bt hN, Fe]
 subst hres; simp only [Sa]
 cases Dy s14 <;> try rfl
 cases hp : inR p s14.length <;> cases hq : inR q s14.length <;> try rfl
 rw [Ip hp h.bt, Ip hq h.bt]
 cases p == q <;> rfl
def NP (s : Inn) (p : Int) : Int :=
 cond (!inR p s.batters.length) 3 (cond (!Jr s.batters s.striker s.other || atI s.batters (ix p) 0 == 1) 4 (cond (atI s.batters (ix p) 0 == 2) 5 0))
theorem RS {N : Nat} {s0 s1 s2 s3 s4 s5 s6 s7 s8 s9 s10 s11 s12 s13 s15 s21 s22 s23 s25 s26 s27 : Int} {s18 s20 : Bool} {s14 s16 s17 s19 s24 : Rows} {p : Int} (h : s14.length ≤ 1048576) (hN : 2097152 < N) : Co N [.int s0, .int s1, .int s2, .int s3, .int s4, .int s5, .int s6, .int s7, .int s8, .int s9, .int s10, .int s11, .int s12, .int s13, .rows s14, .int s15, .rows s16, .rows s17, .bool s18, .rows s19, .bool s20, .int s21, .int s22, .int s23, .rows s24, .int s25, .int s26, .int s27, .int p] = some [.int (NP (⟨s0, s1, s2, s3, s4, s5, s6, s7, s8, s9, s10, s11, s12, s13, s14, s15, s16, s17, s18, s19, s20, s21, s22, s23, s24, s25, s26, s27⟩ : Inn) p)] := by
 show Jx (std (Hq N) N) (xOf _) = _
 generalize hres : (some [.int (NP (⟨s0, s1, s2, s3, s4, s5, s6, s7, s8, s9, s10, s11, s12, s13, s14, s15, s16, s17, s18, s19, s20, s21, s22, s23, s24, s25, s26, s27⟩ : Inn) p)] : Option (List PV)) = RR
 simp only [Jx, MG, Mp, std, xOf, PXb, PXc, PXn, PXm, Nat.reduceAdd, Int.reduceBEq, Fe, OX h hN]
 subst hres; simp only [NP]
 cases hp : inR p s14.length <;> try rfl
 rw [Ip hp h]
 cases Jr s14 s12 s13 <;> try rfl
 simp only [PXb, PXc, PXn, PXm, Nat.reduceAdd, Int.reduceBEq, atI, ix]
theorem WQ {s : Inn} {p : Int} (h : (NP s p == 0) = true) : inR p s.batters.length = true := by
 unfold NP at h
 cases hp : inR p s.batters.length with
 | true => rfl
 | false => rw [hp] at h; cases h
def PU (s : Inn) (p : Int) : Inn × Int :=
 cond (NP s p == 0) ({ s with batters := LA s.batters p 1, striker := cond (s.striker == 0) p s.striker, other := cond (s.striker == 0) s.other p }, 0) (s, NP s p)
def K9 (s : Inn) (p : Int) : Inn × Int :=
 cond (NP s p == 0) ({ s with batters := LA s.batters p 2, wickets := IntKind.i64.wrap (s.wickets + 1) }, 0) (s, NP s p)
theorem Vf {N : Nat} {s0 s1 s2 s3 s4 s5 s6 s7 s8 s9 s10 s11 s12 s13 s15 s21 s22 s23 s25 s26 s27 : Int} {s18 s20 : Bool} {s14 s16 s17 s19 s24 : Rows} {p : Int} (h : Fit s14 s16 s17 s19 s24) (hN : 2097152 < N) : FL N [.int s0, .int s1, .int s2, .int s3, .int s4, .int s5, .int s6, .int s7, .int s8, .int s9, .int s10, .int s11, .int s12, .int s13, .rows s14, .int s15, .rows s16, .rows s17, .bool s18, .rows s19, .bool s20, .int s21, .int s22, .int s23, .rows s24, .int s25, .int s26, .int s27, .int p] = some (Ax (PU (⟨s0, s1, s2, s3, s4, s5, s6, s7, s8, s9, s10, s11, s12, s13, s14, s15, s16, s17, s18, s19, s20, s21, s22, s23, s24, s25, s26, s27⟩ : Inn) p)) := by
 show Hn (std (Fw N) N) (xOf _) = _
 generalize hres : (some (Ax (PU (⟨s0, s1, s2, s3, s4, s5, s6, s7, s8, s9, s10, s11, s12, s13, s14, s15, s16, s17, s18, s19, s20, s21, s22, s23, s24, s25, s26, s27⟩ : Inn) p)) : Option (List PV)) = RR
 simp only [Hn, M4, Mu, std, xOf, PXb, PXc, PXn, PXm, Nat.reduceAdd, Int.reduceBEq, FX h, RS h.bt hN]
 subst hres; simp only [PU]
 cases hm : NP (⟨s0, s1, s2, s3, s4, s5, s6, s7, s8, s9, s10, s11, s12, s13, s14, s15, s16, s17, s18, s19, s20, s21, s22, s23, s24, s25, s26, s27⟩ : Inn) p == 0 <;> try rfl
 rw [Ip (WQ hm) h.bt]
 cases s12 == 0 <;> rfl
theorem Ts {N : Nat} {s0 s1 s2 s3 s4 s5 s6 s7 s8 s9 s10 s11 s12 s13 s15 s21 s22 s23 s25 s26 s27 : Int} {s18 s20 : Bool} {s14 s16 s17 s19 s24 : Rows} {p : Int} (h : Fit s14 s16 s17 s19 s24) (hN : 2097152 < N) : Dt N [.int s0, .int s1, .int s2, .int s3, .int s4, .int s5, .int s6, .int s7, .int s8, .int s9, .int s10, .int s11, .int s12, .int s13, .rows s14, .int s15, .rows s16, .rows s17, .bool s18, .rows s19, .bool s20, .int s21, .int s22, .int s23, .rows s24, .int s25, .int s26, .int s27, .int p] = some (Ax (K9 (⟨s0, s1, s2, s3, s4, s5, s6, s7, s8, s9, s10, s11, s12, s13, s14, s15, s16, s17, s18, s19, s20, s21, s22, s23, s24, s25, s26, s27⟩ : Inn) p)) := by
 show Fy (std (Cq N) N) (xOf _) = _
 generalize hres : (some (Ax (K9 (⟨s0, s1, s2, s3, s4, s5, s6, s7, s8, s9, s10, s11, s12, s13, s14, s15, s16, s17, s18, s19, s20, s21, s22, s23, s24, s25, s26, s27⟩ : Inn) p)) : Option (List PV)) = RR
 simp only [Fy, LW, KN, Lb, std, xOf, PXb, PXc, PXn, PXm, Nat.reduceAdd, Int.reduceBEq, FX h, RS h.bt hN, Fe]
 subst hres; simp only [K9]
 cases hm : NP (⟨s0, s1, s2, s3, s4, s5, s6, s7, s8, s9, s10, s11, s12, s13, s14, s15, s16, s17, s18, s19, s20, s21, s22, s23, s24, s25, s26, s27⟩ : Inn) p == 0 <;> try rfl
 have hk : inR p s14.length = true := WQ hm
 rw [Ip hk h.bt, hk]
 rfl
def NE (s : Inn) (p : Int) (hurt : Bool) : Inn × Int :=
  cond (!inR p s.batters.length) (s, 3) (cond (s.striker == 0 || s.other == 0) (s, 6) (cond (!(p == s.striker) && !(p == s.other)) (s, 4)
    (cond (hurt && ((D1 s.batters s.batters.length).length : Int) == 0) (s, 19)
      ({ s with striker := cond (p == s.striker) 0 s.striker, other := cond (p == s.striker) s.other 0, batters := LA s.batters p (cond hurt 3 2), wickets := cond hurt s.wickets (IntKind.i64.wrap (s.wickets + 1)) }, 0))))
theorem Ux {N : Nat} {s0 s1 s2 s3 s4 s5 s6 s7 s8 s9 s10 s11 s12 s13 s15 s21 s22 s23 s25 s26 s27 : Int} {s18 s20 : Bool} {s14 s16 s17 s19 s24 : Rows} {p : Int} {b : Bool} (h : Fit s14 s16 s17 s19 s24) (hN : 2097152 < N) : Eb N [.int s0, .int s1, .int s2, .int s3, .int s4, .int s5, .int s6, .int s7, .int s8, .int s9, .int s10, .int s11, .int s12, .int s13, .rows s14, .int s15, .rows s16, .rows s17, .bool s18, .rows s19, .bool s20, .int s21, .int s22, .int s23, .rows s24, .int s25, .int s26, .int s27, .int p, .bool b] = some (Ax (NE (⟨s0, s1, s2, s3, s4, s5, s6, s7, s8, s9, s10, s11, s12, s13, s14, s15, s16, s17, s18, s19, s20, s21, s22, s23, s24, s25, s26, s27⟩ : Inn) p b)) := by
 show Gt (std (DC N) N) (xOf _) = _
 generalize hres : (some (Ax (NE (⟨s0, s1, s2, s3, s4, s5, s6, s7, s8, s9, s10, s11, s12, s13, s14, s15, s16, s17, s18, s19, s20, s21, s22, s23, s24, s25, s26, s27⟩ : Inn) p b)) : Option (List PV)) = RR
 simp only [Gt, Lc, L4, Kd, std, xOf, PXb, PXc, PXn, PXm, Nat.reduceAdd, Int.reduceBEq, FX h, Fe, WW h.bt hN]
 subst hres; simp only [NE]
 cases hp : inR p s14.length <;> try rfl
 rw [Ip hp h.bt]
 cases s12 == 0 <;> cases s13 == 0 <;> try rfl
 cases p == s12 <;> cases p == s13 <;> cases b <;> try rfl
 all_goals (simp only [PXb, PXc, PXn, PXm, Nat.reduceAdd, Int.reduceBEq]; cases ((D1 s14 s14.length).length : Int) == 0 <;> rfl)
end Go.Px
end
section
namespace Go.Px
set_option maxRecDepth 100000
def btw (a b c : Int) : Bool := iLe b a && iLe a c
theorem Cv (N : Nat) (a b c : Int) : AX N [.int a, .int b, .int c] = some [.bool (btw a b c)] := by
 show some [PV.bool (cond (iLe b a) (iLe a c) false)] = _
 rw [Ur]; rfl
theorem I1 (N : Nat) (a b c : Int) : Bp N [.int a, .int b, .int c] = some [.bool (btw a b c)] := by
 show some [PV.bool (cond (iLe b a) (iLe a c) false)] = _
 rw [Ur]; rfl
def Kf (x1 x2 x3 x4 x5 x6 x7 x9 x10 x11 x12 : Int) : Bool := btw x1 2 11 && btw x2 1 2 && btw x3 0 90 && btw x4 4 8 && btw x5 0 90 && btw x6 1 5 && btw x7 1 5 && btw x9 0 200 && btw x10 0 1000 && btw x11 0 9 && btw x12 0 11
theorem Ti (N : Nat) (x0 : ByteArray) (x1 x2 x3 x4 x5 x6 x7 x9 x10 x11 x12 : Int) (x8 : Bool) (x13 : Rows) :
   Eo N [.str x0, .int x1, .int x2, .int x3, .int x4, .int x5, .int x6, .int x7, .bool x8, .int x9, .int x10, .int x11, .int x12, .rows x13] = some [.bool (Kf x1 x2 x3 x4 x5 x6 x7 x9 x10 x11 x12)] := by
  show Gx (std (H7 N) N) (xOf _) = _
  have e : ∀ ls, H7 N 47 [] ls = Bp N ls := fun ls => rfl
  simp only [Gx, std, xOf, e, I1, PXb, PXc, PXn, AJ, Kf]
def SU (s : ByteArray) (i : Nat) : Bool := !(iLe 65 (LP s i) && iLe (LP s i) 90) && ((i : Int) == 0 || ((!(LP s i == 95) && !(LP s i == 45)) && (iLt (LP s i) 48 || iLt 57 (LP s i))))
def Rj (s : ByteArray) : Bool := !BF (SU s) s.size 0 && (iLe 1 s.size && iLe s.size 16)
theorem cz (s : ByteArray) : (Ee s).length = s.size := by
 simp only [Ee, List.length_map, Array.length_toList]; rfl
theorem dZ (s : ByteArray) (i : Nat) (h : i < s.size) : pvI (AH (Ee s) i 0) = LP s i := by
 unfold AH A0 AE Ee LP
 simp only [List.getD_eq_getElem?_getD, List.getElem?_map]
 have : i < s.data.toList.length := by simpa using h
 rw [List.getElem?_eq_getElem this]
 simp [List.getElem?_eq_getElem this]
theorem W0 (N : Nat) (s : ByteArray) (hN : s.size < N) (hs : s.size ≤ 1048576) : IK N [.str s] = some [.bool (Rj s)] := by
 show LR (std (Ql N) N) (xOf _) = _
 simp only [LR, std, xOf, cz, PXb, PXc, PXn, AJ]
 refine Af (Iz (len := s.size) (SU s) [.bool false] ?_ ?_ N hN) ?_
 ·intro self
  simp only [PXb, PXc, PXn, AJ, B0]
 ·intro i self hi
  simp only [PXb, PXc, PXn, AJ, Int.toNat_natCast, dZ s i hi, Al (show i ≤ 1099511627776 by omega), BH hi, Am hi, SU]
 ·unfold Rj
  cases BF (SU s) s.size 0 <;> rfl
end Go.Px
end
section
namespace Go.Px
set_option maxRecDepth 100000
theorem ck {i len : Nat} (h : i < len) (hl : len ≤ 1099511627776) : (!iLt 0 (i : Int) || iIn (IntKind.i64.wrap ((i : Int) - 1)) (len : Int)) = true := by
 rw [GV (by omega) (by omega)]
 simp only [iLt, iIn, Bool.or_eq_true, Bool.not_eq_true', decide_eq_false_iff_not, decide_eq_true_eq]
 omega
def bm (L : Rows) (ov : Int) (i : Nat) : Bool := (iLt (atI L i 0) 1 || iLt (atI L i 1) (atI L i 0) || iLt ov (atI L i 1)) || !btw (atI L i 2) 0 11
def aa (L : Rows) (i : Nat) : Bool := iLt 0 (i : Int) && iLe (atI L i 0) (pvI (AH L (IntKind.i64.wrap ((i : Int) - 1)).toNat 1))
def ZM (L : Rows) (ov : Int) (i : Nat) : Option (List PV) := cond (bm L ov i) (some [.int 2]) (cond (aa L i) (some [.int 8]) none)
def aW : Option (List PV) → Int
 | none => 0
 | some r => pvI (AE r 0)
def W5 (L : Rows) (ov : Int) : Int := cond (iLt 8 (L.length : Int)) 9 (aW (BP (ZM L ov) L.length 0))
theorem Uc (o : Option (List PV)) : cond (pvI (AE (SQ o) 0) == ((0 : Nat) : Int)) (some [PV.int (pvI (AE (SQ o) 1))]) (some [PV.int 0]) = some [PV.int (aW o)] := by
 cases o <;> rfl
theorem UW (N : Nat) (x0 : ByteArray) (x1 x2 x3 x4 x5 x6 x7 x9 x10 x11 x12 : Int) (x8 : Bool) (L : Rows) (hN : 2097152 < N) :
   Fi N [.str x0, .int x1, .int x2, .int x3, .int x4, .int x5, .int x6, .int x7, .bool x8, .int x9, .int x10, .int x11, .int x12, .rows L] = some [.int (W5 L x3)] := by
  show Hu (std (I8 N) N) (xOf _) = _
  have e : ∀ ls, I8 N 47 [] ls = Bp N ls := fun ls => rfl
  simp only [Hu, std, xOf, e, I1, PXb, PXc, PXn, AJ, W5]
  cases h8 : iLt 8 (L.length : Int) with
  | true => rfl
  | false =>
    have hl : L.length ≤ 8 := by simp [iLt] at h8; omega
    simp only [cond_false]
    refine Af (CQ (len := L.length) (ZM L x3) ?_ ?_ L.length 0 N (by omega) (by omega)) ?_
    · intro self
      simp only [PXb, PXc, PXn, AJ, B0]
    · intro i self hi
      simp only [PXb, PXc, PXn, AJ, Int.toNat_natCast, Al (show i ≤ 1099511627776 by omega), BH hi, Am hi, I1, e, ck hi (by omega)]
      simp only [ZM, bm, aa, atI]
      cases (iLt (pvI (AH L i 0)) 1 || iLt (pvI (AH L i 1)) (pvI (AH L i 0)) || iLt x3 (pvI (AH L i 1)) || !btw (pvI (AH L i 2)) 0 11) <;>
      cases (iLt 0 (i : Int) && iLe (pvI (AH L i 0)) (pvI (AH L (IntKind.i64.wrap ((i : Int) - 1)).toNat 1))) <;> rfl
    · exact Uc _
def JP (x0 : ByteArray) (x1 x2 x3 x4 x5 x6 x7 x9 x10 x11 x12 : Int) (L : Rows) : Int :=
  cond (!Rj x0) 5 (cond (!Kf x1 x2 x3 x4 x5 x6 x7 x9 x10 x11 x12) 2
    (cond ((!(x10 == 0) && x2 == 1) || ((!(x5 == 0) || iLt 0 (L.length : Int)) && x3 == 0)) 1
      (cond (!(x5 == 0) && iLt (IntKind.i64.wrap (x5 * x1)) x3) 13 (W5 L x3))))
theorem Pi (N : Nat) (x0 : ByteArray) (x1 x2 x3 x4 x5 x6 x7 x9 x10 x11 x12 : Int) (x8 : Bool) (L : Rows) (hN : 2097152 < N) (hs : x0.size ≤ 1048576) :
   AL N [.str x0, .int x1, .int x2, .int x3, .int x4, .int x5, .int x6, .int x7, .bool x8, .int x9, .int x10, .int x11, .int x12, .rows L] = some [.int (JP x0 x1 x2 x3 x4 x5 x6 x7 x9 x10 x11 x12 L)] := by
  show Ir (std (Ez N) N) (xOf _) = _
  have e : ∀ ls, Ez N 31 [] ls = IK N ls := fun ls => rfl
  have e2 : ∀ ls, Ez N 32 [] ls = Eo N ls := fun ls => rfl
  have e3 : ∀ ls, Ez N 33 [] ls = Fi N ls := fun ls => rfl
  simp only [Ir, std, xOf, e, e2, e3, W0 N x0 (by omega) hs, Ti, UW N _ _ _ _ _ _ _ _ _ _ _ _ _ _ hN, PXb, PXc, AJ, JP]
  cases Rj x0 <;> cases Kf x1 x2 x3 x4 x5 x6 x7 x9 x10 x11 x12 <;> try rfl
  simp only [PXb, PXc, AJ, Bool.not_true]
  cases (!(x10 == 0) && x2 == 1) <;> cases ((!(x5 == 0) || iLt 0 (L.length : Int)) && x3 == 0) <;> try rfl
  cases (!(x5 == 0) && iLt (IntKind.i64.wrap (x5 * x1)) x3) <;> rfl
end Go.Px
end
section
namespace Go.Px
set_option maxRecDepth 100000
theorem Q4 (N : Nat) (L : Rows) (v : Int) (hN : L.length < N) (hl : L.length ≤ 2097152) : Cj N [.rows L, .int v] = some [.int (L5 (fun j => v == atI L j 0) L.length)] := by
 show EY (std (Jv N) N) (xOf _) = _
 simp only [EY, std, xOf, PXb, PXc, PXn, AJ]
 refine Af (CQ (len := L.length) (E0 fun j => v == atI L j 0) ?_ ?_ L.length 0 N (by omega) (by omega)) ?_
 ·intro self
  simp only [PXb, PXc, PXn, AJ, B0]
 ·intro i self hi
  simp only [PXb, PXc, PXn, AJ, Al (show i ≤ 1099511627776 by omega), BH hi, Am hi, E0, Ce]
  cases v == atI L i 0 <;> rfl
 ·unfold L5
  cases BP (E0 fun j => v == atI L j 0) L.length 0 <;> rfl
def Hz (L : Rows) (k : Nat) (v : Int) : Bool := BF (fun j => v == atI L j 0) k 0
theorem IQ (N : Nat) (L : Rows) (v : Int) (hN : L.length < N) (hl : L.length ≤ 2097152) : Ab N [.rows L, .int v] = some [.bool (Hz L L.length v)] := by
 show C8 (std (EE N) N) (xOf _) = _
 have e : ∀ ls, EE N 93 [] ls = Cj N ls := fun ls => rfl
 simp only [C8, std, xOf, PXb, PXc, PXn, AJ, e, Q4 N L v hN hl, Ho, Hz]
theorem bX (L : Rows) (i : Nat) (v : Int) (h : i ≤ L.length) : Hz (L.take i) (L.take i).length v = Hz L i v := by
 rw [List.length_take, Nat.min_eq_left h]
 exact UX i 0 (fun j _ hj => by rw [bF (by omega)])
def ND (L : Rows) (n : Int) (i : Nat) : Bool := !btw (atI L i 0) 1 n || Hz L i (atI L i 0)
def IP (L : Rows) (n : Int) : Bool := !BF (ND L n) L.length 0
theorem J9 (N : Nat) (L : Rows) (n : Int) (hN : L.length < N) (hl : L.length ≤ 2097152) : CW N [.rows L, .int n] = some [.bool (IP L n)] := by
 show D7 (std (C6 N) N) (xOf _) = _
 have e : ∀ ls, C6 N 48 [] ls = AX N ls := fun ls => rfl
 have e2 : ∀ ls, C6 N 70 [] ls = Ab N ls := fun ls => rfl
 simp only [D7, std, xOf, PXb, PXc, PXn, AJ]
 refine Af (Iz (len := L.length) (ND L n) [.bool false] ?_ ?_ N hN) ?_
 ·intro self
  simp only [PXb, PXc, PXn, AJ, B0]
 ·intro i self hi
  have h1 : (L.take i).length ≤ L.length := List.length_take_le' i L
  simp only [PXb, PXc, PXn, AJ, Al (show i ≤ 1099511627776 by omega), BH hi, Am hi, e, e2, Cv, dl (Nat.le_of_lt hi), Int.toNat_zero, List.drop_zero, IQ N (L.take i) _ (by omega) (by omega), bX L i _ (by omega), Ce, ND]
  cases btw (atI L i 0) 1 n <;> cases Hz L i (atI L i 0) <;> rfl
 ·unfold IP
  cases BF (ND L n) L.length 0 <;> rfl
theorem Sg (N : Nat) (v : Int) : B7 N [.int v] = some [.bool (!(v == 0))] := rfl
def lsI (L14 L16 L17 L19 L24 : Rows) (b18 b20 : Bool) (x0 x1 x2 x3 x4 x5 x6 x7 x8 x9 x10 x11 x12 x13 x15 x21 x22 x23 x25 x26 x27 : Int) : List PV :=
 [.int x0, .int x1, .int x2, .int x3, .int x4, .int x5, .int x6, .int x7, .int x8, .int x9, .int x10, .int x11, .int x12, .int x13, .rows L14, .int x15, .rows L16, .rows L17, .bool b18, .rows L19, .bool b20, .int x21, .int x22, .int x23, .rows L24, .int x25, .int x26, .int x27]
section
variable (N : Nat) (L14 L16 L17 L19 L24 : Rows) (b18 b20 : Bool) (x0 x1 x2 x3 x4 x5 x6 x7 x8 x9 x10 x11 x12 x13 x15 x21 x22 x23 x25 x26 x27 : Int)
theorem UM (hN : L14.length < N) (hl : L14.length ≤ 2097152) : BS N (lsI L14 L16 L17 L19 L24 b18 b20 x0 x1 x2 x3 x4 x5 x6 x7 x8 x9 x10 x11 x12 x13 x15 x21 x22 x23 x25 x26 x27) = some [.bool (Dy L14)] := by
 show Dc (std (Dr N) N) (xOf (lsI ..)) = _
 have e : ∀ ls, Dr N 173 [] ls = B7 N ls := fun ls => rfl
 simp only [Dc, std, xOf, lsI, PXb, PXc, PXn, AJ]
 rw [show Dy L14 = iLe 0 (L5 (fun i => !(atI L14 i 0 == 0)) L14.length) from (Ho _ _).symm]
 rw [Option.bind_assoc]
 refine Af (CQ (len := L14.length) (E0 fun i => !(atI L14 i 0 == 0)) ?_ ?_ L14.length 0 N (by omega) (by omega)) ?_
 ·intro self
  simp only [PXb, PXc, PXn, AJ, B0]
 ·intro i self hi
  simp only [PXb, PXc, PXn, AJ, Al (show i ≤ 1099511627776 by omega), BH hi, Am hi, E0, Ce, e, Sg]
  cases atI L14 i 0 == 0 <;> rfl
 ·unfold L5
  cases BP (E0 fun i => !(atI L14 i 0 == 0)) L14.length 0 <;> rfl
theorem T1 (hN : L14.length < N) (hl : L14.length ≤ 2097152) : Ay N (lsI L14 L16 L17 L19 L24 b18 b20 x0 x1 x2 x3 x4 x5 x6 x7 x8 x9 x10 x11 x12 x13 x15 x21 x22 x23 x25 x26 x27) = some [.bool (Jr L14 x12 x13)] := by
 show C4 (std (DK N) N) (xOf (lsI ..)) = _
 have e : ∀ ls, DK N 143 [] ls = BS N ls := fun ls => rfl
 have := UM N L14 L16 L17 L19 L24 b18 b20 x0 x1 x2 x3 x4 x5 x6 x7 x8 x9 x10 x11 x12 x13 x15 x21 x22 x23 x25 x26 x27 hN hl
 simp only [lsI] at this
 simp only [C4, std, xOf, lsI, PXb, PXc, PXn, AJ, e, this, Jr]
theorem Vq (hN : L14.length < N) (hl : L14.length ≤ 2097152) : B4 N (lsI L14 L16 L17 L19 L24 b18 b20 x0 x1 x2 x3 x4 x5 x6 x7 x8 x9 x10 x11 x12 x13 x15 x21 x22 x23 x25 x26 x27) = some [.rows (D1 L14 L14.length)] := by
 show EJ (std (J2 N) N) (xOf (lsI ..)) = _
 simp only [EJ, std, xOf, lsI, PXb, PXc, PXn, AJ]
 refine Af (Nb (len := L14.length) (fun i => [.rows (D1 L14 i), .int (i : Int)]) [.rows (D1 L14 L14.length)] ?_ ?_ N hN) rfl
 ·intro self
  simp only [PXb, PXc, PXn, AJ, B0]
 ·intro i self hi
  have h2 : (D1 L14 i ++ [[PV.int ((i : Int) + 1)]]).length ≤ 4194304 := by have := Tj L14 i; simp; omega
  simp only [PXb, PXc, PXn, AJ, Al (show i ≤ 1099511627776 by omega), BH hi, Am hi, Ce, D1, Jg h2 (show 8 ≤ 4096 by omega)]
  cases (atI L14 i 0 == 0 || atI L14 i 0 == 3) <;> rfl
end
theorem Pv (N : Nat) (v : Int) : CY N [.int v] = some [.bool (!btw v 0 1000000000)] := by
 show D5 (std (FY N) N) (xOf _) = _
 have e : ∀ ls, FY N 48 [] ls = AX N ls := fun ls => rfl
 simp only [D5, std, xOf, PXb, PXc, PXn, AJ, e, Cv]
end Go.Px
end
section
namespace Go.Px
set_option maxRecDepth 100000
def pIs (L : Rows) (v : Int) (i : Nat) : Bool := atI L i 0 == v
def Rm (s n : Int) (i : Nat) : Bool := s == (i : Int) + 1 || n == (i : Int) + 1
def Mw (L : Rows) (s n : Int) (i : Nat) : Bool := iLt 3 (atI L i 0) || (pIs L 1 i && !Rm s n i)
def Uh (L : Rows) (s n : Int) (i : Nat) : Bool := iLt 3 (atI L i 0) || !(pIs L 1 i == Rm s n i)
def Vw (L : Rows) : Int := Bw (pIs L 2) L.length
def ins (L : Rows) : Int := Bw (pIs L 1) L.length
def two (s n : Int) : Int := cond (!(n == 0)) (IntKind.i64.wrap (cond (!(s == 0)) (IntKind.i64.wrap (0 + 1)) 0 + 1)) (cond (!(s == 0)) (IntKind.i64.wrap (0 + 1)) 0)
def Ws (L : Rows) (s n wk k : Int) : Bool :=
 !BF (Mw L s n) L.length 0 && ((btw s 0 k && btw n 0 k) && (!(s == n && !(s == 0)) && ((two s n == ins L && (!Dy L || iLt 0 (two s n))) && Vw L == wk)))
def U0 (L : Rows) (s n wk : Int) : Bool :=
 !BF (Uh L s n) L.length 0 && (!((Dy L && iLt (ins L) 1) || (!(s == 0) && s == n)) && wk == Vw L)
def Za (L : Rows) : Nat → Bool
 | 0 => false
 | i + 1 => Za L i || !(atI L i 0 == 0)
theorem Yw (L : Rows) : ∀ i, Za L i = BF (fun j => !(atI L j 0 == 0)) i 0
 | 0 => rfl
 | i + 1 => by rw [RL, Nat.zero_add, ← Yw L i]; rfl
section
variable (N : Nat) (L14 L16 L17 L19 L24 : Rows) (b18 b20 : Bool) (x0 x1 x2 x3 x4 x5 x6 x7 x8 x9 x10 x11 x12 x13 x15 x21 x22 x23 x25 x26 x27 : Int)
theorem RP (k : Int) (hN : L14.length < N) (hl : L14.length ≤ 2097152) : DF N (lsI L14 L16 L17 L19 L24 b18 b20 x0 x1 x2 x3 x4 x5 x6 x7 x8 x9 x10 x11 x12 x13 x15 x21 x22 x23 x25 x26 x27 ++ [.int k]) = some [.bool (Ws L14 x12 x13 x4 k)] := by
  simp only [lsI, List.cons_append, List.nil_append]
  show FC (std (Gk N) N) (xOf _) = _
  have e : ∀ ls, Gk N 48 [] ls = AX N ls := fun ls => rfl
  simp only [FC, std, xOf, lsI, PXb, PXc, PXn, AJ]
  refine Af (Xo (len := L14.length) (fun i => [.int (Bw (pIs L14 2) i), .int (Bw (pIs L14 1) i), .bool (Za L14 i), .int (i : Int)])
    (Mw L14 x12 x13) [.int 0, .bool false] [.int 1, .int (Vw L14), .int (ins L14), .bool (Dy L14)] ?_ ?_ N hN) ?_
  · intro self
    simp only [PXb, PXc, PXn, AJ, B0, Yw]
    rfl
  · intro i self hi
    simp only [PXb, PXc, AJ, Al (show i ≤ 1099511627776 by omega), BH hi, Am hi, Ce, XK (pIs L14 2) (show i ≤ 1099511627776 by omega), XK (pIs L14 1) (show i ≤ 1099511627776 by omega)]
    unfold Mw pIs Rm
    simp only [Bw, Za]
    cases h3 : iLt 3 (atI L14 i 0) with
    | true => rfl
    | false =>
      cases h1 : atI L14 i 0 == 1 with
      | true =>
        rw [cC h1]
        cases x12 == (i : Int) + 1 <;> cases x13 == (i : Int) + 1 <;> rfl
      | false => cases h2 : atI L14 i 0 == 2 <;> rfl
  · unfold Ws
    simp only [e, Cv]
    cases BF (Mw L14 x12 x13) L14.length 0 with
    | true => rfl
    | false =>
      simp only [PXb, PXc, PXn, AJ]
      unfold two
      cases btw x12 0 k <;> cases btw x13 0 k <;> try rfl
      cases x12 == 0 <;> cases x13 == 0 <;> cases x12 == x13 <;> try rfl
end
end Go.Px
end
section
namespace Go.Px
set_option maxRecDepth 100000
theorem cp (s n : Int) : two s n = cond (!(s == 0)) 1 0 + cond (!(n == 0)) 1 0 := by
 unfold two
 cases s == 0 <;> cases n == 0 <;> rfl
theorem ce {s n : Int} {len : Nat} (h1 : 0 ≤ s ∧ s ≤ (len : Int)) (h2 : 0 ≤ n ∧ n ≤ (len : Int)) (hd : (s == n && !(s == 0)) = false) : two s n = Bw (Rm s n) len := by
 have hs : iLe s (len : Int) = true := by simp only [iLe, decide_eq_true_eq]; omega
 have hn : iLe n (len : Int) = true := by simp only [iLe, decide_eq_true_eq]; omega
 unfold Rm
 rw [ai (p := fun i => s == (i : Int) + 1) (q := fun i => n == (i : Int) + 1) len (fun j _ hp => by
  have e1 : s = (j : Int) + 1 := by simpa using hp
  show (n == (j : Int) + 1) = false
  rw [beq_eq_false_iff_ne]
  intro e2
  have e3 : (s == n) = true := by rw [beq_iff_eq]; omega
  have e4 : (s == 0) = false := by rw [beq_eq_false_iff_ne]; omega
  rw [e3, e4] at hd; cases hd), Xk s len h1.1, Xk n len h2.1, hs, hn, Bool.and_true, Bool.and_true, cp]
theorem cP (x : Int) : iLt 0 x = !iLt x 1 := by
 unfold iLt
 rw [Bool.eq_iff_iff]
 simp only [decide_eq_true_eq, Bool.not_eq_true', decide_eq_false_iff_not]
 omega
theorem ba {L : Rows} {s n : Int} (h1 : 0 ≤ s ∧ s ≤ (L.length : Int)) (h2 : 0 ≤ n ∧ n ≤ (L.length : Int)) (hd : (s == n && !(s == 0)) = false) :
    (!BF (Mw L s n) L.length 0 && two s n == ins L) = !BF (Uh L s n) L.length 0 := by
  have h2c := ce h1 h2 hd
  rw [Bool.eq_iff_iff]
  simp only [Bool.and_eq_true, Bool.not_eq_true', Hi, beq_iff_eq]
  constructor
  · intro ⟨ha, hb⟩ j _ hj
    have hm : ∀ j, j < L.length → pIs L 1 j = true → Rm s n j = true := fun j hj hp => by
      have := ha j (Nat.zero_le _) (by omega)
      unfold Mw at this
      rw [hp] at this
      simp only [Bool.or_eq_false_iff, Bool.true_and, Bool.not_eq_false'] at this
      exact this.2
    have he := Zy L.length hm (by rw [← h2c, hb]; rfl) j (by omega)
    have := ha j (Nat.zero_le _) hj
    unfold Mw at this
    unfold Uh
    rw [Bool.or_eq_false_iff] at this ⊢
    exact ⟨this.1, by rw [he]; simp⟩
  · intro ha
    have hm : ∀ j, j < L.length → pIs L 1 j = Rm s n j := fun j hj => by
      have := ha j (Nat.zero_le _) (by omega)
      unfold Uh at this
      rw [Bool.or_eq_false_iff] at this
      simpa using this.2
    refine ⟨fun j h0 hj => ?_, ?_⟩
    · have := ha j h0 hj
      unfold Uh at this
      unfold Mw
      rw [Bool.or_eq_false_iff] at this ⊢
      refine ⟨this.1, ?_⟩
      rw [hm j (by omega)]
      cases Rm s n j <;> rfl
    · rw [h2c]
      exact (WD L.length hm).symm
theorem dS (L : Rows) (s n wk k : Int) (hk : (L.length : Int) = k) : Ws L s n wk k = (btw s 0 k && btw n 0 k && U0 L s n wk) := by
 subst hk
 unfold Ws U0
 cases hs : btw s 0 (L.length : Int) with
 | false => simp only [Bool.false_and, Bool.and_false]
 | true =>
  cases hn : btw n 0 (L.length : Int) with
  | false => simp only [Bool.false_and, Bool.and_false]
  | true =>
   have h1 : 0 ≤ s ∧ s ≤ (L.length : Int) := by simpa [btw, iLe] using hs
   have h2 : 0 ≤ n ∧ n ≤ (L.length : Int) := by simpa [btw, iLe] using hn
   simp only [Bool.true_and]
   cases hd : (s == n && !(s == 0)) with
   | true =>
    have : (!(s == 0) && s == n) = true := by rw [Bool.and_comm]; exact hd
    rw [this]
    simp only [Bool.or_true, Bool.not_true, Bool.false_and, Bool.and_false]
   | false =>
    have : (!(s == 0) && s == n) = false := by rw [Bool.and_comm]; exact hd
    rw [this, ← ba h1 h2 hd]
    simp only [Bool.or_false, Bool.not_false, Bool.true_and]
    rw [show (wk == Vw L) = (Vw L == wk) from BEq.comm]
    cases hA : BF (Mw L s n) L.length 0 with
    | true => rfl
    | false =>
     cases hB : two s n == ins L with
     | false => rfl
     | true =>
      rw [beq_iff_eq.1 hB, cP]
      simp only [Bool.true_and, Bool.not_false, Bool.not_and]
end Go.Px
end
section
namespace Go.Px
set_option maxRecDepth 100000
def HL (v : Int) : Bool := !btw v 0 1000000000
def YA (x1 x3 x5 x6 x7 x8 x9 x10 x21 x23 x25 x26 : Int) : Rows := [[.int x1], [.int x3], [.int x5], [.int x6], [.int x7], [.int x8], [.int x9], [.int x10], [.int x21], [.int x23], [.int x25], [.int x26]]
section
variable (N : Nat) (L14 L16 L17 L19 L24 : Rows) (b18 b20 : Bool) (x0 x1 x2 x3 x4 x5 x6 x7 x8 x9 x10 x11 x12 x13 x15 x21 x22 x23 x25 x26 x27 : Int)
theorem Rh (hN : 2097152 < N) (hl : L19.length ≤ 1048576) : DM N (lsI L14 L16 L17 L19 L24 b18 b20 x0 x1 x2 x3 x4 x5 x6 x7 x8 x9 x10 x11 x12 x13 x15 x21 x22 x23 x25 x26 x27) = some [.bool (!(H6 HL (YA x1 x3 x5 x6 x7 x8 x9 x10 x21 x23 x25 x26) || H6 HL L19))] := by
 show FI (std (Gf N) N) (xOf (lsI ..)) = _
 have e : ∀ ls, Gf N 72 [] ls = CY N ls := fun ls => rfl
 rw [← YG]
 simp only [FI, std, xOf, lsI, PXb, PXc, PXn, AJ, YA]
 generalize hM : ([PV.int x1] :: [PV.int x3] :: [PV.int x5] :: [PV.int x6] :: [PV.int x7] :: [PV.int x8] :: [PV.int x9] :: [PV.int x10] :: [PV.int x21] :: [PV.int x23] :: [PV.int x25] :: [PV.int x26] :: L19 : Rows) = M
 have hM2 : M.length ≤ 2097152 := by rw [← hM]; simp only [List.length_cons]; omega
 rw [Jg (n := M.length) (by omega) (by omega)]
 simp only [PXb, PXc, PXn, AJ]
 rw [Option.bind_assoc]
 refine Af (CQ (len := M.length) (E0 fun i => HL (atI M i 0)) ?_ ?_ M.length 0 N (by omega) (by omega)) ?_
 ·intro self
  simp only [PXb, PXc, PXn, AJ, B0]
 ·intro i self hi
  simp only [PXb, PXc, PXn, AJ, Al (show i ≤ 1099511627776 by omega), BH hi, Am hi, E0, Ce, e, Pv, HL]
  cases btw (atI M i 0) 0 1000000000 <;> rfl
 ·unfold H6
  rw [← Ho]
  unfold L5
  cases BP (E0 fun i => HL (atI M i 0)) M.length 0 <;> rfl
end
def VZ (a3 x2 : Int) : Bool := cond (a3 == 0) (x2 == 0) (btw x2 1 a3)
def PX (s : ByteArray) (a1 a2 a3 a4 a5 a6 a7 a9 a10 a11 a12 : Int) (La L14 L16 L17 L19 L24 : Rows) (x0 x1 x2 x3 x4 x5 x6 x7 x8 x9 x10 x11 x12 x13 x15 x21 x22 x23 x25 x26 x27 : Int) : Bool :=
  JP s a1 a2 a3 a4 a5 a6 a7 a9 a10 a11 a12 La == 0 && (btw x0 1 2 && ((L14.length : Int) == a1 && ((L19.length : Int) == a1 && ((L24.length : Int) == a1 && (!iLt 5 x27 &&
    (btw x12 0 a1 && (btw x13 0 a1 && (U0 L14 x12 x13 x4 && (btw x15 0 a1 && (btw x22 0 a1 && (IP L16 a1 && (IP L17 a1 && (VZ a3 x2 && (btw x11 0 (IntKind.i64.wrap (a4 - 1)) &&
      (!H6 HL (YA x1 x3 x5 x6 x7 x8 x9 x10 x21 x23 x25 x26) && !H6 HL L19)))))))))))))))
theorem cU {a : Int} (h : 0 ≤ a) : iLt 0 a = !(a == 0) := by
 unfold iLt
 rw [Bool.eq_iff_iff]
 simp only [decide_eq_true_eq, Bool.not_eq_true', beq_eq_false_iff_ne]
 omega
section
variable (N : Nat) (s : ByteArray) (a1 a2 a3 a4 a5 a6 a7 a9 a10 a11 a12 : Int) (a8 : Bool) (La : Rows) (L14 L16 L17 L19 L24 : Rows) (b18 b20 : Bool) (x0 x1 x2 x3 x4 x5 x6 x7 x8 x9 x10 x11 x12 x13 x15 x21 x22 x23 x25 x26 x27 : Int)
theorem Ni (hN : 2097152 < N) (hs : s.size ≤ 1048576) (h14 : L14.length ≤ 1048576) (h16 : L16.length ≤ 1048576) (h17 : L17.length ≤ 1048576) (h19 : L19.length ≤ 1048576) : Aw N ([.str s, .int a1, .int a2, .int a3, .int a4, .int a5, .int a6, .int a7, .bool a8, .int a9, .int a10, .int a11, .int a12, .rows La] ++ lsI L14 L16 L17 L19 L24 b18 b20 x0 x1 x2 x3 x4 x5 x6 x7 x8 x9 x10 x11 x12 x13 x15 x21 x22 x23 x25 x26 x27) = some [.bool (PX s a1 a2 a3 a4 a5 a6 a7 a9 a10 a11 a12 La L14 L16 L17 L19 L24 x0 x1 x2 x3 x4 x5 x6 x7 x8 x9 x10 x11 x12 x13 x15 x21 x22 x23 x25 x26 x27)] := by
 simp only [lsI, List.cons_append, List.nil_append]
 show G3 (std (Bo N) N) (xOf _) = _
 have e1 : ∀ ls, Bo N 17 [] ls = AL N ls := fun ls => rfl
 have e2 : ∀ ls, Bo N 48 [] ls = AX N ls := fun ls => rfl
 have e3 : ∀ ls, Bo N 49 [] ls = DF N ls := fun ls => rfl
 have e4 : ∀ ls, Bo N 50 [] ls = CW N ls := fun ls => rfl
 have e5 : ∀ ls, Bo N 51 [] ls = DM N ls := fun ls => rfl
 have l54 := RP N L14 L16 L17 L19 L24 b18 b20 x0 x1 x2 x3 x4 x5 x6 x7 x8 x9 x10 x11 x12 x13 x15 x21 x22 x23 x25 x26 x27 a1 (by omega) (by omega)
 have l56 := Rh N L14 L16 L17 L19 L24 b18 b20 x0 x1 x2 x3 x4 x5 x6 x7 x8 x9 x10 x11 x12 x13 x15 x21 x22 x23 x25 x26 x27 (by omega) (by omega)
 simp only [lsI, List.cons_append, List.nil_append] at l54 l56
 simp only [G3, std, xOf, PXb, PXc, PXn, AJ, e1, e2, e3, e4, e5, Pi N s _ _ _ _ _ _ _ _ _ _ _ _ _ hN hs, Cv, l54, l56, J9 N L16 _ (by omega) (by omega), J9 N L17 _ (by omega) (by omega)]
 unfold PX VZ
 cases hc : JP s a1 a2 a3 a4 a5 a6 a7 a9 a10 a11 a12 La == 0 <;> try rfl
 cases btw x0 1 2 <;> try rfl
 cases h14 : (L14.length : Int) == a1 <;> try rfl
 cases (L19.length : Int) == a1 <;> try rfl
 cases (L24.length : Int) == a1 <;> try rfl
 cases iLt 5 x27 <;> try rfl
 rw [dS L14 x12 x13 x4 a1 (beq_iff_eq.1 h14)]
 cases btw x12 0 a1 <;> try rfl
 cases btw x13 0 a1 <;> try rfl
 cases U0 L14 x12 x13 x4 <;> try rfl
 cases btw x15 0 a1 <;> try rfl
 cases btw x22 0 a1 <;> try rfl
 cases IP L16 a1 <;> try rfl
 cases IP L17 a1 <;> try rfl
 cases a3 == 0 <;> cases x2 == 0 <;> cases btw x2 1 a3 <;> rfl
end
end Go.Px
end
section
namespace Go.Px
set_option maxRecDepth 100000
def bJ (v : Bool) (L : Rows) (s n : Int) (x1 x2 x3 x10 : Int) : Int :=
 cond (!v) 0 (cond (iLt 0 x1 && iLe x1 x3) 3 (cond (Jr L s n && ((D1 L L.length).length : Int) == 0) 1 (cond (iLt 0 x2 && iLe x2 x10) 2 0)))
end Go.Px
end
section
namespace Go.Px
set_option maxRecDepth 100000
section
variable (N : Nat) (s : ByteArray) (a1 a2 a3 a4 a5 a6 a7 a9 a10 a11 a12 : Int) (a8 : Bool) (La : Rows) (L14 L16 L17 L19 L24 : Rows) (b18 b20 : Bool) (x0 x1 x2 x3 x4 x5 x6 x7 x8 x9 x10 x11 x12 x13 x15 x21 x22 x23 x25 x26 x27 : Int)
theorem Sk (hN : 2097152 < N) (hs : s.size ≤ 1048576) (h14 : L14.length ≤ 1048576) (h16 : L16.length ≤ 1048576) (h17 : L17.length ≤ 1048576) (h19 : L19.length ≤ 1048576) : Cc N ([.str s, .int a1, .int a2, .int a3, .int a4, .int a5, .int a6, .int a7, .bool a8, .int a9, .int a10, .int a11, .int a12, .rows La] ++ lsI L14 L16 L17 L19 L24 b18 b20 x0 x1 x2 x3 x4 x5 x6 x7 x8 x9 x10 x11 x12 x13 x15 x21 x22 x23 x25 x26 x27) =
    some [.int (bJ (PX s a1 a2 a3 a4 a5 a6 a7 a9 a10 a11 a12 La L14 L16 L17 L19 L24 x0 x1 x2 x3 x4 x5 x6 x7 x8 x9 x10 x11 x12 x13 x15 x21 x22 x23 x25 x26 x27) L14 x12 x13 x1 x2 x3 x10)] := by
  simp only [lsI, List.cons_append, List.nil_append]
  show F4 (std (Cu N) N) (xOf _) = _
  have e1 : ∀ ls, Cu N 34 [] ls = Aw N ls := fun ls => rfl
  have e2 : ∀ ls, Cu N 137 [] ls = Ay N ls := fun ls => rfl
  have e3 : ∀ ls, Cu N 138 [] ls = B4 N ls := fun ls => rfl
  have l16 := Ni N s a1 a2 a3 a4 a5 a6 a7 a9 a10 a11 a12 a8 La L14 L16 L17 L19 L24 b18 b20 x0 x1 x2 x3 x4 x5 x6 x7 x8 x9 x10 x11 x12 x13 x15 x21 x22 x23 x25 x26 x27 hN hs h14 h16 h17 h19
  have l61 := T1 N L14 L16 L17 L19 L24 b18 b20 x0 x1 x2 x3 x4 x5 x6 x7 x8 x9 x10 x11 x12 x13 x15 x21 x22 x23 x25 x26 x27 (by omega) (by omega)
  have l62 := Vq N L14 L16 L17 L19 L24 b18 b20 x0 x1 x2 x3 x4 x5 x6 x7 x8 x9 x10 x11 x12 x13 x15 x21 x22 x23 x25 x26 x27 (by omega) (by omega)
  simp only [lsI, List.cons_append, List.nil_append] at l16 l61 l62
  simp only [F4, std, xOf, PXb, PXc, PXn, AJ, e1, e2, e3, l16, l61, l62, bJ]
  cases PX s a1 a2 a3 a4 a5 a6 a7 a9 a10 a11 a12 La L14 L16 L17 L19 L24 x0 x1 x2 x3 x4 x5 x6 x7 x8 x9 x10 x11 x12 x13 x15 x21 x22 x23 x25 x26 x27 <;> try rfl
  cases (iLt 0 x1 && iLe x1 x3) <;> try rfl
  cases Jr L14 x12 x13
  · cases (iLt 0 x2 && iLe x2 x10) <;> rfl
  · simp only [PXb, PXc, PXn, AJ]
    cases ((D1 L14 L14.length).length : Int) == 0 <;> cases (iLt 0 x2 && iLe x2 x10) <;> rfl
end
end Go.Px
end
section
namespace Go.Px
set_option maxRecDepth 100000
section
variable (N : Nat) (s : ByteArray) (a1 a2 a3 a4 a5 a6 a7 a9 a10 a11 a12 : Int) (a8 : Bool) (La : Rows) (L14 L16 L17 L19 L24 : Rows) (b18 b20 : Bool) (x0 x1 x2 x3 x4 x5 x6 x7 x8 x9 x10 x11 x12 x13 x15 x21 x22 x23 x25 x26 x27 : Int)
def W1 (a4 x10 x11 : Int) : Int := IntKind.i64.wrap (IntKind.i64.wrap (x10 * a4) + x11)
end
end Go.Px
end
section
namespace Go.Px
set_option maxRecDepth 100000
def BA (r : Rul) : Int := JP r.name r.side r.innings r.overs r.balls r.quota r.wide r.noball r.newball r.followon r.reviews r.outside r.power
theorem CN {N : Nat} {r1 r2 r3 r4 r5 r6 r7 r9 r10 r11 r12 : Int} {r8 : Bool} {r0 : ByteArray} {r13 : Rows} (hN : 2097152 < N) (hs : r0.size ≤ 1048576) : AL N [.str r0, .int r1, .int r2, .int r3, .int r4, .int r5, .int r6, .int r7, .bool r8, .int r9, .int r10, .int r11, .int r12, .rows r13] = some [.int (BA (⟨r0, r1, r2, r3, r4, r5, r6, r7, r8, r9, r10, r11, r12, r13⟩ : Rul))] := by
 exact Pi N _ _ _ _ _ _ _ _ _ _ _ _ _ _ hN hs
theorem PC {N : Nat} {s0 s1 s2 s3 s4 s5 s6 s7 s8 s9 s10 s11 s12 s13 s15 s21 s22 s23 s25 s26 s27 : Int} {s18 s20 : Bool} {s14 s16 s17 s19 s24 : Rows} (h : Fit s14 s16 s17 s19 s24) : Bt N [.int s0, .int s1, .int s2, .int s3, .int s4, .int s5, .int s6, .int s7, .int s8, .int s9, .int s10, .int s11, .int s12, .int s13, .rows s14, .int s15, .rows s16, .rows s17, .bool s18, .rows s19, .bool s20, .int s21, .int s22, .int s23, .rows s24, .int s25, .int s26, .int s27] = some [.int s0, .int s1, .int s2, .int s3, .int s4, .int s5, .int s6, .int s7, .int s8, .int s9, .int s10, .int s11, .int s12, .int s13, .rows s14, .int s15, .rows s16, .rows s17, .bool s18, .rows s19, .bool s20, .int s21, .int s22, .int s23, .rows s24, .int s25, .int s26, .int s27] := by
 show LQ (std (GF N) N) (xOf _) = _
 simp only [LQ, JS, K6, KS, std, xOf, PXb, PXc, PXn, PXm, Nat.reduceAdd, Int.reduceBEq, AM, AU, AQ, A8 h.bt (show 1 ≤ 4096 by omega), A8 h.bw' (show 8 ≤ 4096 by omega), A8 h.bf (show 8 ≤ 4096 by omega), A8 h.bd (show 8 ≤ 4096 by omega), A8 h.sb (show 1 ≤ 4096 by omega)]
theorem O1 {N : Nat} {s0 s1 s2 s3 s4 s5 s6 s7 s8 s9 s10 s11 s12 s13 s15 s21 s22 s23 s25 s26 s27 : Int} {s18 s20 : Bool} {s14 s16 s17 s19 s24 : Rows} (h : Fit s14 s16 s17 s19 s24) : B1 N [.int s0, .int s1, .int s2, .int s3, .int s4, .int s5, .int s6, .int s7, .int s8, .int s9, .int s10, .int s11, .int s12, .int s13, .rows s14, .int s15, .rows s16, .rows s17, .bool s18, .rows s19, .bool s20, .int s21, .int s22, .int s23, .rows s24, .int s25, .int s26, .int s27] = some [.int s0, .int s1, .int s2, .int s3, .int s4, .int s5, .int s6, .int s7, .int s8, .int s9, .int s10, .int s11, .int s12, .int s13, .rows s14, .int s15, .rows s16, .rows s17, .bool s18, .rows s19, .bool s20, .int s21, .int s22, .int s23, .rows s24, .int s25, .int s26, .int s27] := by
 show LF (std (GL N) N) (xOf _) = _
 simp only [LF, JR, K2, KO, std, xOf, PXb, PXc, PXn, PXm, Nat.reduceAdd, Int.reduceBEq, AM, AU, AQ, A8 h.bt (show 1 ≤ 4096 by omega), A8 h.bw' (show 8 ≤ 4096 by omega), A8 h.bf (show 8 ≤ 4096 by omega), A8 h.bd (show 8 ≤ 4096 by omega), A8 h.sb (show 1 ≤ 4096 by omega)]
theorem Bc {N : Nat} {s0 s1 s2 s3 s4 s5 s6 s7 s8 s9 s10 s11 s12 s13 s15 s21 s22 s23 s25 s26 s27 : Int} {s18 s20 : Bool} {s14 s16 s17 s19 s24 : Rows} (h : Fit s14 s16 s17 s19 s24) : AK N [.int s0, .int s1, .int s2, .int s3, .int s4, .int s5, .int s6, .int s7, .int s8, .int s9, .int s10, .int s11, .int s12, .int s13, .rows s14, .int s15, .rows s16, .rows s17, .bool s18, .rows s19, .bool s20, .int s21, .int s22, .int s23, .rows s24, .int s25, .int s26, .int s27] = some [.int s0, .int s1, .int s2, .int s3, .int s4, .int s5, .int s6, .int s7, .int s8, .int s9, .int s10, .int s11, .int s12, .int s13, .rows s14, .int s15, .rows s16, .rows s17, .bool s18, .rows s19, .bool s20, .int s21, .int s22, .int s23, .rows s24, .int s25, .int s26, .int s27] := by
 show Gv (std (DP N) N) (xOf _) = _
 simp only [Gv, Hp, JD, IC, std, xOf, PXb, PXc, PXn, PXm, Nat.reduceAdd, Int.reduceBEq, AM, AU, AQ, A8 h.bt (show 1 ≤ 4096 by omega), A8 h.bw' (show 8 ≤ 4096 by omega), A8 h.bf (show 8 ≤ 4096 by omega), A8 h.bd (show 8 ≤ 4096 by omega), A8 h.sb (show 1 ≤ 4096 by omega)]
theorem L0 {N : Nat} {s0 s1 s2 s3 s4 s5 s6 s7 s8 s9 s10 s11 s12 s13 s15 s21 s22 s23 s25 s26 s27 : Int} {s18 s20 : Bool} {s14 s16 s17 s19 s24 : Rows} {p : Int}  : BO N [.int s0, .int s1, .int s2, .int s3, .int s4, .int s5, .int s6, .int s7, .int s8, .int s9, .int s10, .int s11, .int s12, .int s13, .rows s14, .int s15, .rows s16, .rows s17, .bool s18, .rows s19, .bool s20, .int s21, .int s22, .int s23, .rows s24, .int s25, .int s26, .int s27, .int p] = some [.bool (inR p s19.length)] := by
 show Ig (std (Oo N) N) (xOf _) = _
 simp only [Ig, std, xOf, PXb, PXc, PXn, PXm, Nat.reduceAdd, Int.reduceBEq]
 rfl
theorem GX {N : Nat} {s0 s1 s2 s3 s4 s5 s6 s7 s8 s9 s10 s11 s12 s13 s15 s21 s22 s23 s25 s26 s27 : Int} {s18 s20 : Bool} {s14 s16 s17 s19 s24 : Rows} {p : Int}  : Aj N [.int s0, .int s1, .int s2, .int s3, .int s4, .int s5, .int s6, .int s7, .int s8, .int s9, .int s10, .int s11, .int s12, .int s13, .rows s14, .int s15, .rows s16, .rows s17, .bool s18, .rows s19, .bool s20, .int s21, .int s22, .int s23, .rows s24, .int s25, .int s26, .int s27, .int p] = some [.bool (inR p s24.length)] := by
 show Im (std (OJ N) N) (xOf _) = _
 simp only [Im, std, xOf, PXb, PXc, PXn, PXm, Nat.reduceAdd, Int.reduceBEq]
 rfl
def atB (L : Rows) (i j : Nat) : Bool := pvB (AH L i j)
theorem cO (L : Rows) (i j : Nat) : pvB (AH L i j) = atB L i j := rfl
def F3 (s : Inn) (p : Int) : Bool := inR p s.subs.length && atB s.subs (ix p) 0
theorem Fv {N : Nat} {s0 s1 s2 s3 s4 s5 s6 s7 s8 s9 s10 s11 s12 s13 s15 s21 s22 s23 s25 s26 s27 : Int} {s18 s20 : Bool} {s14 s16 s17 s19 s24 : Rows} {p : Int} (h : s24.length ≤ 1048576) : Ai N [.int s0, .int s1, .int s2, .int s3, .int s4, .int s5, .int s6, .int s7, .int s8, .int s9, .int s10, .int s11, .int s12, .int s13, .rows s14, .int s15, .rows s16, .rows s17, .bool s18, .rows s19, .bool s20, .int s21, .int s22, .int s23, .rows s24, .int s25, .int s26, .int s27, .int p] = some [.bool (F3 (⟨s0, s1, s2, s3, s4, s5, s6, s7, s8, s9, s10, s11, s12, s13, s14, s15, s16, s17, s18, s19, s20, s21, s22, s23, s24, s25, s26, s27⟩ : Inn) p)] := by
 show Fz (std (HT N) N) (xOf _) = _
 generalize hres : (some [.bool (F3 (⟨s0, s1, s2, s3, s4, s5, s6, s7, s8, s9, s10, s11, s12, s13, s14, s15, s16, s17, s18, s19, s20, s21, s22, s23, s24, s25, s26, s27⟩ : Inn) p)] : Option (List PV)) = RR
 simp only [Fz, Kc, std, xOf, PXb, PXc, PXn, PXm, Nat.reduceAdd, Int.reduceBEq, GX, dL h]
 subst hres; simp only [F3]
 cases hp : inR p s24.length with
 | false => rfl
 | true => first | rfl | (rw [Ip hp h]; rfl)
def Zj (x : Int) : Int := cond (iLt x 0) 0 x
def UG (r : Rul) (s : Inn) (p : Int) : Int :=
 cond (!inR p s.bowled.length || !(BA r == 0)) 0 (cond (r.quota == 0) (-1) (Zj (IntKind.i64.wrap (IntKind.i64.wrap (r.quota * r.balls) - Zj (atI s.bowled (ix p) 0)))))
theorem XA {N : Nat} {r1 r2 r3 r4 r5 r6 r7 r9 r10 r11 r12 : Int} {r8 : Bool} {r0 : ByteArray} {r13 : Rows} {s0 s1 s2 s3 s4 s5 s6 s7 s8 s9 s10 s11 s12 s13 s15 s21 s22 s23 s25 s26 s27 : Int} {s18 s20 : Bool} {s14 s16 s17 s19 s24 : Rows} {p : Int} (h : Fit s14 s16 s17 s19 s24) (hN : 2097152 < N) (hs : r0.size ≤ 1048576) : HR N [.str r0, .int r1, .int r2, .int r3, .int r4, .int r5, .int r6, .int r7, .bool r8, .int r9, .int r10, .int r11, .int r12, .rows r13, .int s0, .int s1, .int s2, .int s3, .int s4, .int s5, .int s6, .int s7, .int s8, .int s9, .int s10, .int s11, .int s12, .int s13, .rows s14, .int s15, .rows s16, .rows s17, .bool s18, .rows s19, .bool s20, .int s21, .int s22, .int s23, .rows s24, .int s25, .int s26, .int s27, .int p] = some [.int (UG (⟨r0, r1, r2, r3, r4, r5, r6, r7, r8, r9, r10, r11, r12, r13⟩ : Rul) (⟨s0, s1, s2, s3, s4, s5, s6, s7, s8, s9, s10, s11, s12, s13, s14, s15, s16, s17, s18, s19, s20, s21, s22, s23, s24, s25, s26, s27⟩ : Inn) p)] := by
 show Jm (std (Hj N) N) (xOf _) = _
 generalize hres : (some [.int (UG (⟨r0, r1, r2, r3, r4, r5, r6, r7, r8, r9, r10, r11, r12, r13⟩ : Rul) (⟨s0, s1, s2, s3, s4, s5, s6, s7, s8, s9, s10, s11, s12, s13, s14, s15, s16, s17, s18, s19, s20, s21, s22, s23, s24, s25, s26, s27⟩ : Inn) p)] : Option (List PV)) = RR
 simp only [Jm, Nm, NL, std, xOf, PXb, PXc, PXn, PXm, Nat.reduceAdd, Int.reduceBEq, CN hN hs, L0]
 subst hres; simp only [UG]
 cases hp : inR p s19.length with
 | false => rfl
 | true => rw [Ip hp h.bd]; cases BA (⟨r0, r1, r2, r3, r4, r5, r6, r7, r8, r9, r10, r11, r12, r13⟩ : Rul) == 0 <;> cases r5 == 0 <;> rfl
theorem JQ {N : Nat} {L : Rows} {v : Int} (hN : 2097152 < N) (hl : L.length ≤ 1048576) : Ab N [.rows L, .int v] = some [.bool (Hz L L.length v)] := by
 exact IQ N L v (by omega) (by omega)
def NG (r : Rul) (s : Inn) (p : Int) : Int :=
  cond (!inR p s.bowled.length || !(BA r == 0)) 3 (cond (p == s.keeper || p == s.bowler || F3 s p) 7
    (cond (Hz s.before s.before.length p) 8 (cond (!(UG r s p == -1) && iLt s.inover (IntKind.i64.wrap (r.balls - UG r s p))) 9 0)))
theorem ab {p : Int} {n m : Nat} (h : inR p n = true) : inR p m = iLe p (m : Int) := by
 unfold inR at h ⊢
 rw [Bool.and_eq_true] at h
 rw [h.1, Bool.true_and]
theorem YX {N : Nat} {r1 r2 r3 r4 r5 r6 r7 r9 r10 r11 r12 : Int} {r8 : Bool} {r0 : ByteArray} {r13 : Rows} {s0 s1 s2 s3 s4 s5 s6 s7 s8 s9 s10 s11 s12 s13 s15 s21 s22 s23 s25 s26 s27 : Int} {s18 s20 : Bool} {s14 s16 s17 s19 s24 : Rows} {p : Int} (h : Fit s14 s16 s17 s19 s24) (hN : 2097152 < N) (hs : r0.size ≤ 1048576) : IU N [.str r0, .int r1, .int r2, .int r3, .int r4, .int r5, .int r6, .int r7, .bool r8, .int r9, .int r10, .int r11, .int r12, .rows r13, .int s0, .int s1, .int s2, .int s3, .int s4, .int s5, .int s6, .int s7, .int s8, .int s9, .int s10, .int s11, .int s12, .int s13, .rows s14, .int s15, .rows s16, .rows s17, .bool s18, .rows s19, .bool s20, .int s21, .int s22, .int s23, .rows s24, .int s25, .int s26, .int s27, .int p] = some [.int (NG (⟨r0, r1, r2, r3, r4, r5, r6, r7, r8, r9, r10, r11, r12, r13⟩ : Rul) (⟨s0, s1, s2, s3, s4, s5, s6, s7, s8, s9, s10, s11, s12, s13, s14, s15, s16, s17, s18, s19, s20, s21, s22, s23, s24, s25, s26, s27⟩ : Inn) p)] := by
 show LH (std (EN N) N) (xOf _) = _
 generalize hres : (some [.int (NG (⟨r0, r1, r2, r3, r4, r5, r6, r7, r8, r9, r10, r11, r12, r13⟩ : Rul) (⟨s0, s1, s2, s3, s4, s5, s6, s7, s8, s9, s10, s11, s12, s13, s14, s15, s16, s17, s18, s19, s20, s21, s22, s23, s24, s25, s26, s27⟩ : Inn) p)] : Option (List PV)) = RR
 simp only [LH, N3, JX, N6, PD, std, xOf, PXb, PXc, PXn, PXm, Nat.reduceAdd, Int.reduceBEq, CN hN hs, L0, XA h hN hs, JQ hN h.bf]
 subst hres; simp only [NG, F3]
 cases hp : inR p s19.length with
 | false => rfl
 | true =>
  rw [ab (m := s24.length) hp]
  have hq : (!(iLe p (s24.length : Int)) || iIn (IntKind.i64.wrap (p - 1)) (s24.length : Int)) = true := by
   cases h1 : iLe p (s24.length : Int) with
   | false => rfl
   | true => rw [Ip (by rw [ab hp]; exact h1) h.sb]; rfl
  rw [hq]
  cases BA (⟨r0, r1, r2, r3, r4, r5, r6, r7, r8, r9, r10, r11, r12, r13⟩ : Rul) == 0 <;> rfl
def SN (r : Rul) (s : Inn) (p : Int) : Inn × Int := (cond (NG r s p == 0) { s with bowler := p } s, NG r s p)
theorem W9 {N : Nat} {r1 r2 r3 r4 r5 r6 r7 r9 r10 r11 r12 : Int} {r8 : Bool} {r0 : ByteArray} {r13 : Rows} {s0 s1 s2 s3 s4 s5 s6 s7 s8 s9 s10 s11 s12 s13 s15 s21 s22 s23 s25 s26 s27 : Int} {s18 s20 : Bool} {s14 s16 s17 s19 s24 : Rows} {p : Int} (h : Fit s14 s16 s17 s19 s24) (hN : 2097152 < N) (hs : r0.size ≤ 1048576) : HI N [.str r0, .int r1, .int r2, .int r3, .int r4, .int r5, .int r6, .int r7, .bool r8, .int r9, .int r10, .int r11, .int r12, .rows r13, .int s0, .int s1, .int s2, .int s3, .int s4, .int s5, .int s6, .int s7, .int s8, .int s9, .int s10, .int s11, .int s12, .int s13, .rows s14, .int s15, .rows s16, .rows s17, .bool s18, .rows s19, .bool s20, .int s21, .int s22, .int s23, .rows s24, .int s25, .int s26, .int s27, .int p] = some (Ax (SN (⟨r0, r1, r2, r3, r4, r5, r6, r7, r8, r9, r10, r11, r12, r13⟩ : Rul) (⟨s0, s1, s2, s3, s4, s5, s6, s7, s8, s9, s10, s11, s12, s13, s14, s15, s16, s17, s18, s19, s20, s21, s22, s23, s24, s25, s26, s27⟩ : Inn) p)) := by
 show KG (std (Hw N) N) (xOf _) = _
 generalize hres : (some (Ax (SN (⟨r0, r1, r2, r3, r4, r5, r6, r7, r8, r9, r10, r11, r12, r13⟩ : Rul) (⟨s0, s1, s2, s3, s4, s5, s6, s7, s8, s9, s10, s11, s12, s13, s14, s15, s16, s17, s18, s19, s20, s21, s22, s23, s24, s25, s26, s27⟩ : Inn) p)) : Option (List PV)) = RR
 simp only [KG, Ox, O0, std, xOf, PXb, PXc, PXn, PXm, Nat.reduceAdd, Int.reduceBEq, PC h, YX h hN hs]
 subst hres; simp only [SN]
 cases NG (⟨r0, r1, r2, r3, r4, r5, r6, r7, r8, r9, r10, r11, r12, r13⟩ : Rul) (⟨s0, s1, s2, s3, s4, s5, s6, s7, s8, s9, s10, s11, s12, s13, s14, s15, s16, s17, s18, s19, s20, s21, s22, s23, s24, s25, s26, s27⟩ : Inn) p == 0 <;> rfl
def bU (x : Inn × Bool) : List PV := [.int x.1.side, .int x.1.target, .int x.1.overs, .int x.1.runs, .int x.1.wickets, .int x.1.wides, .int x.1.noballs, .int x.1.byes, .int x.1.legbyes, .int x.1.pens, .int x.1.complete, .int x.1.inover, .int x.1.striker, .int x.1.other, .rows x.1.batters, .int x.1.bowler, .rows x.1.bowlers, .rows x.1.before, .bool x.1.fresh, .rows x.1.bowled, .bool x.1.freehit, .int x.1.ballage, .int x.1.keeper, .int x.1.outside, .rows x.1.subs, .int x.1.rev1, .int x.1.rev2, .int x.1.ending, .bool x.2]
def inc (x : Int) : Int := IntKind.i64.wrap (x + 1)
def Is (r : Rul) (s : Inn) (counts : Bool) : Inn × Bool :=
  cond (!inR s.bowler s.bowled.length || !(BA r == 0)) (s, false)
    (let L := cond (Hz s.bowlers s.bowlers.length s.bowler) s.bowlers (s.bowlers ++ [[.int s.bowler]])
     let o := cond counts (inc s.inover) s.inover
     let t : Inn := { s with bowlers := L, bowled := cond counts (LA s.bowled s.bowler (inc (atI s.bowled (ix s.bowler) 0))) s.bowled, inover := o, ballage := cond counts (inc s.ballage) s.ballage }
     cond (iLt o r.balls) (t, false) ({ t with complete := inc s.complete, inover := 0, before := L, bowlers := [], bowler := 0 }, true))
theorem Xv {N : Nat} {r1 r2 r3 r4 r5 r6 r7 r9 r10 r11 r12 : Int} {r8 : Bool} {r0 : ByteArray} {r13 : Rows} {s0 s1 s2 s3 s4 s5 s6 s7 s8 s9 s10 s11 s12 s13 s15 s21 s22 s23 s25 s26 s27 : Int} {s18 s20 : Bool} {s14 s16 s17 s19 s24 : Rows} {b : Bool} (h : Fit s14 s16 s17 s19 s24) (hw : s16.length ≤ 1048575) (hN : 2097152 < N) (hs : r0.size ≤ 1048576) : HE N [.str r0, .int r1, .int r2, .int r3, .int r4, .int r5, .int r6, .int r7, .bool r8, .int r9, .int r10, .int r11, .int r12, .rows r13, .int s0, .int s1, .int s2, .int s3, .int s4, .int s5, .int s6, .int s7, .int s8, .int s9, .int s10, .int s11, .int s12, .int s13, .rows s14, .int s15, .rows s16, .rows s17, .bool s18, .rows s19, .bool s20, .int s21, .int s22, .int s23, .rows s24, .int s25, .int s26, .int s27, .bool b] = some (bU (Is (⟨r0, r1, r2, r3, r4, r5, r6, r7, r8, r9, r10, r11, r12, r13⟩ : Rul) (⟨s0, s1, s2, s3, s4, s5, s6, s7, s8, s9, s10, s11, s12, s13, s14, s15, s16, s17, s18, s19, s20, s21, s22, s23, s24, s25, s26, s27⟩ : Inn) b)) := by
 show Ju (std (Db N) N) (xOf _) = _
 generalize hres : (some (bU (Is (⟨r0, r1, r2, r3, r4, r5, r6, r7, r8, r9, r10, r11, r12, r13⟩ : Rul) (⟨s0, s1, s2, s3, s4, s5, s6, s7, s8, s9, s10, s11, s12, s13, s14, s15, s16, s17, s18, s19, s20, s21, s22, s23, s24, s25, s26, s27⟩ : Inn) b)) : Option (List PV)) = RR
 have ha : (s16 ++ [[PV.int s15]]).length ≤ 1048576 := by simp; omega
 simp only [Ju, NS, I4, Oz, Ns, std, xOf, PXb, PXc, PXn, PXm, Nat.reduceAdd, Int.reduceBEq, PC h, L0, CN hN hs, JQ hN h.bw', dH ha (show 8 ≤ 4096 by omega)]
 subst hres; simp only [Is]
 cases hp : inR s15 s19.length with
 | false => rfl
 | true =>
  rw [Ip hp h.bd]
  cases BA (⟨r0, r1, r2, r3, r4, r5, r6, r7, r8, r9, r10, r11, r12, r13⟩ : Rul) == 0 <;> try rfl
  cases Hz s16 s16.length s15 <;> cases b <;> simp only [PXb, PXc, PXn, PXm, Nat.reduceAdd, Int.reduceBEq, inc]
  all_goals first | (cases iLt s11 r4 <;> rfl) | (cases iLt (IntKind.i64.wrap (s11 + 1)) r4 <;> rfl)
def Kk (r : Rul) (s : Inn) : Inn × Int :=
 cond (!(BA r == 0) || r.newball == 0 || iLt s.ballage (IntKind.i64.wrap (r.newball * r.balls))) (s, 22) ({ s with ballage := 0 }, 0)
theorem U7 {N : Nat} {r1 r2 r3 r4 r5 r6 r7 r9 r10 r11 r12 : Int} {r8 : Bool} {r0 : ByteArray} {r13 : Rows} {s0 s1 s2 s3 s4 s5 s6 s7 s8 s9 s10 s11 s12 s13 s15 s21 s22 s23 s25 s26 s27 : Int} {s18 s20 : Bool} {s14 s16 s17 s19 s24 : Rows} (h : Fit s14 s16 s17 s19 s24) (hN : 2097152 < N) (hs : r0.size ≤ 1048576) : EP N [.str r0, .int r1, .int r2, .int r3, .int r4, .int r5, .int r6, .int r7, .bool r8, .int r9, .int r10, .int r11, .int r12, .rows r13, .int s0, .int s1, .int s2, .int s3, .int s4, .int s5, .int s6, .int s7, .int s8, .int s9, .int s10, .int s11, .int s12, .int s13, .rows s14, .int s15, .rows s16, .rows s17, .bool s18, .rows s19, .bool s20, .int s21, .int s22, .int s23, .rows s24, .int s25, .int s26, .int s27] = some (Ax (Kk (⟨r0, r1, r2, r3, r4, r5, r6, r7, r8, r9, r10, r11, r12, r13⟩ : Rul) (⟨s0, s1, s2, s3, s4, s5, s6, s7, s8, s9, s10, s11, s12, s13, s14, s15, s16, s17, s18, s19, s20, s21, s22, s23, s24, s25, s26, s27⟩ : Inn))) := by
 show G1 (std (FE N) N) (xOf _) = _
 generalize hres : (some (Ax (Kk (⟨r0, r1, r2, r3, r4, r5, r6, r7, r8, r9, r10, r11, r12, r13⟩ : Rul) (⟨s0, s1, s2, s3, s4, s5, s6, s7, s8, s9, s10, s11, s12, s13, s14, s15, s16, s17, s18, s19, s20, s21, s22, s23, s24, s25, s26, s27⟩ : Inn))) : Option (List PV)) = RR
 simp only [G1, Lh, Ml, std, xOf, PXb, PXc, PXn, PXm, Nat.reduceAdd, Int.reduceBEq, PC h, CN hN hs]
 subst hres; simp only [Kk]
 cases (!(BA (⟨r0, r1, r2, r3, r4, r5, r6, r7, r8, r9, r10, r11, r12, r13⟩ : Rul) == 0) || r9 == 0 || iLt s21 (IntKind.i64.wrap (r9 * r4))) <;> rfl
end Go.Px
end
section
namespace Go.Px
set_option maxRecDepth 100000
def Wy (r : Rul) (over : Int) : Int :=
 match BP (fun i => cond (iLe (atI r.power i 0) (inc over) && iLe (inc over) (atI r.power i 1)) (some [.int (atI r.power i 2)]) none) r.power.length 0 with
 | some x => pvI (AE x 0)
 | none => r.outside
theorem U1 {N : Nat} {r1 r2 r3 r4 r5 r6 r7 r9 r10 r11 r12 : Int} {r8 : Bool} {r0 : ByteArray} {r13 : Rows} {o : Int} (hN : 2097152 < N) (h13 : r13.length ≤ 1048576) : EX N [.str r0, .int r1, .int r2, .int r3, .int r4, .int r5, .int r6, .int r7, .bool r8, .int r9, .int r10, .int r11, .int r12, .rows r13, .int o] = some [.int (Wy (⟨r0, r1, r2, r3, r4, r5, r6, r7, r8, r9, r10, r11, r12, r13⟩ : Rul) o)] := by
 show Gp (std (MY N) N) (xOf _) = _
 simp only [Gp, std, xOf, PXb, PXc, PXn, AJ]
 refine Af (CQ (len := r13.length) (fun i => cond (iLe (atI r13 i 0) (inc o) && iLe (inc o) (atI r13 i 1)) (some [.int (atI r13 i 2)]) none) ?_ ?_ r13.length 0 N (by omega) (by omega)) ?_
 ·intro self
  simp only [PXb, PXc, PXn, AJ, B0]
 ·intro i self hi
  simp only [PXb, PXc, PXn, AJ, Al (show i ≤ 1099511627776 by omega), BH hi, Am hi]
  cases hq : iLe (atI r13 i 0) (inc o) && iLe (inc o) (atI r13 i 1) <;> unfold inc atI at hq <;> rw [hq] <;> rfl
 ·unfold Wy
  cases BP (fun i => cond (iLe (atI r13 i 0) (inc o) && iLe (inc o) (atI r13 i 1)) (some [.int (atI r13 i 2)]) none) r13.length 0 <;> rfl
def NA (s : Inn) (p : Int) : Inn × Int :=
 cond (!inR p s.subs.length) (s, 3) (cond (F3 s p) (s, 18) (cond (p == s.bowler || p == s.keeper) (s, 17) ({ s with keeper := p }, 0)))
theorem Vg {N : Nat} {s0 s1 s2 s3 s4 s5 s6 s7 s8 s9 s10 s11 s12 s13 s15 s21 s22 s23 s25 s26 s27 : Int} {s18 s20 : Bool} {s14 s16 s17 s19 s24 : Rows} {p : Int} (h : Fit s14 s16 s17 s19 s24) : FM N [.int s0, .int s1, .int s2, .int s3, .int s4, .int s5, .int s6, .int s7, .int s8, .int s9, .int s10, .int s11, .int s12, .int s13, .rows s14, .int s15, .rows s16, .rows s17, .bool s18, .rows s19, .bool s20, .int s21, .int s22, .int s23, .rows s24, .int s25, .int s26, .int s27, .int p] = some (Ax (NA (⟨s0, s1, s2, s3, s4, s5, s6, s7, s8, s9, s10, s11, s12, s13, s14, s15, s16, s17, s18, s19, s20, s21, s22, s23, s24, s25, s26, s27⟩ : Inn) p)) := by
 show Hm (std (Dp N) N) (xOf _) = _
 generalize hres : (some (Ax (NA (⟨s0, s1, s2, s3, s4, s5, s6, s7, s8, s9, s10, s11, s12, s13, s14, s15, s16, s17, s18, s19, s20, s21, s22, s23, s24, s25, s26, s27⟩ : Inn) p)) : Option (List PV)) = RR
 simp only [Hm, Np, L3, KL, std, xOf, PXb, PXc, PXn, PXm, Nat.reduceAdd, Int.reduceBEq, O1 h, GX, Fv h.sb]
 subst hres; simp only [NA]
 cases inR p s24.length <;> cases F3 (⟨s0, s1, s2, s3, s4, s5, s6, s7, s8, s9, s10, s11, s12, s13, s14, s15, s16, s17, s18, s19, s20, s21, s22, s23, s24, s25, s26, s27⟩ : Inn) p <;> cases p == s15 <;> cases p == s22 <;> rfl
def Pl (s : Inn) (p : Int) (on : Bool) : Inn × Int :=
  cond (!inR p s.subs.length) (s, 3) (cond (F3 s p == on) (s, 18)
    ({ s with subs := bN s.subs p on, keeper := cond (on && s.keeper == p) 0 s.keeper, bowler := cond (on && s.bowler == p) 0 s.bowler }, 0))
theorem RX {N : Nat} {s0 s1 s2 s3 s4 s5 s6 s7 s8 s9 s10 s11 s12 s13 s15 s21 s22 s23 s25 s26 s27 : Int} {s18 s20 : Bool} {s14 s16 s17 s19 s24 : Rows} {p : Int} {b : Bool} (h : Fit s14 s16 s17 s19 s24) : Cs N [.int s0, .int s1, .int s2, .int s3, .int s4, .int s5, .int s6, .int s7, .int s8, .int s9, .int s10, .int s11, .int s12, .int s13, .rows s14, .int s15, .rows s16, .rows s17, .bool s18, .rows s19, .bool s20, .int s21, .int s22, .int s23, .rows s24, .int s25, .int s26, .int s27, .int p, .bool b] = some (Ax (Pl (⟨s0, s1, s2, s3, s4, s5, s6, s7, s8, s9, s10, s11, s12, s13, s14, s15, s16, s17, s18, s19, s20, s21, s22, s23, s24, s25, s26, s27⟩ : Inn) p b)) := by
 show Ef (std (CG N) N) (xOf _) = _
 generalize hres : (some (Ax (Pl (⟨s0, s1, s2, s3, s4, s5, s6, s7, s8, s9, s10, s11, s12, s13, s14, s15, s16, s17, s18, s19, s20, s21, s22, s23, s24, s25, s26, s27⟩ : Inn) p b)) : Option (List PV)) = RR
 simp only [Ef, Ko, Jt, IJ, std, xOf, PXb, PXc, PXn, PXm, Nat.reduceAdd, Int.reduceBEq, O1 h, GX, Fv h.sb]
 subst hres; simp only [Pl]
 cases hp : inR p s24.length <;> try rfl
 rw [Ip hp h.sb]
 cases F3 (⟨s0, s1, s2, s3, s4, s5, s6, s7, s8, s9, s10, s11, s12, s13, s14, s15, s16, s17, s18, s19, s20, s21, s22, s23, s24, s25, s26, s27⟩ : Inn) p == b <;> cases b <;> cases s22 == p <;> cases s15 == p <;> rfl
def Kj (s : Inn) (n : Int) : Inn × Int :=
 cond (iLt n 0 || iLt (IntKind.i64.wrap ((s.subs.length : Int) - 2)) n) (s, 16) ({ s with outside := n }, 0)
theorem VD {N : Nat} {s0 s1 s2 s3 s4 s5 s6 s7 s8 s9 s10 s11 s12 s13 s15 s21 s22 s23 s25 s26 s27 : Int} {s18 s20 : Bool} {s14 s16 s17 s19 s24 : Rows} {n : Int} (h : Fit s14 s16 s17 s19 s24) : Ek N [.int s0, .int s1, .int s2, .int s3, .int s4, .int s5, .int s6, .int s7, .int s8, .int s9, .int s10, .int s11, .int s12, .int s13, .rows s14, .int s15, .rows s16, .rows s17, .bool s18, .rows s19, .bool s20, .int s21, .int s22, .int s23, .rows s24, .int s25, .int s26, .int s27, .int n] = some (Ax (Kj (⟨s0, s1, s2, s3, s4, s5, s6, s7, s8, s9, s10, s11, s12, s13, s14, s15, s16, s17, s18, s19, s20, s21, s22, s23, s24, s25, s26, s27⟩ : Inn) n)) := by
 show Gn (std (Hx N) N) (xOf _) = _
 generalize hres : (some (Ax (Kj (⟨s0, s1, s2, s3, s4, s5, s6, s7, s8, s9, s10, s11, s12, s13, s14, s15, s16, s17, s18, s19, s20, s21, s22, s23, s24, s25, s26, s27⟩ : Inn) n)) : Option (List PV)) = RR
 simp only [Gn, Mj, std, xOf, PXb, PXc, PXn, PXm, Nat.reduceAdd, Int.reduceBEq, O1 h]
 subst hres; simp only [Kj]
 cases (iLt n 0 || iLt (IntKind.i64.wrap ((s24.length : Int) - 2)) n) <;> rfl
def SI (r : Rul) (s : Inn) : Int :=
 cond (!inR s.keeper s.subs.length || F3 s s.keeper || s.keeper == s.bowler) 17 (cond (iLt (Wy r s.complete) s.outside) 16 0)
theorem WX {N : Nat} {r1 r2 r3 r4 r5 r6 r7 r9 r10 r11 r12 : Int} {r8 : Bool} {r0 : ByteArray} {r13 : Rows} {s0 s1 s2 s3 s4 s5 s6 s7 s8 s9 s10 s11 s12 s13 s15 s21 s22 s23 s25 s26 s27 : Int} {s18 s20 : Bool} {s14 s16 s17 s19 s24 : Rows} (h : Fit s14 s16 s17 s19 s24) (hN : 2097152 < N) (h13 : r13.length ≤ 1048576) : GR N [.str r0, .int r1, .int r2, .int r3, .int r4, .int r5, .int r6, .int r7, .bool r8, .int r9, .int r10, .int r11, .int r12, .rows r13, .int s0, .int s1, .int s2, .int s3, .int s4, .int s5, .int s6, .int s7, .int s8, .int s9, .int s10, .int s11, .int s12, .int s13, .rows s14, .int s15, .rows s16, .rows s17, .bool s18, .rows s19, .bool s20, .int s21, .int s22, .int s23, .rows s24, .int s25, .int s26, .int s27] = some [.int (SI (⟨r0, r1, r2, r3, r4, r5, r6, r7, r8, r9, r10, r11, r12, r13⟩ : Rul) (⟨s0, s1, s2, s3, s4, s5, s6, s7, s8, s9, s10, s11, s12, s13, s14, s15, s16, s17, s18, s19, s20, s21, s22, s23, s24, s25, s26, s27⟩ : Inn))] := by
 show It (std (En N) N) (xOf _) = _
 generalize hres : (some [.int (SI (⟨r0, r1, r2, r3, r4, r5, r6, r7, r8, r9, r10, r11, r12, r13⟩ : Rul) (⟨s0, s1, s2, s3, s4, s5, s6, s7, s8, s9, s10, s11, s12, s13, s14, s15, s16, s17, s18, s19, s20, s21, s22, s23, s24, s25, s26, s27⟩ : Inn))] : Option (List PV)) = RR
 simp only [It, M1, Kw, Ln, std, xOf, PXb, PXc, PXn, PXm, Nat.reduceAdd, Int.reduceBEq, GX, Fv h.sb, U1 hN h13]
 subst hres; simp only [SI]
 cases inR s22 s24.length <;> cases F3 (⟨s0, s1, s2, s3, s4, s5, s6, s7, s8, s9, s10, s11, s12, s13, s14, s15, s16, s17, s18, s19, s20, s21, s22, s23, s24, s25, s26, s27⟩ : Inn) s22 <;> cases s22 == s15 <;> rfl
def Rk (s : Inn) (d : Del) : Int :=
  cond (iLt 0 d.fielder && !inR d.fielder s.subs.length) 3 (cond (iLt 0 d.fielder && !(d.sub == F3 s d.fielder)) 18
    (cond (iLt 0 d.second && !inR d.second s.subs.length) 3 (cond (iLt 0 d.second && F3 s d.second) 18
      (cond (d.how == 4 && !(Zj d.fielder == s.keeper)) 17 0))))
theorem We {N : Nat} {s0 s1 s2 s3 s4 s5 s6 s7 s8 s9 s10 s11 s12 s13 s15 s21 s22 s23 s25 s26 s27 : Int} {s18 s20 : Bool} {s14 s16 s17 s19 s24 : Rows} {d0 d1 d2 d3 d4 d6 d7 d8 d9 d11 : Int} {d5 d10 : Bool} (h : Fit s14 s16 s17 s19 s24) : GK N [.int s0, .int s1, .int s2, .int s3, .int s4, .int s5, .int s6, .int s7, .int s8, .int s9, .int s10, .int s11, .int s12, .int s13, .rows s14, .int s15, .rows s16, .rows s17, .bool s18, .rows s19, .bool s20, .int s21, .int s22, .int s23, .rows s24, .int s25, .int s26, .int s27, .int d0, .int d1, .int d2, .int d3, .int d4, .bool d5, .int d6, .int d7, .int d8, .int d9, .bool d10, .int d11] = some [.int (Rk (⟨s0, s1, s2, s3, s4, s5, s6, s7, s8, s9, s10, s11, s12, s13, s14, s15, s16, s17, s18, s19, s20, s21, s22, s23, s24, s25, s26, s27⟩ : Inn) (⟨d0, d1, d2, d3, d4, d5, d6, d7, d8, d9, d10, d11⟩ : Del))] := by
 show Ie (std (Gy N) N) (xOf _) = _
 generalize hres : (some [.int (Rk (⟨s0, s1, s2, s3, s4, s5, s6, s7, s8, s9, s10, s11, s12, s13, s14, s15, s16, s17, s18, s19, s20, s21, s22, s23, s24, s25, s26, s27⟩ : Inn) (⟨d0, d1, d2, d3, d4, d5, d6, d7, d8, d9, d10, d11⟩ : Del))] : Option (List PV)) = RR
 simp only [Ie, Mv, Ky, std, xOf, PXb, PXc, PXn, PXm, Nat.reduceAdd, Int.reduceBEq, GX, Fv h.sb]
 subst hres; simp only [Rk, Zj, dN]
 cases iLt 0 d8 <;> cases iLt 0 d9 <;> cases inR d8 s24.length <;> cases inR d9 s24.length <;> cases d10 == F3 (⟨s0, s1, s2, s3, s4, s5, s6, s7, s8, s9, s10, s11, s12, s13, s14, s15, s16, s17, s18, s19, s20, s21, s22, s23, s24, s25, s26, s27⟩ : Inn) d8 <;> cases F3 (⟨s0, s1, s2, s3, s4, s5, s6, s7, s8, s9, s10, s11, s12, s13, s14, s15, s16, s17, s18, s19, s20, s21, s22, s23, s24, s25, s26, s27⟩ : Inn) d9 <;> rfl
end Go.Px
end
section
namespace Go.Px
set_option maxRecDepth 100000
structure Cre where
 batter : Int
 wides : Int
 noballs : Int
 byes : Int
 legbyes : Int
 bowler : Int
 counts : Bool
 faced : Bool
 wicket : Bool
 swap : Bool
def Cre.ls (c : Cre) : List PV := [.int c.batter, .int c.wides, .int c.noballs, .int c.byes, .int c.legbyes, .int c.bowler, .bool c.counts, .bool c.faced, .bool c.wicket, .bool c.swap]
def RK (d : Del) : Bool :=
  cond (d.type == 2) (d.source == 0 && !(d.boundary == 6)) (cond (d.source == 0) (d.runs == 0 && d.boundary == 0)
    (cond (d.boundary == 0) (iLt 0 d.runs) (cond (d.boundary == 6) (d.source == 1 && d.runs == 0) true)))
def J7 (d : Del) : Int :=
  cond (iLt d.type 1 || iLt 3 d.type || iLt 3 d.source || iLt 10 d.how || !btw d.sector 0 8) 11
    (cond (!btw d.runs 0 7 || !btw d.short 0 d.runs || (!(d.boundary == 0) && !(d.boundary == 4) && !(d.boundary == 6))) 12
      (cond (!RK d) 11 (cond (!(d.sector == 0) && !(d.source == 1) && !(d.how == 2)) 11 (cond (!(d.boundary == 0) && !(d.how == 0)) 11
        (cond (d.crossed && !(d.how == 6) && !(d.how == 8)) 11 0)))))
def IR (d : Del) : Bool :=
  cond (d.type == 2) (d.source == 0 && !(d.boundary == 6)) (cond (d.source == 0) (d.runs == 0 && d.boundary == 0)
    (cond (d.source == 1) (!(d.boundary == 6) || d.runs == 0) (!(d.boundary == 6) && (iLt 0 d.runs || !(d.boundary == 0)))))
theorem RA {N : Nat} {d0 d1 d2 d3 d4 d6 d7 d8 d9 d11 : Int} {d5 d10 : Bool}  : CX N [.int d0, .int d1, .int d2, .int d3, .int d4, .bool d5, .int d6, .int d7, .int d8, .int d9, .bool d10, .int d11] = some [.bool (IR (⟨d0, d1, d2, d3, d4, d5, d6, d7, d8, d9, d10, d11⟩ : Del))] := by
 show D3 (std (JM N) N) (xOf _) = _
 generalize hres : (some [.bool (IR (⟨d0, d1, d2, d3, d4, d5, d6, d7, d8, d9, d10, d11⟩ : Del))] : Option (List PV)) = RR
 simp only [D3, std, xOf, PXb, PXc, PXn, PXm, Nat.reduceAdd, Int.reduceBEq]
 subst hres; simp only [IR]
theorem dp (x a b : Int) : (!btw x a b) = (iLt x a || iLt b x) := by
 unfold btw iLe iLt
 rw [Bool.eq_iff_iff]
 simp only [Bool.not_eq_true', Bool.and_eq_false_iff, decide_eq_false_iff_not, Bool.or_eq_true, decide_eq_true_eq]
 omega
theorem bz {d : Del} (h : 0 ≤ d.runs) : (!IR d || !d.type == 2 && d.source == 1 && d.runs == 0 && d.boundary == 0) = !RK d := by
 unfold IR RK
 rw [cU h]
 cases h1 : d.source == 0 with
 | true =>
  rw [Vx h1 (c := 1) rfl]
  cases d.type == 2 <;> cases d.runs == 0 <;> cases d.boundary == 0 <;> cases d.boundary == 6 <;> rfl
 | false =>
  cases h2 : d.boundary == 0 with
  | true =>
   rw [Vx h2 (c := 6) rfl]
   cases d.type == 2 <;> cases d.source == 1 <;> cases d.runs == 0 <;> rfl
  | false => cases d.type == 2 <;> cases d.source == 1 <;> cases d.runs == 0 <;> cases d.boundary == 6 <;> rfl
theorem NM {N : Nat} {d0 d1 d2 d3 d4 d6 d7 d8 d9 d11 : Int} {d5 d10 : Bool}  : Bj N [.int d0, .int d1, .int d2, .int d3, .int d4, .bool d5, .int d6, .int d7, .int d8, .int d9, .bool d10, .int d11] = some [.int (J7 (⟨d0, d1, d2, d3, d4, d5, d6, d7, d8, d9, d10, d11⟩ : Del))] := by
 show F8 (std (HX N) N) (xOf _) = _
 generalize hres : (some [.int (J7 (⟨d0, d1, d2, d3, d4, d5, d6, d7, d8, d9, d10, d11⟩ : Del))] : Option (List PV)) = RR
 simp only [F8, H2, std, xOf, PXb, PXc, PXn, PXm, Nat.reduceAdd, Int.reduceBEq, RA]
 subst hres; simp only [J7, dp, Bool.or_assoc]
 cases h2 : (iLt d2 0 || (iLt 7 d2 || (iLt d3 0 || (iLt d2 d3 || !d4 == 0 && !d4 == 4 && !d4 == 6)))) with
 | true => rfl
 | false =>
  have h3 : 0 ≤ d2 := by
   rw [Bool.or_eq_false_iff] at h2
   have := h2.1
   simp only [iLt, decide_eq_false_iff_not] at this
   omega
  have := bz (d := (⟨d0, d1, d2, d3, d4, d5, d6, d7, d8, d9, d10, d11⟩ : Del)) h3
  simp only at this
  rw [this]
theorem Tb {N : Nat} {a : Int} {b : Int} {c : Int} {d : Int} {e : Int} {x : Int} {p : Bool} {q : Bool} {u : Bool} {v : Bool}  : Dn N [.int a, .int b, .int c, .int d, .int e, .int x, .bool p, .bool q, .bool u, .bool v] = some [.int (IntKind.i64.wrap (IntKind.i64.wrap (IntKind.i64.wrap (IntKind.i64.wrap (a + b) + c) + d) + e))] := by
 rfl
def Xn (c : Cre) : Int := IntKind.i64.wrap (IntKind.i64.wrap (IntKind.i64.wrap (IntKind.i64.wrap (c.batter + c.wides) + c.noballs) + c.byes) + c.legbyes)
def Ve (h : Int) : Bool := iLe 1 h && iLe h 5
theorem Q1 {N : Nat} {h : Int}  : Ca N [.int h] = some [.bool (Ve h)] := by
 show D2 (std (JN N) N) (xOf _) = _
 simp only [D2, std, xOf, PXb, PXc, PXn, PXm, Nat.reduceAdd, Int.reduceBEq, Ve]
def br (r : Rul) (d : Del) : Cre :=
  let n := IntKind.i64.wrap (IntKind.i64.wrap (d.runs - d.short) + d.boundary)
  let b := cond (!(d.type == 2) && d.source == 1) n 0
  let w := cond (d.type == 2) (IntKind.i64.wrap (r.wide + n)) 0
  let o := cond (d.type == 3) r.noball 0
  { batter := b, wides := w, noballs := o, byes := cond (!(d.type == 2) && d.source == 2) n 0, legbyes := cond (!(d.type == 2) && d.source == 3) n 0, bowler := IntKind.i64.wrap (IntKind.i64.wrap (b + w) + o),
    counts := d.type == 1, faced := !(d.type == 2), wicket := Ve d.how, swap := !((!(d.runs.tmod 2 == 0)) == d.crossed) }
def EH (r : Rul) (d : Del) : Cre := cond (!(J7 d == 0)) ⟨0, 0, 0, 0, 0, 0, false, false, false, false⟩ (br r d)
theorem Zc {d : Del} (h : (J7 d == 0) = true) : 0 ≤ d.runs ∧ d.runs ≤ 7 := by
 unfold J7 at h
 cases h1 : (iLt d.type 1 || iLt 3 d.type || iLt 3 d.source || iLt 10 d.how || !btw d.sector 0 8) with
 | true => rw [h1] at h; cases h
 | false =>
  cases h2 : (!btw d.runs 0 7 || !btw d.short 0 d.runs || (!(d.boundary == 0) && !(d.boundary == 4) && !(d.boundary == 6))) with
  | true => rw [h1, h2] at h; cases h
  | false =>
   rw [Bool.or_eq_false_iff, Bool.or_eq_false_iff] at h2
   have := h2.1.1
   simp only [btw, iLe, Bool.not_eq_false', Bool.and_eq_true, decide_eq_true_eq] at this
   exact this
theorem cT {n : Int} (h : 0 ≤ n ∧ n ≤ 7) (b : Bool) : ((cond b (IntKind.i64.wrap (n + 1)) n).tmod 2 == 1) = !((!(n.tmod 2 == 0)) == b) := by
 obtain ⟨k, rfl⟩ : ∃ k : Nat, n = k := ⟨n.toNat, by omega⟩
 have : k = 0 ∨ k = 1 ∨ k = 2 ∨ k = 3 ∨ k = 4 ∨ k = 5 ∨ k = 6 ∨ k = 7 := by omega
 rcases this with h | h | h | h | h | h | h | h <;> subst h <;> cases b <;> rfl
theorem Sm {N : Nat} {r1 r2 r3 r4 r5 r6 r7 r9 r10 r11 r12 : Int} {r8 : Bool} {r0 : ByteArray} {r13 : Rows} {d0 d1 d2 d3 d4 d6 d7 d8 d9 d11 : Int} {d5 d10 : Bool}  : DG N [.str r0, .int r1, .int r2, .int r3, .int r4, .int r5, .int r6, .int r7, .bool r8, .int r9, .int r10, .int r11, .int r12, .rows r13, .int d0, .int d1, .int d2, .int d3, .int d4, .bool d5, .int d6, .int d7, .int d8, .int d9, .bool d10, .int d11] = some (EH (⟨r0, r1, r2, r3, r4, r5, r6, r7, r8, r9, r10, r11, r12, r13⟩ : Rul) (⟨d0, d1, d2, d3, d4, d5, d6, d7, d8, d9, d10, d11⟩ : Del)).ls := by
 show FF (std (D9 N) N) (xOf _) = _
 generalize hres : (some (EH (⟨r0, r1, r2, r3, r4, r5, r6, r7, r8, r9, r10, r11, r12, r13⟩ : Rul) (⟨d0, d1, d2, d3, d4, d5, d6, d7, d8, d9, d10, d11⟩ : Del)).ls : Option (List PV)) = RR
 simp only [FF, I6, Ht, std, xOf, PXb, PXc, PXn, PXm, Nat.reduceAdd, Int.reduceBEq, NM, Q1]
 subst hres; simp only [EH, br]
 cases hl : J7 (⟨d0, d1, d2, d3, d4, d5, d6, d7, d8, d9, d10, d11⟩ : Del) == 0 with
 | false => rfl
 | true =>
  have hs := cT (Zc hl) d5
  simp only at hs
  simp only [PXb, PXc, PXn, PXm, Nat.reduceAdd, Int.reduceBEq, hs]
  cases h0 : d0 == 2 <;> cases h3 : d0 == 3 <;> cases h1 : d1 == 1 <;> cases h2 : d1 == 2 <;> cases h4 : d1 == 3 <;> first
   | rfl
   | (rw [Vx h0 (c := 3) rfl] at h3; exact absurd h3 (by decide))
   | (rw [Vx h1 (c := 2) rfl] at h2; exact absurd h2 (by decide))
   | (rw [Vx h1 (c := 3) rfl] at h4; exact absurd h4 (by decide))
   | (rw [Vx h2 (c := 3) rfl] at h4; exact absurd h4 (by decide))
end Go.Px
end
section
namespace Go.Px
set_option maxRecDepth 100000
def onS (h t : Int) : Bool :=
 cond (h == 1 || h == 2 || h == 3) (t == 1) (cond (h == 4 || h == 5) (t == 1 || t == 2) (cond (h == 7) (t == 1 || t == 3) (cond (h == 6 || h == 8) (t == 1 || t == 2 || t == 3) false)))
def Ze (h : Int) : Bool := h == 6 || h == 7 || h == 8
def M6 (h : Int) : Bool := h == 6 || h == 8
def U6 (h : Int) : Bool := h == 2 || h == 4 || h == 6
def UE (d : Del) (free : Bool) : Int :=
  cond (d.how == 0) (cond (!(d.victim == 0)) 14 (cond (!(d.fielder == 0) || !(d.second == 0) || d.sub) 15 0))
    (cond (!onS d.how d.type || free && !Ze d.how) 13 (cond (!M6 d.how && (!(d.source == 0) || !(d.runs == 0))) 12
      (cond (!(d.victim == 1) && !(d.victim == 2 && M6 d.how)) 14
        (cond (U6 d.how && !btw d.fielder 1 11 || !U6 d.how && !(d.fielder == 0)) 15
          (cond (!(d.second == 0) && (!(d.how == 6) || !btw d.second 1 11 || d.second == d.fielder)) 15
            (cond (d.sub && !(d.how == 2) && !(d.how == 6)) 18 0))))))
def BL : Rows := match BE 0 [] with
 | some [.rows l] => l
 | _ => []
theorem ML {N : Nat} : BE N [] = some [.rows BL] := rfl
theorem TW : BL.length = 11 := rfl
theorem SH {N : Nat} {h : Int} {n : ByteArray} {b : Bool} {c : Bool} {d : Bool} {e : Bool} {x : Bool} {t : Int}  : Cr N [.int h, .str n, .bool b, .bool c, .bool d, .bool e, .bool x, .int t] = some [.bool (t == 1 && b || t == 2 && c || t == 3 && d)] := by
 show EZ (std (Jb N) N) (xOf _) = _
 simp only [EZ, std, xOf, PXb, PXc, PXn, PXm, Nat.reduceAdd, Int.reduceBEq]
theorem PG {N : Nat} {n : Int}  : Bz N [.int n] = some [.bool (btw n 1 11)] := by
 show Cg (std (HO N) N) (xOf _) = _
 simp only [Cg, std, xOf, PXb, PXc, PXn, PXm, Nat.reduceAdd, Int.reduceBEq]
 rfl
def ZJ (i j : Nat) : Bool := pvB (AH BL i j)
def wOk (t : Int) (free : Bool) (i : Nat) : Bool :=
  (t == 1 && ZJ i 2 || t == 2 && ZJ i 3 || t == 3 && ZJ i 4) && (!free || atI BL i 0 == 6 || atI BL i 0 == 7 || atI BL i 0 == 8)
def F1 (t : Int) (free : Bool) : Nat → Rows
 | 0 => []
 | i + 1 => cond (wOk t free i) (F1 t free i ++ [[.int (atI BL i 0)]]) (F1 t free i)
theorem Tn (t : Int) (free : Bool) : ∀ i, (F1 t free i).length ≤ i
 | 0 => Nat.le_refl _
 | i + 1 => by
  have := Tn t free i
  unfold F1
  cases wOk t free i
  ·exact Nat.le_succ_of_le this
  ·simp; exact this
theorem Tx {N : Nat} {t : Int} {f : Bool} (hN : 2097152 < N) : Ds N [.int t, .bool f] = some [.rows (F1 t f 11)] := by
 show F0 (std (Eh N) N) (xOf _) = _
 simp only [F0, JE, IL, std, xOf, PXb, PXc, PXn, AJ, ML, SH]
 refine Af (Nb (len := BL.length) (fun i => [.rows (F1 t f i), .int (i : Int)]) [.rows (F1 t f 11)] ?_ ?_ N (by rw [TW]; omega)) rfl
 ·intro self
  simp only [PXb, PXc, PXn, AJ, B0]
  rfl
 ·intro i self hi
  have hi2 : i < 11 := hi
  have h2 : (F1 t f i ++ [[PV.int (atI BL i 0)]]).length ≤ 4194304 := by have := Tn t f i; simp; omega
  simp only [PXb, PXc, AJ, Al (show i ≤ 1099511627776 by omega), BH hi, Am hi, Ce, F1, Jg h2 (show 1 ≤ 4096 by omega)]
  unfold wOk ZJ
  cases ((t == 1 && pvB (AH BL i 2) || t == 2 && pvB (AH BL i 3) || t == 3 && pvB (AH BL i 4)) && (!f || atI BL i 0 == 6 || atI BL i 0 == 7 || atI BL i 0 == 8)) <;> rfl
theorem Rx {N : Nat} {L : Rows} {v : Int} (hN : L.length < N) (hl : L.length ≤ 1048576) : Cw N [.rows L, .int v] = some [.int (L5 (fun j => v == atI L j 0) L.length)] := by
 show Er (std (Jf N) N) (xOf _) = _
 simp only [Er, std, xOf, PXb, PXc, PXn, AJ]
 refine Af (CQ (len := L.length) (E0 fun j => v == atI L j 0) ?_ ?_ L.length 0 N (by omega) (by omega)) ?_
 ·intro self
  simp only [PXb, PXc, PXn, AJ, B0]
 ·intro i self hi
  simp only [PXb, PXc, PXn, AJ, Al (show i ≤ 1099511627776 by omega), BH hi, Am hi, E0, Ce]
  cases v == atI L i 0 <;> rfl
 ·unfold L5
  cases BP (E0 fun j => v == atI L j 0) L.length 0 <;> rfl
theorem Pd {N : Nat} {L : Rows} {v : Int} (hN : L.length < N) (hl : L.length ≤ 1048576) : CC N [.rows L, .int v] = some [.bool (Hz L L.length v)] := by
 show C2 (std (EF N) N) (xOf _) = _
 simp only [C2, Gl, std, xOf, PXb, PXc, PXn, AJ, Rx hN hl, Ho, Hz]
theorem bQ (L : Rows) (v : Int) : Hz L L.length v = H6 (fun x => v == x) L := rfl
theorem dJ (p : Int → Bool) (b : Bool) (L : Rows) (x : Int) : H6 p (cond b (L ++ [[.int x]]) L) = (H6 p L || (b && p x)) := by
 cases b with
 | false => simp
 | true => rw [cond_true, YG, Bool.true_and]; congr 1; rw [Kn]; simp [AE, pvI]
theorem W3 (t : Int) (free : Bool) (p : Int → Bool) : ∀ i, H6 p (F1 t free i) = BF (fun j => wOk t free j && p (atI BL j 0)) i 0
 | 0 => rfl
 | i + 1 => by rw [RL, ← W3 t free p i, F1, dJ, Nat.zero_add]
theorem bA (t h : Int) (free : Bool) : Hz (F1 t free 11) (F1 t free 11).length h = (onS h t && (!free || Ze h)) := by
 rw [bQ, W3]
 have key : ∀ j, j < 11 → atI BL j 0 = j := by
  intro j hj
  have : j = 0 ∨ j = 1 ∨ j = 2 ∨ j = 3 ∨ j = 4 ∨ j = 5 ∨ j = 6 ∨ j = 7 ∨ j = 8 ∨ j = 9 ∨ j = 10 := by omega
  rcases this with h | h | h | h | h | h | h | h | h | h | h <;> subst h <;> rfl
 by_cases hr : 0 ≤ h ∧ h ≤ 10
 ·obtain ⟨k, rfl⟩ : ∃ k : Nat, h = k := ⟨h.toNat, by omega⟩
  have : k = 0 ∨ k = 1 ∨ k = 2 ∨ k = 3 ∨ k = 4 ∨ k = 5 ∨ k = 6 ∨ k = 7 ∨ k = 8 ∨ k = 9 ∨ k = 10 := by omega
  rcases this with h | h | h | h | h | h | h | h | h | h | h <;> subst h <;> simp only [BW, HN, wOk, onS] <;> cases free <;> cases t == 1 <;> cases t == 2 <;> cases t == 3 <;> rfl
 ·rw [Hi.2 fun j _ hj => by
   rw [key j (by omega), show (h == (j : Int)) = false from beq_false_of_ne (by omega), Bool.and_false]]
  have e : ∀ n : Int, 0 ≤ n → n ≤ 10 → (h == n) = false := fun n h0 h1 => beq_false_of_ne (by omega)
  unfold onS
  rw [e 1 (by omega) (by omega), e 2 (by omega) (by omega), e 3 (by omega) (by omega), e 4 (by omega) (by omega), e 5 (by omega) (by omega), e 6 (by omega) (by omega), e 7 (by omega) (by omega), e 8 (by omega) (by omega)]
  rfl
def QQ (h : Int) : List PV := match BP (fun i => cond (atI BL i 0 == h) (some [.int (pvI (AH BL i 0)), .str (pvS (AH BL i 1)), .bool (pvB (AH BL i 2)), .bool (pvB (AH BL i 3)), .bool (pvB (AH BL i 4)), .bool (pvB (AH BL i 5)), .bool (pvB (AH BL i 6))]) none) 11 0 with
 | some r => r
 | none => [.int 0, .str ⟨#[]⟩, .bool false, .bool false, .bool false, .bool false, .bool false]
theorem Mq {ans : Nat → Option (List PV)} {r : List PV} : ∀ (k i : Nat), BP ans k i = some r → ∃ j, i ≤ j ∧ j < i + k ∧ ans j = some r
 | 0, i, h => by cases h
 | k + 1, i, h => by
  simp only [BP] at h
  cases ha : ans i with
  | some x => rw [ha] at h; cases h; exact ⟨i, Nat.le_refl _, by omega, ha⟩
  | none =>
   rw [ha] at h
   obtain ⟨j, h1, h2, h3⟩ := Mq k (i + 1) h
   exact ⟨j, by omega, by omega, h3⟩
theorem bD (h : Int) : ∃ a b c d e f g, QQ h = [.int a, .str b, .bool c, .bool d, .bool e, .bool f, .bool g] := by
 unfold QQ
 generalize hf : BP _ 11 0 = o
 cases o with
 | none => exact ⟨_, _, _, _, _, _, _, rfl⟩
 | some r =>
  obtain ⟨j, _, _, h3⟩ := Mq _ _ hf
  cases hb : atI BL j 0 == h with
  | false => rw [hb] at h3; cases h3
  | true => rw [hb] at h3; cases h3; exact ⟨_, _, _, _, _, _, _, rfl⟩
theorem Vu {N : Nat} {h : Int} (hN : 2097152 < N) : Fg N [.int h] = some (QQ h) := by
 show Hl (std (I2 N) N) (xOf _) = _
 simp only [Hl, Je, std, xOf, PXb, PXc, PXn, AJ, ML]
 refine Af (CQ (len := BL.length) (fun i => cond (atI BL i 0 == h) (some [.int (pvI (AH BL i 0)), .str (pvS (AH BL i 1)), .bool (pvB (AH BL i 2)), .bool (pvB (AH BL i 3)), .bool (pvB (AH BL i 4)), .bool (pvB (AH BL i 5)), .bool (pvB (AH BL i 6))]) none) ?_ ?_ BL.length 0 N (by omega) (by rw [TW]; omega)) ?_
 ·intro self
  simp only [PXb, PXc, PXn, AJ, B0]
 ·intro i self hi
  have hi2 : i < 11 := hi
  simp only [PXb, PXc, PXn, AJ, Al (show i ≤ 1099511627776 by omega), BH hi, Am hi, Ce]
  cases atI BL i 0 == h <;> rfl
 ·unfold QQ
  rw [TW]
  generalize hf : BP _ 11 0 = o
  cases o with
  | none => rfl
  | some r =>
   obtain ⟨j, _, _, h3⟩ := Mq _ _ hf
   cases hb : atI BL j 0 == h with
   | false => rw [hb] at h3; cases h3
   | true => rw [hb] at h3; cases h3; rfl
theorem ac (h : Int) : pvB (AE (QQ h) 5) = U6 h ∧ pvB (AE (QQ h) 6) = M6 h := by
 by_cases hr : 0 ≤ h ∧ h ≤ 10
 ·obtain ⟨k, rfl⟩ : ∃ k : Nat, h = k := ⟨h.toNat, by omega⟩
  have : k = 0 ∨ k = 1 ∨ k = 2 ∨ k = 3 ∨ k = 4 ∨ k = 5 ∨ k = 6 ∨ k = 7 ∨ k = 8 ∨ k = 9 ∨ k = 10 := by omega
  rcases this with h | h | h | h | h | h | h | h | h | h | h <;> subst h <;> exact ⟨rfl, rfl⟩
 ·have e : ∀ n : Int, 0 ≤ n → n ≤ 10 → (h == n) = false := fun n h0 h1 => beq_false_of_ne (by omega)
  have key : ∀ j, j < 11 → atI BL j 0 = j := by
   intro j hj
   have : j = 0 ∨ j = 1 ∨ j = 2 ∨ j = 3 ∨ j = 4 ∨ j = 5 ∨ j = 6 ∨ j = 7 ∨ j = 8 ∨ j = 9 ∨ j = 10 := by omega
   rcases this with h | h | h | h | h | h | h | h | h | h | h <;> subst h <;> rfl
  unfold QQ
  generalize hf : BP _ 11 0 = o
  cases o with
  | none =>
   unfold U6 M6
   rw [e 2 (by omega) (by omega), e 4 (by omega) (by omega), e 6 (by omega) (by omega), e 8 (by omega) (by omega)]
   exact ⟨rfl, rfl⟩
  | some r =>
   obtain ⟨j, _, hj, h3⟩ := Mq _ _ hf
   rw [key j (by omega), show ((j : Int) == h) = false from beq_false_of_ne (by omega)] at h3
   cases h3
def Lj (d : Del) (m : Bool) : Bool :=
 !(!(m == btw d.fielder 1 11) || !m && !(d.fielder == 0)) && (d.second == 0 || d.how == 6 && btw d.second 1 11 && !(d.second == d.fielder))
theorem Py {N : Nat} {d0 d1 d2 d3 d4 d6 d7 d8 d9 d11 : Int} {d5 d10 : Bool} {a : Int} {n : ByteArray} {b : Bool} {c : Bool} {e : Bool} {f : Bool} {g : Bool}  : CH N [.int d0, .int d1, .int d2, .int d3, .int d4, .bool d5, .int d6, .int d7, .int d8, .int d9, .bool d10, .int d11, .int a, .str n, .bool b, .bool c, .bool e, .bool f, .bool g] = some [.bool (Lj (⟨d0, d1, d2, d3, d4, d5, d6, d7, d8, d9, d10, d11⟩ : Del) f)] := by
 show DU (std (E2 N) N) (xOf _) = _
 generalize hres : (some [.bool (Lj (⟨d0, d1, d2, d3, d4, d5, d6, d7, d8, d9, d10, d11⟩ : Del) f)] : Option (List PV)) = RR
 simp only [DU, Fo, std, xOf, PXb, PXc, PXn, PXm, Nat.reduceAdd, Int.reduceBEq, PG]
 subst hres; simp only [Lj]
 cases d9 == 0 <;> cases d6 == 6 <;> cases f <;> cases btw d8 1 11 <;> cases d8 == 0 <;> first | rfl | (cases btw d9 1 11 <;> rfl)
theorem dX {α : Type} (a b : Bool) (x y : α) : cond (a || b) x y = cond a x (cond b x y) := by cases a <;> rfl
theorem Yb (d : Del) (m : Bool) : (!Lj d m) = ((m && !btw d.fielder 1 11 || !m && !(d.fielder == 0)) || (!(d.second == 0) && (!(d.how == 6) || !btw d.second 1 11 || d.second == d.fielder))) := by
 unfold Lj
 cases hb : btw d.fielder 1 11 <;> cases hf : d.fielder == 0
 ·cases m <;> cases d.second == 0 <;> cases d.how == 6 <;> cases btw d.second 1 11 <;> cases d.second == d.fielder <;> rfl
 ·cases m <;> cases d.second == 0 <;> cases d.how == 6 <;> cases btw d.second 1 11 <;> cases d.second == d.fielder <;> rfl
 ·cases m <;> cases d.second == 0 <;> cases d.how == 6 <;> cases btw d.second 1 11 <;> cases d.second == d.fielder <;> rfl
 ·rw [beq_iff_eq.1 hf] at hb; exact absurd hb (by decide)
theorem P4 {N : Nat} {d0 d1 d2 d3 d4 d6 d7 d8 d9 d11 : Int} {d5 d10 : Bool} {f : Bool} (hN : 2097152 < N) : CE N [.int d0, .int d1, .int d2, .int d3, .int d4, .bool d5, .int d6, .int d7, .int d8, .int d9, .bool d10, .int d11, .bool f] = some [.int (UE (⟨d0, d1, d2, d3, d4, d5, d6, d7, d8, d9, d10, d11⟩ : Del) f)] := by
 show DW (std (BU N) N) (xOf _) = _
 generalize hres : (some [.int (UE (⟨d0, d1, d2, d3, d4, d5, d6, d7, d8, d9, d10, d11⟩ : Del) f)] : Option (List PV)) = RR
 have hl := Tn d0 f 11
 obtain ⟨a, b, c, d, e, m, g, hline⟩ := bD d6
 have hbits := ac d6
 rw [hline] at hbits
 have hm : m = U6 d6 := hbits.1
 have hg : g = M6 d6 := hbits.2
 have h1 : (F1 d0 f 11).length < N := by omega
 have h2 : (F1 d0 f 11).length ≤ 1048576 := by omega
 simp only [DW, IM, Fx, Hc, GQ, std, xOf, PXb, PXc, PXn, PXm, Nat.reduceAdd, Int.reduceBEq, Vu hN, hline, Tx hN, Pd h1 h2, bA, Py, Yb]
 subst hres; simp only [UE, dX]
 rw [hm, hg]
 unfold M6
 cases d6 == 0 <;> cases onS d6 d0 <;> cases f <;> cases Ze d6 <;> try rfl
 all_goals (cases d6 == 6 <;> cases d6 == 8 <;> cases d7 == 2 <;> rfl)
end Go.Px
end
section
namespace Go.Px
set_option maxRecDepth 100000
theorem Ru {N : Nat} {a : Int} {b : Int} {c : Int}  : Cp N [.int a, .int b, .int c] = some [.bool (btw a b c)] := by
 show G7 (std (Jj N) N) (xOf _) = _
 show some [PV.bool (cond (iLe b a) (iLe a c) false)] = _
 rw [Ur]; rfl
theorem Ue {N : Nat} {a : Int} {b : Int} {c : Int}  : Ei N [.int a, .int b, .int c] = some [.bool (btw a b c)] := by
 show KJ (std (MP N) N) (xOf _) = _
 show some [PV.bool (cond (iLe b a) (iLe a c) false)] = _
 rw [Ur]; rfl
def Wq (d : Del) : Int :=
  cond (iLt d.type 1 || iLt 3 d.type || iLt 3 d.source || iLt 10 d.how) 3
    (cond (!btw d.runs 0 7 || !btw d.short 0 d.runs || (!(d.boundary == 0) && !(d.boundary == 4) && !(d.boundary == 6)) || !btw d.victim 0 2 || !btw d.fielder 0 11 || !btw d.second 0 11 || !btw d.sector 0 8) 2 0)
theorem Th {N : Nat} {d0 d1 d2 d3 d4 d6 d7 d8 d9 d11 : Int} {d5 d10 : Bool}  : Dh N [.int d0, .int d1, .int d2, .int d3, .int d4, .bool d5, .int d6, .int d7, .int d8, .int d9, .bool d10, .int d11] = some [.int (Wq (⟨d0, d1, d2, d3, d4, d5, d6, d7, d8, d9, d10, d11⟩ : Del))] := by
 show GB (std (HH N) N) (xOf _) = _
 generalize hres : (some [.int (Wq (⟨d0, d1, d2, d3, d4, d5, d6, d7, d8, d9, d10, d11⟩ : Del))] : Option (List PV)) = RR
 simp only [GB, ID, std, xOf, PXb, PXc, PXn, PXm, Nat.reduceAdd, Int.reduceBEq, Ru]
 subst hres; simp only [Wq]
def loS (k : Int) : Int := cond (k == 7) 0 (cond (k == 13) 1 0)
def hiS (k : Int) : Int := cond (k == 7) 11 (cond (k == 13) 99 100000)
theorem VU {N : Nat} {k : Int}  : FP N [.int k] = some [.int (loS k), .int (hiS k)] := by
 show HY (std (NX N) N) (xOf _) = _
 simp only [HY, std, xOf, PXb, PXc, PXn, PXm, Nat.reduceAdd, Int.reduceBEq]
 unfold loS hiS
 cases k == 7 <;> cases k == 13 <;> rfl
def uS (k : Int) : Bool := k == 1 || k == 12 || k == 14 || k == 11 || k == 13
def uP (k : Int) : Bool := k == 2 || k == 3 || k == 8 || k == 5 || k == 6 || k == 9
def uO (k : Int) : Bool := k == 2
def uY (k : Int) : Bool := k == 1 || k == 12 || k == 14 || k == 5 || k == 6 || k == 9
def uR (k : Int) : Bool := k == 7 || k == 13 || k == 15
def uV (k : Int) : Bool := k == 15
def uB (k : Int) : Bool := k == 4
theorem Vb {k : Int} (h : (iLt k 1 || iLt 16 k) = false) : k = 1 ∨ k = 2 ∨ k = 3 ∨ k = 4 ∨ k = 5 ∨ k = 6 ∨ k = 7 ∨ k = 8 ∨ k = 9 ∨ k = 10 ∨ k = 11 ∨ k = 12 ∨ k = 13 ∨ k = 14 ∨ k = 15 ∨ k = 16 := by
 simp only [iLt, Bool.or_eq_false_iff, decide_eq_false_iff_not] at h
 omega
def ZO : Rows := match EK 0 [] with
 | some [.rows l] => l
 | _ => []
theorem Wc {N : Nat} : EK N [] = some [.rows ZO] := rfl
def CT (k f : Int) : Bool := iLe 0 (Lib.indexByte (pvS (AH ZO (IntKind.u8.wrap (k - 1)).toNat 1)).data.toList f.toNat.toUInt8) || (k == 5 && f == 121)
theorem Q7 {N : Nat} {s : ByteArray} {f : Int}  : CV N [.str s, .int f] = some [.int (Lib.indexByte s.data.toList f.toNat.toUInt8)] := by
 show D0 (std (Fh N) N) (xOf _) = _
 simp only [D0, Fn, std, xOf, PXb, PXc, PXn, PXm, Nat.reduceAdd, Int.reduceBEq, Bn, Uq]
theorem RF {N : Nat} {k : Int} {f : Int} (h : (iLt k 1 || iLt 16 k) = false) : HV N [.int k, .int f] = some [.bool (CT k f)] := by
 show KE (std (Hr N) N) (xOf _) = _
 have hi : iIn (IntKind.u8.wrap (k - 1)) (ZO.length : Int) = true := by
  rcases Vb h with h | h | h | h | h | h | h | h | h | h | h | h | h | h | h | h <;> subst h <;> rfl
 simp only [KE, Jk, Nj, std, xOf, PXb, PXc, PXn, PXm, Nat.reduceAdd, Int.reduceBEq, Wc, Q7, hi, CT]
theorem dK {k : Int} (h : (iLt k 1 || iLt 16 k) = false) : CT k 115 = uS k ∧ CT k 112 = uP k ∧ CT k 111 = uO k ∧ CT k 121 = uY k ∧ CT k 114 = uR k ∧ CT k 118 = uV k ∧ CT k 98 = uB k := by
 rcases Vb h with h | h | h | h | h | h | h | h | h | h | h | h | h | h | h | h <;> subst h <;> exact ⟨rfl, rfl, rfl, rfl, rfl, rfl, rfl⟩
def ZG (d : Del) : Bool := d.type == 0 && (d.source == 0 && (d.runs == 0 && (d.short == 0 && (d.boundary == 0 && (d.crossed == false && (d.how == 0 && (d.victim == 0 && (d.fielder == 0 && (d.second == 0 && (d.sub == false && d.sector == 0))))))))))
def W4 (e : Ev) : Bool := (!(e.side == 0) && !uS e.kind) || ((!(e.player == 0) && !uP e.kind) || ((!(e.other == 0) && !uO e.kind) || ((e.yes && !uY e.kind) || ((!(e.runs == 0) && !uR e.kind) || ((!(e.overs == 0) && !uV e.kind) || (!ZG e.ball && !uB e.kind))))))
def TR (e : Ev) : Bool := (!btw e.side 1 2 && uS e.kind) || ((!btw e.player 1 11 && uP e.kind) || ((!btw e.other 1 11 && uO e.kind) || ((!btw e.runs (loS e.kind) (hiS e.kind) && uR e.kind) || (!btw e.overs 0 90 && uV e.kind))))
def evS (e : Ev) : Int := cond (iLt e.kind 1 || iLt 16 e.kind) 3 (cond (W4 e) 1 (cond (TR e) 2 (cond (e.kind == 4) (Wq e.ball) 0)))
def evT (e : Ev) : Rows := [[.int 115, .bool (e.side == 0), .bool (btw e.side 1 2)], [.int 112, .bool (e.player == 0), .bool (btw e.player 1 11)], [.int 111, .bool (e.other == 0), .bool (btw e.other 1 11)], [.int 121, .bool (!e.yes), .bool true], [.int 114, .bool (e.runs == 0), .bool (btw e.runs (loS e.kind) (hiS e.kind))], [.int 118, .bool (e.overs == 0), .bool (btw e.overs 0 90)], [.int 98, .bool (ZG e.ball), .bool true]]
theorem Qm {N : Nat} {e0 e1 e2 e3 e5 e6 e7 e8 e9 e10 e11 e13 e14 e15 e16 e18 : Int} {e4 e12 e17 : Bool} (hN : 2097152 < N) : CP N [.int e0, .int e1, .int e2, .int e3, .bool e4, .int e5, .int e6, .int e7, .int e8, .int e9, .int e10, .int e11, .bool e12, .int e13, .int e14, .int e15, .int e16, .bool e17, .int e18] = some [.int (evS (⟨e0, e1, e2, e3, e4, e5, e6, ⟨e7, e8, e9, e10, e11, e12, e13, e14, e15, e16, e17, e18⟩⟩ : Ev))] := by
 show GW (std (C5 N) N) (xOf _) = _
 generalize hres : (some [.int (evS (⟨e0, e1, e2, e3, e4, e5, e6, ⟨e7, e8, e9, e10, e11, e12, e13, e14, e15, e16, e17, e18⟩⟩ : Ev))] : Option (List PV)) = RR
 cases hk : iLt e0 1 || iLt 16 e0 with
 | true =>
  simp only [GW, GY, Fq, HC, Cb, std, xOf, PXb, PXc, AJ, hk, ← hres, evS]
 | false =>
  simp only [GW, GY, Fq, HC, Cb, std, xOf, PXb, PXc, AJ, hk, VU, Ue]
  subst hres
  obtain ⟨g1, g2, g3, g4, g5, g6, g7⟩ := dK hk
  refine Af (Iz (len := 7) (fun i => !pvB (AH (evT (⟨e0, e1, e2, e3, e4, e5, e6, ⟨e7, e8, e9, e10, e11, e12, e13, e14, e15, e16, e17, e18⟩⟩ : Ev)) i 1) && !CT e0 (pvI (AH (evT (⟨e0, e1, e2, e3, e4, e5, e6, ⟨e7, e8, e9, e10, e11, e12, e13, e14, e15, e16, e17, e18⟩⟩ : Ev)) i 0))) [.int 1] ?_ ?_ N (by omega)) ?_
  ·intro self
   rfl
  ·intro i self hi
   simp only [PXb, PXc, AJ, Al (show i ≤ 1099511627776 by omega), List.length_cons, List.length_nil, Nat.reduceAdd, BH hi, Am hi, RF hk]
   change cond (!pvB (AH (evT (⟨e0, e1, e2, e3, e4, e5, e6, ⟨e7, e8, e9, e10, e11, e12, e13, e14, e15, e16, e17, e18⟩⟩ : Ev)) i 1) && !(!pvB (AH (evT (⟨e0, e1, e2, e3, e4, e5, e6, ⟨e7, e8, e9, e10, e11, e12, e13, e14, e15, e16, e17, e18⟩⟩ : Ev)) i 1) && CT e0 (pvI (AH (evT (⟨e0, e1, e2, e3, e4, e5, e6, ⟨e7, e8, e9, e10, e11, e12, e13, e14, e15, e16, e17, e18⟩⟩ : Ev)) i 0)))) _ _ = _
   cases pvB (AH (evT (⟨e0, e1, e2, e3, e4, e5, e6, ⟨e7, e8, e9, e10, e11, e12, e13, e14, e15, e16, e17, e18⟩⟩ : Ev)) i 1) <;> rfl
  ·have a1 : BF (fun i => !pvB (AH (evT (⟨e0, e1, e2, e3, e4, e5, e6, ⟨e7, e8, e9, e10, e11, e12, e13, e14, e15, e16, e17, e18⟩⟩ : Ev)) i 1) && !CT e0 (pvI (AH (evT (⟨e0, e1, e2, e3, e4, e5, e6, ⟨e7, e8, e9, e10, e11, e12, e13, e14, e15, e16, e17, e18⟩⟩ : Ev)) i 0))) 7 0 = W4 (⟨e0, e1, e2, e3, e4, e5, e6, ⟨e7, e8, e9, e10, e11, e12, e13, e14, e15, e16, e17, e18⟩⟩ : Ev) := by
    simp only [BW, HN]
    change (!(e1 == 0) && !CT e0 115 || (!(e2 == 0) && !CT e0 112 || (!(e3 == 0) && !CT e0 111 || (!(!e4) && !CT e0 121 || (!(e5 == 0) && !CT e0 114 || (!(e6 == 0) && !CT e0 118 || (!(ZG (⟨e0, e1, e2, e3, e4, e5, e6, ⟨e7, e8, e9, e10, e11, e12, e13, e14, e15, e16, e17, e18⟩⟩ : Ev).ball) && !CT e0 98 || false))))))) = _
    rw [g1, g2, g3, g4, g5, g6, g7, Bool.not_not, Bool.or_false]
    rfl
   rw [a1]
   simp only [evS, hk, cond_false]
   cases W4 (⟨e0, e1, e2, e3, e4, e5, e6, ⟨e7, e8, e9, e10, e11, e12, e13, e14, e15, e16, e17, e18⟩⟩ : Ev) with
   | true => rfl
   | false =>
    simp only [PXb, PXc, AJ]
    refine Af (Iz (len := 7) (fun i => !pvB (AH (evT (⟨e0, e1, e2, e3, e4, e5, e6, ⟨e7, e8, e9, e10, e11, e12, e13, e14, e15, e16, e17, e18⟩⟩ : Ev)) i 2) && CT e0 (pvI (AH (evT (⟨e0, e1, e2, e3, e4, e5, e6, ⟨e7, e8, e9, e10, e11, e12, e13, e14, e15, e16, e17, e18⟩⟩ : Ev)) i 0))) [.int 2] ?_ ?_ N (by omega)) ?_
    ·intro self
     rfl
    ·intro i self hi
     simp only [PXb, PXc, AJ, Al (show i ≤ 1099511627776 by omega), List.length_cons, List.length_nil, Nat.reduceAdd, BH hi, Am hi, RF hk]
     rfl
    ·have a2 : BF (fun i => !pvB (AH (evT (⟨e0, e1, e2, e3, e4, e5, e6, ⟨e7, e8, e9, e10, e11, e12, e13, e14, e15, e16, e17, e18⟩⟩ : Ev)) i 2) && CT e0 (pvI (AH (evT (⟨e0, e1, e2, e3, e4, e5, e6, ⟨e7, e8, e9, e10, e11, e12, e13, e14, e15, e16, e17, e18⟩⟩ : Ev)) i 0))) 7 0 = TR (⟨e0, e1, e2, e3, e4, e5, e6, ⟨e7, e8, e9, e10, e11, e12, e13, e14, e15, e16, e17, e18⟩⟩ : Ev) := by
      simp only [BW, HN]
      change (!(btw e1 1 2) && CT e0 115 || (!(btw e2 1 11) && CT e0 112 || (!(btw e3 1 11) && CT e0 111 || (!true && CT e0 121 || (!(btw e5 (loS e0) (hiS e0)) && CT e0 114 || (!(btw e6 0 90) && CT e0 118 || (!true && CT e0 98 || false))))))) = _
      rw [g1, g2, g3, g4, g5, g6, g7]
      simp only [Bool.not_true, Bool.false_and, Bool.false_or, Bool.or_false]
      rfl
     rw [a2]
     cases TR (⟨e0, e1, e2, e3, e4, e5, e6, ⟨e7, e8, e9, e10, e11, e12, e13, e14, e15, e16, e17, e18⟩⟩ : Ev) with
     | true => rfl
     | false =>
      simp only [PXb, PXc, PXn, PXm, Nat.reduceAdd, Int.reduceBEq, Cb, Th]
theorem c4 {c x x' y y' : Bool} {a b d z z' : Int} (h1 : x = x') (h2 : y = y') (h3 : z = z') : (some [PV.int (cond c a (cond x b (cond y d z)))] : Option (List PV)) = some [PV.int (cond c a (cond x' b (cond y' d z')))] := by subst h1; subst h2; subst h3; rfl
end Go.Px
end
