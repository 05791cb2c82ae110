/- Part 9. -/
import Derived.Test.YtibhmjjjbblhmaaGreatPart07
import Derived.Test.YtibhmjjjbblhmaaGreatPart08
set_option linter.unusedVariables false
set_option linter.unusedSimpArgs false
section
namespace Go.Px
set_option maxRecDepth 100000
theorem F0 {N : Nat} {s0 s1 s2 s3 s4 s5 s6 s7 s8 s9 s10 s11 s12 s13 s15 s21 s22 s23 s25 s26 s27 : Int} {s18 s20 : Bool} {s14 s16 s17 s19 s24 : Rows} (h : Fit s14 s16 s17 s19 s24) : Aj N [.int s0, .int s1, .int s2, .int s3, .int s4, .int s5, .int s6, .int s7, .int s8, .int s9, .int s10, .int s11, .int s12, .int s13, .rows s14, .int s15, .rows s16, .rows s17, .bool s18, .rows s19, .bool s20, .int s21, .int s22, .int s23, .rows s24, .int s25, .int s26, .int s27] = some [.int s0, .int s1, .int s2, .int s3, .int s4, .int s5, .int s6, .int s7, .int s8, .int s9, .int s10, .int s11, .int s12, .int s13, .rows s14, .int s15, .rows s16, .rows s17, .bool s18, .rows s19, .bool s20, .int s21, .int s22, .int s23, .rows s24, .int s25, .int s26, .int s27] := by
 show Lp (std (F5 N) N) (xOf _) = _
 simp only [Lp, KM, L2, LI, std, xOf, PXb, PXc, PXn, PXm, Nat.reduceAdd, Int.reduceBEq, AN, AX, AU, BG h.bt (show 1 ≤ 4096 by omega), BG h.bw' (show 8 ≤ 4096 by omega), BG h.bf (show 8 ≤ 4096 by omega), BG h.bd (show 8 ≤ 4096 by omega), BG h.sb (show 1 ≤ 4096 by omega)]
theorem GK {N : Nat} {s0 s1 s2 s3 s4 s5 s6 s7 s8 s9 s10 s11 s12 s13 s15 s21 s22 s23 s25 s26 s27 : Int} {s18 s20 : Bool} {s14 s16 s17 s19 s24 : Rows} {p : Int}  : Ak N [.int s0, .int s1, .int s2, .int s3, .int s4, .int s5, .int s6, .int s7, .int s8, .int s9, .int s10, .int s11, .int s12, .int s13, .rows s14, .int s15, .rows s16, .rows s17, .bool s18, .rows s19, .bool s20, .int s21, .int s22, .int s23, .rows s24, .int s25, .int s26, .int s27, .int p] = some [.bool (inR p s14.length)] := by
 show IZ (std (PK N) N) (xOf _) = _
 simp only [IZ, std, xOf, PXb, PXc, PXn, PXm, Nat.reduceAdd, Int.reduceBEq]
 rfl
def Ef (s : Inn) (d : Del) : Inn :=
  let odd := !(d.runs.tmod 2 == 0) != d.crossed
  let t : Inn := cond odd { s with striker := s.other, other := s.striker } s
  let k : Bool := d.how == 0
  cond (!k && (d.victim == 1 && !(s.striker == 0)))
    { t with striker := cond odd t.striker 0, other := cond odd 0 t.other, batters := cond (inR s.striker s.batters.length) (Mj s.batters s.striker 2) s.batters, wickets := IntKind.i64.wrap (s.wickets + 1) }
    (cond (!k && (d.victim == 2 && !(s.other == 0)))
      { t with striker := cond odd 0 t.striker, other := cond odd t.other 0, batters := cond (inR s.other s.batters.length) (Mj s.batters s.other 2) s.batters, wickets := IntKind.i64.wrap (s.wickets + 1) }
      t)
theorem aM {N : Nat} {s0 s1 s2 s3 s4 s5 s6 s7 s8 s9 s10 s11 s12 s13 s15 s21 s22 s23 s25 s26 s27 : Int} {s18 s20 : Bool} {s14 s16 s17 s19 s24 : Rows} {d0 d1 d2 d3 d4 d6 d7 d8 d9 d11 : Int} {d5 d10 : Bool} (h : Fit s14 s16 s17 s19 s24) : II N [.int s0, .int s1, .int s2, .int s3, .int s4, .int s5, .int s6, .int s7, .int s8, .int s9, .int s10, .int s11, .int s12, .int s13, .rows s14, .int s15, .rows s16, .rows s17, .bool s18, .rows s19, .bool s20, .int s21, .int s22, .int s23, .rows s24, .int s25, .int s26, .int s27, .int d0, .int d1, .int d2, .int d3, .int d4, .bool d5, .int d6, .int d7, .int d8, .int d9, .bool d10, .int d11] = some (Ef (⟨s0, s1, s2, s3, s4, s5, s6, s7, s8, s9, s10, s11, s12, s13, s14, s15, s16, s17, s18, s19, s20, s21, s22, s23, s24, s25, s26, s27⟩ : Inn) (⟨d0, d1, d2, d3, d4, d5, d6, d7, d8, d9, d10, d11⟩ : Del)).ls := by
 show LW (std (Iz N) N) (xOf _) = _
 simp only [LW, P5, OV, std, xOf, PXb, PXc, PXn, PXm, Nat.reduceAdd, Int.reduceBEq, F0 h, GK, jf h.bt]
 unfold Ef
 cases d5 <;> cases d2.tmod 2 == 0 <;> cases d6 == 0 <;> cases d7 == 1 <;> cases d7 == 2 <;> cases s12 == 0 <;> cases s13 == 0 <;> rfl
def dR (s : Inn) : Inn := { s with striker := s.other, other := s.striker }
theorem Xj {N : Nat} {s0 s1 s2 s3 s4 s5 s6 s7 s8 s9 s10 s11 s12 s13 s15 s21 s22 s23 s25 s26 s27 : Int} {s18 s20 : Bool} {s14 s16 s17 s19 s24 : Rows} (h : Fit s14 s16 s17 s19 s24) : Fd N [.int s0, .int s1, .int s2, .int s3, .int s4, .int s5, .int s6, .int s7, .int s8, .int s9, .int s10, .int s11, .int s12, .int s13, .rows s14, .int s15, .rows s16, .rows s17, .bool s18, .rows s19, .bool s20, .int s21, .int s22, .int s23, .rows s24, .int s25, .int s26, .int s27] = some (dR (⟨s0, s1, s2, s3, s4, s5, s6, s7, s8, s9, s10, s11, s12, s13, s14, s15, s16, s17, s18, s19, s20, s21, s22, s23, s24, s25, s26, s27⟩ : Inn)).ls := by
 show Hk (std (JB N) N) (xOf _) = _
 simp only [Hk, Ne, std, xOf, PXb, PXc, PXn, PXm, Nat.reduceAdd, Int.reduceBEq, F0 h]
 rfl
theorem WS {N : Nat} {v : Int}  : CU N [.int v] = some [.bool (!(v == 0))] := by
 show KP (std (M5 N) N) (xOf _) = _
 rfl
theorem VO {N : Nat} {v : Int}  : Dn N [.int v] = some [.bool (!(v == 0))] := by
 show I7 (std (MA N) N) (xOf _) = _
 rfl
theorem RN {N : Nat} {s0 s1 s2 s3 s4 s5 s6 s7 s8 s9 s10 s11 s12 s13 s15 s21 s22 s23 s25 s26 s27 : Int} {s18 s20 : Bool} {s14 s16 s17 s19 s24 : Rows} (h : s14.length ≤ 1048576) (hN : 2097152 < N) : Bl N [.int s0, .int s1, .int s2, .int s3, .int s4, .int s5, .int s6, .int s7, .int s8, .int s9, .int s10, .int s11, .int s12, .int s13, .rows s14, .int s15, .rows s16, .rows s17, .bool s18, .rows s19, .bool s20, .int s21, .int s22, .int s23, .rows s24, .int s25, .int s26, .int s27] = some [.bool (EP s14)] := by
 show EC (std (EJ N) N) (xOf _) = _
 simp only [EC, Fm, std, xOf, PXb, PXc, PXn, AD]
 rw [show EP s14 = iLe 0 (Nm (fun i => !(atI s14 i 0 == 0)) s14.length) from (Ig _ _).symm]
 rw [Option.bind_assoc]
 refine AZ (Cp (len := s14.length) (Fj fun i => !(atI s14 i 0 == 0)) ?_ ?_ s14.length 0 N (by omega) (by omega)) ?_
 ·intro self
  simp only [PXb, PXc, PXn, AD, BM]
 ·intro i self hi
  simp only [PXb, PXc, PXn, AD, Ag (show i ≤ 1099511627776 by omega), A4 hi, Ae hi, Fj, Cb, Fm, WS]
  cases atI s14 i 0 == 0 <;> rfl
 ·unfold Nm
  cases Bu (Fj fun i => !(atI s14 i 0 == 0)) s14.length 0 <;> rfl
theorem Xl {N : Nat} {s0 s1 s2 s3 s4 s5 s6 s7 s8 s9 s10 s11 s12 s13 s15 s21 s22 s23 s25 s26 s27 : Int} {s18 s20 : Bool} {s14 s16 s17 s19 s24 : Rows} (h : s14.length ≤ 1048576) (hN : 2097152 < N) : Fb N [.int s0, .int s1, .int s2, .int s3, .int s4, .int s5, .int s6, .int s7, .int s8, .int s9, .int s10, .int s11, .int s12, .int s13, .rows s14, .int s15, .rows s16, .rows s17, .bool s18, .rows s19, .bool s20, .int s21, .int s22, .int s23, .rows s24, .int s25, .int s26, .int s27] = some [.bool (EP s14)] := by
 show Hp (std (JC N) N) (xOf _) = _
 simp only [Hp, Ey, std, xOf, PXb, PXc, PXn, AD]
 rw [show EP s14 = iLe 0 (Nm (fun i => !(atI s14 i 0 == 0)) s14.length) from (Ig _ _).symm]
 rw [Option.bind_assoc]
 refine AZ (Cp (len := s14.length) (Fj fun i => !(atI s14 i 0 == 0)) ?_ ?_ s14.length 0 N (by omega) (by omega)) ?_
 ·intro self
  simp only [PXb, PXc, PXn, AD, BM]
 ·intro i self hi
  simp only [PXb, PXc, PXn, AD, Ag (show i ≤ 1099511627776 by omega), A4 hi, Ae hi, Fj, Cb, Ey, VO]
  cases atI s14 i 0 == 0 <;> rfl
 ·unfold Nm
  cases Bu (Fj fun i => !(atI s14 i 0 == 0)) s14.length 0 <;> rfl
theorem QS {N : Nat} {s0 s1 s2 s3 s4 s5 s6 s7 s8 s9 s10 s11 s12 s13 s15 s21 s22 s23 s25 s26 s27 : Int} {s18 s20 : Bool} {s14 s16 s17 s19 s24 : Rows} (h : s14.length ≤ 1048576) (hN : 2097152 < N) : A9 N [.int s0, .int s1, .int s2, .int s3, .int s4, .int s5, .int s6, .int s7, .int s8, .int s9, .int s10, .int s11, .int s12, .int s13, .rows s14, .int s15, .rows s16, .rows s17, .bool s18, .rows s19, .bool s20, .int s21, .int s22, .int s23, .rows s24, .int s25, .int s26, .int s27] = some [.bool (K1 s14 s12 s13)] := by
 show DV (std (Dw N) N) (xOf _) = _
 simp only [DV, Mf, std, xOf, PXb, PXc, PXn, PXm, Nat.reduceAdd, Int.reduceBEq, RN h hN]
 rfl
theorem Zm {N : Nat} {s0 s1 s2 s3 s4 s5 s6 s7 s8 s9 s10 s11 s12 s13 s15 s21 s22 s23 s25 s26 s27 : Int} {s18 s20 : Bool} {s14 s16 s17 s19 s24 : Rows} (h : s14.length ≤ 1048576) (hN : 2097152 < N) : CT N [.int s0, .int s1, .int s2, .int s3, .int s4, .int s5, .int s6, .int s7, .int s8, .int s9, .int s10, .int s11, .int s12, .int s13, .rows s14, .int s15, .rows s16, .rows s17, .bool s18, .rows s19, .bool s20, .int s21, .int s22, .int s23, .rows s24, .int s25, .int s26, .int s27] = some [.rows (El s14 s14.length)] := by
 show E6 (std (K0 N) N) (xOf _) = _
 simp only [E6, std, xOf, PXb, PXc, PXn, AD]
 refine AZ (IY (len := s14.length) (fun i => [.rows (El s14 i), .int (i : Int)]) [.rows (El s14 s14.length)] ?_ ?_ N (by omega)) rfl
 ·intro self
  simp only [PXb, PXc, PXn, AD, BM]
 ·intro i self hi
  have h2 : (El s14 i ++ [[PV.int ((i : Int) + 1)]]).length ≤ 4194304 := by have := Ww s14 i; simp; omega
  simp only [PXb, PXc, PXn, AD, Ag (show i ≤ 1099511627776 by omega), A4 hi, Ae hi, Cb, El, Jt h2 (show 8 ≤ 4096 by omega)]
  cases (atI s14 i 0 == 0 || atI s14 i 0 == 3) <;> rfl
def VE (s : Inn) (p q : Int) : Inn × Int :=
  cond (EP s.batters) (s, 1) (cond (!inR p s.batters.length || !inR q s.batters.length) (s, 3) (cond (p == q) (s, 4)
    ({ s with batters := Mj (Mj s.batters p 1) q 1, striker := p, other := q }, 0)))
theorem Zq {N : Nat} {s0 s1 s2 s3 s4 s5 s6 s7 s8 s9 s10 s11 s12 s13 s15 s21 s22 s23 s25 s26 s27 : Int} {s18 s20 : Bool} {s14 s16 s17 s19 s24 : Rows} {p : Int} {q : Int} (h : Fit s14 s16 s17 s19 s24) (hN : 2097152 < N) : HD N [.int s0, .int s1, .int s2, .int s3, .int s4, .int s5, .int s6, .int s7, .int s8, .int s9, .int s10, .int s11, .int s12, .int s13, .rows s14, .int s15, .rows s16, .rows s17, .bool s18, .rows s19, .bool s20, .int s21, .int s22, .int s23, .rows s24, .int s25, .int s26, .int s27, .int p, .int q] = some (BA (VE (⟨s0, s1, s2, s3, s4, s5, s6, s7, s8, s9, s10, s11, s12, s13, s14, s15, s16, s17, s18, s19, s20, s21, s22, s23, s24, s25, s26, s27⟩ : Inn) p q)) := by
 show Jr (std (Fg N) N) (xOf _) = _
 generalize hres : (some (BA (VE (⟨s0, s1, s2, s3, s4, s5, s6, s7, s8, s9, s10, s11, s12, s13, s14, s15, s16, s17, s18, s19, s20, s21, s22, s23, s24, s25, s26, s27⟩ : Inn) p q)) : Option (List PV)) = RR
 simp only [Jr, Pq, Nv, Nf, std, xOf, PXb, PXc, PXn, PXm, Nat.reduceAdd, Int.reduceBEq, F0 h, RN h.bt hN, GK]
 subst hres; simp only [VE]
 cases EP s14 <;> try rfl
 cases hp : inR p s14.length <;> cases hq : inR q s14.length <;> try rfl
 rw [J0 hp h.bt, J0 hq h.bt]
 cases p == q <;> rfl
def Ps (s : Inn) (p : Int) : Int :=
 cond (!inR p s.batters.length) 3 (cond (!K1 s.batters s.striker s.other || atI s.batters (ix p) 0 == 1) 4 (cond (atI s.batters (ix p) 0 == 2) 5 0))
theorem Ui {N : Nat} {s0 s1 s2 s3 s4 s5 s6 s7 s8 s9 s10 s11 s12 s13 s15 s21 s22 s23 s25 s26 s27 : Int} {s18 s20 : Bool} {s14 s16 s17 s19 s24 : Rows} {p : Int} (h : s14.length ≤ 1048576) (hN : 2097152 < N) : DN N [.int s0, .int s1, .int s2, .int s3, .int s4, .int s5, .int s6, .int s7, .int s8, .int s9, .int s10, .int s11, .int s12, .int s13, .rows s14, .int s15, .rows s16, .rows s17, .bool s18, .rows s19, .bool s20, .int s21, .int s22, .int s23, .rows s24, .int s25, .int s26, .int s27, .int p] = some [.int (Ps (⟨s0, s1, s2, s3, s4, s5, s6, s7, s8, s9, s10, s11, s12, s13, s14, s15, s16, s17, s18, s19, s20, s21, s22, s23, s24, s25, s26, s27⟩ : Inn) p)] := by
 show LT (std (Ic N) N) (xOf _) = _
 generalize hres : (some [.int (Ps (⟨s0, s1, s2, s3, s4, s5, s6, s7, s8, s9, s10, s11, s12, s13, s14, s15, s16, s17, s18, s19, s20, s21, s22, s23, s24, s25, s26, s27⟩ : Inn) p)] : Option (List PV)) = RR
 simp only [LT, NY, Oa, std, xOf, PXb, PXc, PXn, PXm, Nat.reduceAdd, Int.reduceBEq, GK, QS h hN]
 subst hres; simp only [Ps]
 cases hp : inR p s14.length <;> try rfl
 rw [J0 hp h]
 cases K1 s14 s12 s13 <;> try rfl
 simp only [PXb, PXc, PXn, PXm, Nat.reduceAdd, Int.reduceBEq, atI, ix]
theorem Y7 {s : Inn} {p : Int} (h : (Ps s p == 0) = true) : inR p s.batters.length = true := by
 unfold Ps at h
 cases hp : inR p s.batters.length with
 | true => rfl
 | false => rw [hp] at h; cases h
def RO (s : Inn) (p : Int) : Inn × Int :=
 cond (Ps s p == 0) ({ s with batters := Mj s.batters p 1, striker := cond (s.striker == 0) p s.striker, other := cond (s.striker == 0) s.other p }, 0) (s, Ps s p)
def MW (s : Inn) (p : Int) : Inn × Int :=
 cond (Ps s p == 0) ({ s with batters := Mj s.batters p 2, wickets := IntKind.i64.wrap (s.wickets + 1) }, 0) (s, Ps s p)
theorem Yw {N : Nat} {s0 s1 s2 s3 s4 s5 s6 s7 s8 s9 s10 s11 s12 s13 s15 s21 s22 s23 s25 s26 s27 : Int} {s18 s20 : Bool} {s14 s16 s17 s19 s24 : Rows} {p : Int} (h : Fit s14 s16 s17 s19 s24) (hN : 2097152 < N) : F1 N [.int s0, .int s1, .int s2, .int s3, .int s4, .int s5, .int s6, .int s7, .int s8, .int s9, .int s10, .int s11, .int s12, .int s13, .rows s14, .int s15, .rows s16, .rows s17, .bool s18, .rows s19, .bool s20, .int s21, .int s22, .int s23, .rows s24, .int s25, .int s26, .int s27, .int p] = some (BA (RO (⟨s0, s1, s2, s3, s4, s5, s6, s7, s8, s9, s10, s11, s12, s13, s14, s15, s16, s17, s18, s19, s20, s21, s22, s23, s24, s25, s26, s27⟩ : Inn) p)) := by
 show Ii (std (Gp N) N) (xOf _) = _
 generalize hres : (some (BA (RO (⟨s0, s1, s2, s3, s4, s5, s6, s7, s8, s9, s10, s11, s12, s13, s14, s15, s16, s17, s18, s19, s20, s21, s22, s23, s24, s25, s26, s27⟩ : Inn) p)) : Option (List PV)) = RR
 simp only [Ii, Of, Ok, std, xOf, PXb, PXc, PXn, PXm, Nat.reduceAdd, Int.reduceBEq, F0 h, Ui h.bt hN]
 subst hres; simp only [RO]
 cases hm : Ps (⟨s0, s1, s2, s3, s4, s5, s6, s7, s8, s9, s10, s11, s12, s13, s14, s15, s16, s17, s18, s19, s20, s21, s22, s23, s24, s25, s26, s27⟩ : Inn) p == 0 <;> try rfl
 rw [J0 (Y7 hm) h.bt]
 cases s12 == 0 <;> rfl
theorem Wy {N : Nat} {s0 s1 s2 s3 s4 s5 s6 s7 s8 s9 s10 s11 s12 s13 s15 s21 s22 s23 s25 s26 s27 : Int} {s18 s20 : Bool} {s14 s16 s17 s19 s24 : Rows} {p : Int} (h : Fit s14 s16 s17 s19 s24) (hN : 2097152 < N) : EW N [.int s0, .int s1, .int s2, .int s3, .int s4, .int s5, .int s6, .int s7, .int s8, .int s9, .int s10, .int s11, .int s12, .int s13, .rows s14, .int s15, .rows s16, .rows s17, .bool s18, .rows s19, .bool s20, .int s21, .int s22, .int s23, .rows s24, .int s25, .int s26, .int s27, .int p] = some (BA (MW (⟨s0, s1, s2, s3, s4, s5, s6, s7, s8, s9, s10, s11, s12, s13, s14, s15, s16, s17, s18, s19, s20, s21, s22, s23, s24, s25, s26, s27⟩ : Inn) p)) := by
 show Gk (std (DL N) N) (xOf _) = _
 generalize hres : (some (BA (MW (⟨s0, s1, s2, s3, s4, s5, s6, s7, s8, s9, s10, s11, s12, s13, s14, s15, s16, s17, s18, s19, s20, s21, s22, s23, s24, s25, s26, s27⟩ : Inn) p)) : Option (List PV)) = RR
 simp only [Gk, M7, Lw, M4, std, xOf, PXb, PXc, PXn, PXm, Nat.reduceAdd, Int.reduceBEq, F0 h, Ui h.bt hN, GK]
 subst hres; simp only [MW]
 cases hm : Ps (⟨s0, s1, s2, s3, s4, s5, s6, s7, s8, s9, s10, s11, s12, s13, s14, s15, s16, s17, s18, s19, s20, s21, s22, s23, s24, s25, s26, s27⟩ : Inn) p == 0 <;> try rfl
 have hk : inR p s14.length = true := Y7 hm
 rw [J0 hk h.bt, hk]
 rfl
def PA (s : Inn) (p : Int) (hurt : Bool) : Inn × Int :=
  cond (!inR p s.batters.length) (s, 3) (cond (s.striker == 0 || s.other == 0) (s, 6) (cond (!(p == s.striker) && !(p == s.other)) (s, 4)
    (cond (hurt && ((El s.batters s.batters.length).length : Int) == 0) (s, 19)
      ({ s with striker := cond (p == s.striker) 0 s.striker, other := cond (p == s.striker) s.other 0, batters := Mj s.batters p (cond hurt 3 2), wickets := cond hurt s.wickets (IntKind.i64.wrap (s.wickets + 1)) }, 0))))
theorem XD {N : Nat} {s0 s1 s2 s3 s4 s5 s6 s7 s8 s9 s10 s11 s12 s13 s15 s21 s22 s23 s25 s26 s27 : Int} {s18 s20 : Bool} {s14 s16 s17 s19 s24 : Rows} {p : Int} {b : Bool} (h : Fit s14 s16 s17 s19 s24) (hN : 2097152 < N) : FO N [.int s0, .int s1, .int s2, .int s3, .int s4, .int s5, .int s6, .int s7, .int s8, .int s9, .int s10, .int s11, .int s12, .int s13, .rows s14, .int s15, .rows s16, .rows s17, .bool s18, .rows s19, .bool s20, .int s21, .int s22, .int s23, .rows s24, .int s25, .int s26, .int s27, .int p, .bool b] = some (BA (PA (⟨s0, s1, s2, s3, s4, s5, s6, s7, s8, s9, s10, s11, s12, s13, s14, s15, s16, s17, s18, s19, s20, s21, s22, s23, s24, s25, s26, s27⟩ : Inn) p b)) := by
 show Hs (std (Dp N) N) (xOf _) = _
 generalize hres : (some (BA (PA (⟨s0, s1, s2, s3, s4, s5, s6, s7, s8, s9, s10, s11, s12, s13, s14, s15, s16, s17, s18, s19, s20, s21, s22, s23, s24, s25, s26, s27⟩ : Inn) p b)) : Option (List PV)) = RR
 simp only [Hs, M3, Np, MU, std, xOf, PXb, PXc, PXn, PXm, Nat.reduceAdd, Int.reduceBEq, F0 h, GK, Zm h.bt hN]
 subst hres; simp only [PA]
 cases hp : inR p s14.length <;> try rfl
 rw [J0 hp h.bt]
 cases s12 == 0 <;> cases s13 == 0 <;> try rfl
 cases p == s12 <;> cases p == s13 <;> cases b <;> try rfl
 all_goals (simp only [PXb, PXc, PXn, PXm, Nat.reduceAdd, Int.reduceBEq]; cases ((El s14 s14.length).length : Int) == 0 <;> rfl)
end Go.Px
end
section
namespace Go.Px
set_option maxRecDepth 100000
def btw (a b c : Int) : Bool := iLe b a && iLe a c
theorem DP (N : Nat) (a b c : Int) : Aa N [.int a, .int b, .int c] = some [.bool (btw a b c)] := by
 show some [PV.bool (cond (iLe b a) (iLe a c) false)] = _
 rw [XQ]; rfl
theorem KC (N : Nat) (a b c : Int) : CC N [.int a, .int b, .int c] = some [.bool (btw a b c)] := by
 show some [PV.bool (cond (iLe b a) (iLe a c) false)] = _
 rw [XQ]; rfl
def Mh (x1 x2 x3 x4 x5 x6 x7 x9 x10 x11 x12 : Int) : Bool := btw x1 2 11 && btw x2 1 2 && btw x3 0 90 && btw x4 4 8 && btw x5 0 90 && btw x6 1 5 && btw x7 1 5 && btw x9 0 200 && btw x10 0 1000 && btw x11 0 9 && btw x12 0 11
theorem Wl (N : Nat) (x0 : ByteArray) (x1 x2 x3 x4 x5 x6 x7 x9 x10 x11 x12 : Int) (x8 : Bool) (x13 : Rows) :
   FL N [.str x0, .int x1, .int x2, .int x3, .int x4, .int x5, .int x6, .int x7, .bool x8, .int x9, .int x10, .int x11, .int x12, .rows x13] = some [.bool (Mh x1 x2 x3 x4 x5 x6 x7 x9 x10 x11 x12)] := by
  show Ht (std (JE N) N) (xOf _) = _
  have e : ∀ ls, JE N 86 [] ls = CC N ls := fun ls => rfl
  simp only [Ht, std, xOf, e, KC, PXb, PXc, PXn, AD, Mh]
def VA (s : ByteArray) (i : Nat) : Bool := !(iLe 65 (Mt s i) && iLe (Mt s i) 90) && ((i : Int) == 0 || ((!(Mt s i == 95) && !(Mt s i == 45)) && (iLt (Mt s i) 48 || iLt 57 (Mt s i))))
def Ts (s : ByteArray) : Bool := !A5 (VA s) s.size 0 && (iLe 1 s.size && iLe s.size 16)
theorem jL (s : ByteArray) : (FD s).length = s.size := by
 simp only [FD, List.length_map, Array.length_toList]; rfl
theorem jw (s : ByteArray) (i : Nat) (h : i < s.size) : pvI (AH (FD s) i 0) = Mt s i := by
 unfold AH Az AF FD Mt
 simp only [List.getD_eq_getElem?_getD, List.getElem?_map]
 have : i < s.data.toList.length := by simpa using h
 rw [List.getElem?_eq_getElem this]
 simp [List.getElem?_eq_getElem this]
theorem ac (N : Nat) (s : ByteArray) (hN : s.size < N) (hs : s.size ≤ 1048576) : Jf N [.str s] = some [.bool (Ts s)] := by
 show M0 (std (Sw N) N) (xOf _) = _
 simp only [M0, std, xOf, jL, PXb, PXc, PXn, AD]
 refine AZ (Ed (len := s.size) (VA s) [.bool false] ?_ ?_ N hN) ?_
 ·intro self
  simp only [PXb, PXc, PXn, AD, BM]
 ·intro i self hi
  simp only [PXb, PXc, PXn, AD, Int.toNat_natCast, jw s i hi, Ag (show i ≤ 1099511627776 by omega), A4 hi, Ae hi, VA]
 ·unfold Ts
  cases A5 (VA s) s.size 0 <;> rfl
end Go.Px
end
section
namespace Go.Px
set_option maxRecDepth 100000
theorem ip {i len : Nat} (h : i < len) (hl : len ≤ 1099511627776) : (!iLt 0 (i : Int) || iIn (IntKind.i64.wrap ((i : Int) - 1)) (len : Int)) = true := by
 rw [Dk (by omega) (by omega)]
 simp only [iLt, iIn, Bool.or_eq_true, Bool.not_eq_true', decide_eq_false_iff_not, decide_eq_true_eq]
 omega
def iC (L : Rows) (ov : Int) (i : Nat) : Bool := (iLt (atI L i 0) 1 || iLt (atI L i 1) (atI L i 0) || iLt ov (atI L i 1)) || !btw (atI L i 2) 0 11
def fe (L : Rows) (i : Nat) : Bool := iLt 0 (i : Int) && iLe (atI L i 0) (pvI (AH L (IntKind.i64.wrap ((i : Int) - 1)).toNat 1))
def eR (L : Rows) (ov : Int) (i : Nat) : Option (List PV) := cond (iC L ov i) (some [.int 2]) (cond (fe L i) (some [.int 8]) none)
def et : Option (List PV) → Int
 | none => 0
 | some r => pvI (AF r 0)
def Z8 (L : Rows) (ov : Int) : Int := cond (iLt 8 (L.length : Int)) 9 (et (Bu (eR L ov) L.length 0))
theorem YE (o : Option (List PV)) : cond (pvI (AF (VJ o) 0) == ((0 : Nat) : Int)) (some [PV.int (pvI (AF (VJ o) 1))]) (some [PV.int 0]) = some [PV.int (et o)] := by
 cases o <;> rfl
theorem Xu (N : Nat) (x0 : ByteArray) (x1 x2 x3 x4 x5 x6 x7 x9 x10 x11 x12 : Int) (x8 : Bool) (L : Rows) (hN : 2097152 < N) :
   F2 N [.str x0, .int x1, .int x2, .int x3, .int x4, .int x5, .int x6, .int x7, .bool x8, .int x9, .int x10, .int x11, .int x12, .rows L] = some [.int (Z8 L x3)] := by
  show Id (std (KN N) N) (xOf _) = _
  have e : ∀ ls, KN N 86 [] ls = CC N ls := fun ls => rfl
  simp only [Id, std, xOf, e, KC, PXb, PXc, PXn, AD, Z8]
  cases h8 : iLt 8 (L.length : Int) with
  | true => rfl
  | false =>
    have hl : L.length ≤ 8 := by simp [iLt] at h8; omega
    simp only [cond_false]
    refine AZ (Cp (len := L.length) (eR L x3) ?_ ?_ L.length 0 N (by omega) (by omega)) ?_
    · intro self
      simp only [PXb, PXc, PXn, AD, BM]
    · intro i self hi
      simp only [PXb, PXc, PXn, AD, Int.toNat_natCast, Ag (show i ≤ 1099511627776 by omega), A4 hi, Ae hi, KC, e, ip hi (by omega)]
      simp only [eR, iC, fe, atI]
      cases (iLt (pvI (AH L i 0)) 1 || iLt (pvI (AH L i 1)) (pvI (AH L i 0)) || iLt x3 (pvI (AH L i 1)) || !btw (pvI (AH L i 2)) 0 11) <;>
      cases (iLt 0 (i : Int) && iLe (pvI (AH L i 0)) (pvI (AH L (IntKind.i64.wrap ((i : Int) - 1)).toNat 1))) <;> rfl
    · exact YE _
def KW (x0 : ByteArray) (x1 x2 x3 x4 x5 x6 x7 x9 x10 x11 x12 : Int) (L : Rows) : Int :=
  cond (!Ts x0) 5 (cond (!Mh x1 x2 x3 x4 x5 x6 x7 x9 x10 x11 x12) 2
    (cond ((!(x10 == 0) && x2 == 1) || ((!(x5 == 0) || iLt 0 (L.length : Int)) && x3 == 0)) 1
      (cond (!(x5 == 0) && iLt (IntKind.i64.wrap (x5 * x1)) x3) 13 (Z8 L x3))))
theorem Rl (N : Nat) (x0 : ByteArray) (x1 x2 x3 x4 x5 x6 x7 x9 x10 x11 x12 : Int) (x8 : Bool) (L : Rows) (hN : 2097152 < N) (hs : x0.size ≤ 1048576) :
   AM N [.str x0, .int x1, .int x2, .int x3, .int x4, .int x5, .int x6, .int x7, .bool x8, .int x9, .int x10, .int x11, .int x12, .rows L] = some [.int (KW x0 x1 x2 x3 x4 x5 x6 x7 x9 x10 x11 x12 L)] := by
  show J4 (std (FW N) N) (xOf _) = _
  have e : ∀ ls, FW N 53 [] ls = Jf N ls := fun ls => rfl
  have e2 : ∀ ls, FW N 54 [] ls = FL N ls := fun ls => rfl
  have e3 : ∀ ls, FW N 55 [] ls = F2 N ls := fun ls => rfl
  simp only [J4, std, xOf, e, e2, e3, ac N x0 (by omega) hs, Wl, Xu N _ _ _ _ _ _ _ _ _ _ _ _ _ _ hN, PXb, PXc, AD, KW]
  cases Ts x0 <;> cases Mh x1 x2 x3 x4 x5 x6 x7 x9 x10 x11 x12 <;> try rfl
  simp only [PXb, PXc, AD, Bool.not_true]
  cases (!(x10 == 0) && x2 == 1) <;> cases ((!(x5 == 0) || iLt 0 (L.length : Int)) && x3 == 0) <;> try rfl
  cases (!(x5 == 0) && iLt (IntKind.i64.wrap (x5 * x1)) x3) <;> rfl
end Go.Px
end
section
namespace Go.Px
set_option maxRecDepth 100000
theorem TS (N : Nat) (L : Rows) (v : Int) (hN : L.length < N) (hl : L.length ≤ 2097152) : DK N [.rows L, .int v] = some [.int (Nm (fun j => v == atI L j 0) L.length)] := by
 show Fc (std (LC N) N) (xOf _) = _
 simp only [Fc, std, xOf, PXb, PXc, PXn, AD]
 refine AZ (Cp (len := L.length) (Fj fun j => v == atI L j 0) ?_ ?_ L.length 0 N (by omega) (by omega)) ?_
 ·intro self
  simp only [PXb, PXc, PXn, AD, BM]
 ·intro i self hi
  simp only [PXb, PXc, PXn, AD, Ag (show i ≤ 1099511627776 by omega), A4 hi, Ae hi, Fj, Cb]
  cases v == atI L i 0 <;> rfl
 ·unfold Nm
  cases Bu (Fj fun j => v == atI L j 0) L.length 0 <;> rfl
def JA (L : Rows) (k : Nat) (v : Int) : Bool := A5 (fun j => v == atI L j 0) k 0
theorem JX (N : Nat) (L : Rows) (v : Int) (hN : L.length < N) (hl : L.length ≤ 2097152) : Af N [.rows L, .int v] = some [.bool (JA L L.length v)] := by
 show DX (std (E0 N) N) (xOf _) = _
 have e : ∀ ls, E0 N 121 [] ls = DK N ls := fun ls => rfl
 simp only [DX, std, xOf, PXb, PXc, PXn, AD, e, TS N L v hN hl, Ig, JA]
theorem gF (L : Rows) (i : Nat) (v : Int) (h : i ≤ L.length) : JA (L.take i) (L.take i).length v = JA L i v := by
 rw [List.length_take, Nat.min_eq_left h]
 exact X4 i 0 (fun j _ hj => by rw [gp (by omega)])
def O1 (L : Rows) (n : Int) (i : Nat) : Bool := !btw (atI L i 0) 1 n || JA L i (atI L i 0)
def JO (L : Rows) (n : Int) : Bool := !A5 (O1 L n) L.length 0
theorem Kx (N : Nat) (L : Rows) (n : Int) (hN : L.length < N) (hl : L.length ≤ 2097152) : C3 N [.rows L, .int n] = some [.bool (JO L n)] := by
 show En (std (DY N) N) (xOf _) = _
 have e : ∀ ls, DY N 89 [] ls = Aa N ls := fun ls => rfl
 have e2 : ∀ ls, DY N 105 [] ls = Af N ls := fun ls => rfl
 simp only [En, std, xOf, PXb, PXc, PXn, AD]
 refine AZ (Ed (len := L.length) (O1 L n) [.bool false] ?_ ?_ N hN) ?_
 ·intro self
  simp only [PXb, PXc, PXn, AD, BM]
 ·intro i self hi
  have h1 : (L.take i).length ≤ L.length := List.length_take_le' i L
  simp only [PXb, PXc, PXn, AD, Ag (show i ≤ 1099511627776 by omega), A4 hi, Ae hi, e, e2, DP, kD (Nat.le_of_lt hi), Int.toNat_zero, List.drop_zero, JX N (L.take i) _ (by omega) (by omega), gF L i _ (by omega), Cb, O1]
  cases btw (atI L i 0) 1 n <;> cases JA L i (atI L i 0) <;> rfl
 ·unfold JO
  cases A5 (O1 L n) L.length 0 <;> rfl
theorem VR (N : Nat) (v : Int) : CU N [.int v] = some [.bool (!(v == 0))] := rfl
def lsI (L14 L16 L17 L19 L24 : Rows) (b18 b20 : Bool) (x0 x1 x2 x3 x4 x5 x6 x7 x8 x9 x10 x11 x12 x13 x15 x21 x22 x23 x25 x26 x27 : Int) : List PV :=
 [.int x0, .int x1, .int x2, .int x3, .int x4, .int x5, .int x6, .int x7, .int x8, .int x9, .int x10, .int x11, .int x12, .int x13, .rows L14, .int x15, .rows L16, .rows L17, .bool b18, .rows L19, .bool b20, .int x21, .int x22, .int x23, .rows L24, .int x25, .int x26, .int x27]
section
variable (N : Nat) (L14 L16 L17 L19 L24 : Rows) (b18 b20 : Bool) (x0 x1 x2 x3 x4 x5 x6 x7 x8 x9 x10 x11 x12 x13 x15 x21 x22 x23 x25 x26 x27 : Int)
theorem XJ (hN : L14.length < N) (hl : L14.length ≤ 2097152) : Bl N (lsI L14 L16 L17 L19 L24 b18 b20 x0 x1 x2 x3 x4 x5 x6 x7 x8 x9 x10 x11 x12 x13 x15 x21 x22 x23 x25 x26 x27) = some [.bool (EP L14)] := by
 show EC (std (EJ N) N) (xOf (lsI ..)) = _
 have e : ∀ ls, EJ N 179 [] ls = CU N ls := fun ls => rfl
 simp only [EC, std, xOf, lsI, PXb, PXc, PXn, AD]
 rw [show EP L14 = iLe 0 (Nm (fun i => !(atI L14 i 0 == 0)) L14.length) from (Ig _ _).symm]
 rw [Option.bind_assoc]
 refine AZ (Cp (len := L14.length) (Fj fun i => !(atI L14 i 0 == 0)) ?_ ?_ L14.length 0 N (by omega) (by omega)) ?_
 ·intro self
  simp only [PXb, PXc, PXn, AD, BM]
 ·intro i self hi
  simp only [PXb, PXc, PXn, AD, Ag (show i ≤ 1099511627776 by omega), A4 hi, Ae hi, Fj, Cb, e, VR]
  cases atI L14 i 0 == 0 <;> rfl
 ·unfold Nm
  cases Bu (Fj fun i => !(atI L14 i 0 == 0)) L14.length 0 <;> rfl
theorem WL (hN : L14.length < N) (hl : L14.length ≤ 2097152) : A9 N (lsI L14 L16 L17 L19 L24 b18 b20 x0 x1 x2 x3 x4 x5 x6 x7 x8 x9 x10 x11 x12 x13 x15 x21 x22 x23 x25 x26 x27) = some [.bool (K1 L14 x12 x13)] := by
 show DV (std (Dw N) N) (xOf (lsI ..)) = _
 have e : ∀ ls, Dw N 156 [] ls = Bl N ls := fun ls => rfl
 have := XJ N L14 L16 L17 L19 L24 b18 b20 x0 x1 x2 x3 x4 x5 x6 x7 x8 x9 x10 x11 x12 x13 x15 x21 x22 x23 x25 x26 x27 hN hl
 simp only [lsI] at this
 simp only [DV, std, xOf, lsI, PXb, PXc, PXn, AD, e, this, K1]
theorem YW (hN : L14.length < N) (hl : L14.length ≤ 2097152) : CT N (lsI L14 L16 L17 L19 L24 b18 b20 x0 x1 x2 x3 x4 x5 x6 x7 x8 x9 x10 x11 x12 x13 x15 x21 x22 x23 x25 x26 x27) = some [.rows (El L14 L14.length)] := by
 show E6 (std (K0 N) N) (xOf (lsI ..)) = _
 simp only [E6, std, xOf, lsI, PXb, PXc, PXn, AD]
 refine AZ (IY (len := L14.length) (fun i => [.rows (El L14 i), .int (i : Int)]) [.rows (El L14 L14.length)] ?_ ?_ N hN) rfl
 ·intro self
  simp only [PXb, PXc, PXn, AD, BM]
 ·intro i self hi
  have h2 : (El L14 i ++ [[PV.int ((i : Int) + 1)]]).length ≤ 4194304 := by have := Ww L14 i; simp; omega
  simp only [PXb, PXc, PXn, AD, Ag (show i ≤ 1099511627776 by omega), A4 hi, Ae hi, Cb, El, Jt h2 (show 8 ≤ 4096 by omega)]
  cases (atI L14 i 0 == 0 || atI L14 i 0 == 3) <;> rfl
end
theorem R3 (N : Nat) (v : Int) : C2 N [.int v] = some [.bool (!btw v 0 1000000000)] := by
 show Es (std (GR N) N) (xOf _) = _
 have e : ∀ ls, GR N 89 [] ls = Aa N ls := fun ls => rfl
 simp only [Es, std, xOf, PXb, PXc, PXn, AD, e, DP]
end Go.Px
end
section
namespace Go.Px
set_option maxRecDepth 100000
def pIs (L : Rows) (v : Int) (i : Nat) : Bool := atI L i 0 == v
def Tj (s n : Int) (i : Nat) : Bool := s == (i : Int) + 1 || n == (i : Int) + 1
def Ox (L : Rows) (s n : Int) (i : Nat) : Bool := iLt 3 (atI L i 0) || (pIs L 1 i && !Tj s n i)
def Xb (L : Rows) (s n : Int) (i : Nat) : Bool := iLt 3 (atI L i 0) || !(pIs L 1 i == Tj s n i)
def Yn (L : Rows) : Int := CM (pIs L 2) L.length
def ins (L : Rows) : Int := CM (pIs L 1) L.length
def two (s n : Int) : Int := cond (!(n == 0)) (IntKind.i64.wrap (cond (!(s == 0)) (IntKind.i64.wrap (0 + 1)) 0 + 1)) (cond (!(s == 0)) (IntKind.i64.wrap (0 + 1)) 0)
def Zt (L : Rows) (s n wk k : Int) : Bool :=
 !A5 (Ox L s n) L.length 0 && ((btw s 0 k && btw n 0 k) && (!(s == n && !(s == 0)) && ((two s n == ins L && (!EP L || iLt 0 (two s n))) && Yn L == wk)))
def XM (L : Rows) (s n wk : Int) : Bool :=
 !A5 (Xb L s n) L.length 0 && (!((EP L && iLt (ins L) 1) || (!(s == 0) && s == n)) && wk == Yn L)
def eG (L : Rows) : Nat → Bool
 | 0 => false
 | i + 1 => eG L i || !(atI L i 0 == 0)
theorem dP (L : Rows) : ∀ i, eG L i = A5 (fun j => !(atI L j 0 == 0)) i 0
 | 0 => rfl
 | i + 1 => by rw [UO, Nat.zero_add, ← dP L i]; rfl
section
variable (N : Nat) (L14 L16 L17 L19 L24 : Rows) (b18 b20 : Bool) (x0 x1 x2 x3 x4 x5 x6 x7 x8 x9 x10 x11 x12 x13 x15 x21 x22 x23 x25 x26 x27 : Int)
theorem UF (k : Int) (hN : L14.length < N) (hl : L14.length ≤ 2097152) : Dx N (lsI L14 L16 L17 L19 L24 b18 b20 x0 x1 x2 x3 x4 x5 x6 x7 x8 x9 x10 x11 x12 x13 x15 x21 x22 x23 x25 x26 x27 ++ [.int k]) = some [.bool (Zt L14 x12 x13 x4 k)] := by
  simp only [lsI, List.cons_append, List.nil_append]
  show Fw (std (Hb N) N) (xOf _) = _
  have e : ∀ ls, Hb N 89 [] ls = Aa N ls := fun ls => rfl
  simp only [Fw, std, xOf, lsI, PXb, PXc, PXn, AD]
  refine AZ (bG (len := L14.length) (fun i => [.int (CM (pIs L14 2) i), .int (CM (pIs L14 1) i), .bool (eG L14 i), .int (i : Int)])
    (Ox L14 x12 x13) [.int 0, .bool false] [.int 1, .int (Yn L14), .int (ins L14), .bool (EP L14)] ?_ ?_ N hN) ?_
  · intro self
    simp only [PXb, PXc, PXn, AD, BM, dP]
    rfl
  · intro i self hi
    simp only [PXb, PXc, AD, Ag (show i ≤ 1099511627776 by omega), A4 hi, Ae hi, Cb, be (pIs L14 2) (show i ≤ 1099511627776 by omega), be (pIs L14 1) (show i ≤ 1099511627776 by omega)]
    unfold Ox pIs Tj
    simp only [CM, eG]
    cases h3 : iLt 3 (atI L14 i 0) with
    | true => rfl
    | false =>
      cases h1 : atI L14 i 0 == 1 with
      | true =>
        rw [iZ h1]
        cases x12 == (i : Int) + 1 <;> cases x13 == (i : Int) + 1 <;> rfl
      | false => cases h2 : atI L14 i 0 == 2 <;> rfl
  · unfold Zt
    simp only [e, DP]
    cases A5 (Ox L14 x12 x13) L14.length 0 with
    | true => rfl
    | false =>
      simp only [PXb, PXc, PXn, AD]
      unfold two
      cases btw x12 0 k <;> cases btw x13 0 k <;> try rfl
      cases x12 == 0 <;> cases x13 == 0 <;> cases x12 == x13 <;> try rfl
end
end Go.Px
end
section
namespace Go.Px
set_option maxRecDepth 100000
theorem iz (s n : Int) : two s n = cond (!(s == 0)) 1 0 + cond (!(n == 0)) 1 0 := by
 unfold two
 cases s == 0 <;> cases n == 0 <;> rfl
theorem ic {s n : Int} {len : Nat} (h1 : 0 ≤ s ∧ s ≤ (len : Int)) (h2 : 0 ≤ n ∧ n ≤ (len : Int)) (hd : (s == n && !(s == 0)) = false) : two s n = CM (Tj s n) len := by
 have hs : iLe s (len : Int) = true := by simp only [iLe, decide_eq_true_eq]; omega
 have hn : iLe n (len : Int) = true := by simp only [iLe, decide_eq_true_eq]; omega
 unfold Tj
 rw [fh (p := fun i => s == (i : Int) + 1) (q := fun i => n == (i : Int) + 1) len (fun j _ hp => by
  have e1 : s = (j : Int) + 1 := by simpa using hp
  show (n == (j : Int) + 1) = false
  rw [beq_eq_false_iff_ne]
  intro e2
  have e3 : (s == n) = true := by rw [beq_iff_eq]; omega
  have e4 : (s == 0) = false := by rw [beq_eq_false_iff_ne]; omega
  rw [e3, e4] at hd; cases hd), bR s len h1.1, bR n len h2.1, hs, hn, Bool.and_true, Bool.and_true, iz]
theorem iu (x : Int) : iLt 0 x = !iLt x 1 := by
 unfold iLt
 rw [Bool.eq_iff_iff]
 simp only [decide_eq_true_eq, Bool.not_eq_true', decide_eq_false_iff_not]
 omega
theorem gJ {L : Rows} {s n : Int} (h1 : 0 ≤ s ∧ s ≤ (L.length : Int)) (h2 : 0 ≤ n ∧ n ≤ (L.length : Int)) (hd : (s == n && !(s == 0)) = false) :
    (!A5 (Ox L s n) L.length 0 && two s n == ins L) = !A5 (Xb L s n) L.length 0 := by
  have h2c := ic h1 h2 hd
  rw [Bool.eq_iff_iff]
  simp only [Bool.and_eq_true, Bool.not_eq_true', I4, beq_iff_eq]
  constructor
  · intro ⟨ha, hb⟩ j _ hj
    have hm : ∀ j, j < L.length → pIs L 1 j = true → Tj s n j = true := fun j hj hp => by
      have := ha j (Nat.zero_le _) (by omega)
      unfold Ox at this
      rw [hp] at this
      simp only [Bool.or_eq_false_iff, Bool.true_and, Bool.not_eq_false'] at this
      exact this.2
    have he := ep L.length hm (by rw [← h2c, hb]; rfl) j (by omega)
    have := ha j (Nat.zero_le _) hj
    unfold Ox at this
    unfold Xb
    rw [Bool.or_eq_false_iff] at this ⊢
    exact ⟨this.1, by rw [he]; simp⟩
  · intro ha
    have hm : ∀ j, j < L.length → pIs L 1 j = Tj s n j := fun j hj => by
      have := ha j (Nat.zero_le _) (by omega)
      unfold Xb at this
      rw [Bool.or_eq_false_iff] at this
      simpa using this.2
    refine ⟨fun j h0 hj => ?_, ?_⟩
    · have := ha j h0 hj
      unfold Xb at this
      unfold Ox
      rw [Bool.or_eq_false_iff] at this ⊢
      refine ⟨this.1, ?_⟩
      rw [hm j (by omega)]
      cases Tj s n j <;> rfl
    · rw [h2c]
      exact (ZE L.length hm).symm
theorem jX (L : Rows) (s n wk k : Int) (hk : (L.length : Int) = k) : Zt L s n wk k = (btw s 0 k && btw n 0 k && XM L s n wk) := by
 subst hk
 unfold Zt XM
 cases hs : btw s 0 (L.length : Int) with
 | false => simp only [Bool.false_and, Bool.and_false]
 | true =>
  cases hn : btw n 0 (L.length : Int) with
  | false => simp only [Bool.false_and, Bool.and_false]
  | true =>
   have h1 : 0 ≤ s ∧ s ≤ (L.length : Int) := by simpa [btw, iLe] using hs
   have h2 : 0 ≤ n ∧ n ≤ (L.length : Int) := by simpa [btw, iLe] using hn
   simp only [Bool.true_and]
   cases hd : (s == n && !(s == 0)) with
   | true =>
    have : (!(s == 0) && s == n) = true := by rw [Bool.and_comm]; exact hd
    rw [this]
    simp only [Bool.or_true, Bool.not_true, Bool.false_and, Bool.and_false]
   | false =>
    have : (!(s == 0) && s == n) = false := by rw [Bool.and_comm]; exact hd
    rw [this, ← gJ h1 h2 hd]
    simp only [Bool.or_false, Bool.not_false, Bool.true_and]
    rw [show (wk == Yn L) = (Yn L == wk) from BEq.comm]
    cases hA : A5 (Ox L s n) L.length 0 with
    | true => rfl
    | false =>
     cases hB : two s n == ins L with
     | false => rfl
     | true =>
      rw [beq_iff_eq.1 hB, iu]
      simp only [Bool.true_and, Bool.not_false, Bool.not_and]
end Go.Px
end
section
namespace Go.Px
set_option maxRecDepth 100000
def Hz (v : Int) : Bool := !btw v 0 1000000000
def cG (x1 x3 x5 x6 x7 x8 x9 x10 x21 x23 x25 x26 : Int) : Rows := [[.int x1], [.int x3], [.int x5], [.int x6], [.int x7], [.int x8], [.int x9], [.int x10], [.int x21], [.int x23], [.int x25], [.int x26]]
section
variable (N : Nat) (L14 L16 L17 L19 L24 : Rows) (b18 b20 : Bool) (x0 x1 x2 x3 x4 x5 x6 x7 x8 x9 x10 x11 x12 x13 x15 x21 x22 x23 x25 x26 x27 : Int)
theorem Uy (hN : 2097152 < N) (hl : L19.length ≤ 1048576) : Dv N (lsI L14 L16 L17 L19 L24 b18 b20 x0 x1 x2 x3 x4 x5 x6 x7 x8 x9 x10 x11 x12 x13 x15 x21 x22 x23 x25 x26 x27) = some [.bool (!(JD Hz (cG x1 x3 x5 x6 x7 x8 x9 x10 x21 x23 x25 x26) || JD Hz L19))] := by
 show Fp (std (HX N) N) (xOf (lsI ..)) = _
 have e : ∀ ls, HX N 107 [] ls = C2 N ls := fun ls => rfl
 rw [← bZ]
 simp only [Fp, std, xOf, lsI, PXb, PXc, PXn, AD, cG]
 generalize hM : ([PV.int x1] :: [PV.int x3] :: [PV.int x5] :: [PV.int x6] :: [PV.int x7] :: [PV.int x8] :: [PV.int x9] :: [PV.int x10] :: [PV.int x21] :: [PV.int x23] :: [PV.int x25] :: [PV.int x26] :: L19 : Rows) = M
 have hM2 : M.length ≤ 2097152 := by rw [← hM]; simp only [List.length_cons]; omega
 rw [Jt (n := M.length) (by omega) (by omega)]
 simp only [PXb, PXc, PXn, AD]
 rw [Option.bind_assoc]
 refine AZ (Cp (len := M.length) (Fj fun i => Hz (atI M i 0)) ?_ ?_ M.length 0 N (by omega) (by omega)) ?_
 ·intro self
  simp only [PXb, PXc, PXn, AD, BM]
 ·intro i self hi
  simp only [PXb, PXc, PXn, AD, Ag (show i ≤ 1099511627776 by omega), A4 hi, Ae hi, Fj, Cb, e, R3, Hz]
  cases btw (atI M i 0) 0 1000000000 <;> rfl
 ·unfold JD
  rw [← Ig]
  unfold Nm
  cases Bu (Fj fun i => Hz (atI M i 0)) M.length 0 <;> rfl
end
def Y4 (a3 x2 : Int) : Bool := cond (a3 == 0) (x2 == 0) (btw x2 1 a3)
def R0 (s : ByteArray) (a1 a2 a3 a4 a5 a6 a7 a9 a10 a11 a12 : Int) (La L14 L16 L17 L19 L24 : Rows) (x0 x1 x2 x3 x4 x5 x6 x7 x8 x9 x10 x11 x12 x13 x15 x21 x22 x23 x25 x26 x27 : Int) : Bool :=
  KW s a1 a2 a3 a4 a5 a6 a7 a9 a10 a11 a12 La == 0 && (btw x0 1 2 && ((L14.length : Int) == a1 && ((L19.length : Int) == a1 && ((L24.length : Int) == a1 && (!iLt 5 x27 &&
    (btw x12 0 a1 && (btw x13 0 a1 && (XM L14 x12 x13 x4 && (btw x15 0 a1 && (btw x22 0 a1 && (JO L16 a1 && (JO L17 a1 && (Y4 a3 x2 && (btw x11 0 (IntKind.i64.wrap (a4 - 1)) &&
      (!JD Hz (cG x1 x3 x5 x6 x7 x8 x9 x10 x21 x23 x25 x26) && !JD Hz L19)))))))))))))))
theorem jA {a : Int} (h : 0 ≤ a) : iLt 0 a = !(a == 0) := by
 unfold iLt
 rw [Bool.eq_iff_iff]
 simp only [decide_eq_true_eq, Bool.not_eq_true', beq_eq_false_iff_ne]
 omega
section
variable (N : Nat) (s : ByteArray) (a1 a2 a3 a4 a5 a6 a7 a9 a10 a11 a12 : Int) (a8 : Bool) (La : Rows) (L14 L16 L17 L19 L24 : Rows) (b18 b20 : Bool) (x0 x1 x2 x3 x4 x5 x6 x7 x8 x9 x10 x11 x12 x13 x15 x21 x22 x23 x25 x26 x27 : Int)
theorem PZ (hN : 2097152 < N) (hs : s.size ≤ 1048576) (h14 : L14.length ≤ 1048576) (h16 : L16.length ≤ 1048576) (h17 : L17.length ≤ 1048576) (h19 : L19.length ≤ 1048576) : A8 N ([.str s, .int a1, .int a2, .int a3, .int a4, .int a5, .int a6, .int a7, .bool a8, .int a9, .int a10, .int a11, .int a12, .rows La] ++ lsI L14 L16 L17 L19 L24 b18 b20 x0 x1 x2 x3 x4 x5 x6 x7 x8 x9 x10 x11 x12 x13 x15 x21 x22 x23 x25 x26 x27) = some [.bool (R0 s a1 a2 a3 a4 a5 a6 a7 a9 a10 a11 a12 La L14 L16 L17 L19 L24 x0 x1 x2 x3 x4 x5 x6 x7 x8 x9 x10 x11 x12 x13 x15 x21 x22 x23 x25 x26 x27)] := by
 simp only [lsI, List.cons_append, List.nil_append]
 show Hq (std (B9 N) N) (xOf _) = _
 have e1 : ∀ ls, B9 N 35 [] ls = AM N ls := fun ls => rfl
 have e2 : ∀ ls, B9 N 89 [] ls = Aa N ls := fun ls => rfl
 have e3 : ∀ ls, B9 N 90 [] ls = Dx N ls := fun ls => rfl
 have e4 : ∀ ls, B9 N 91 [] ls = C3 N ls := fun ls => rfl
 have e5 : ∀ ls, B9 N 92 [] ls = Dv N ls := fun ls => rfl
 have l54 := UF N L14 L16 L17 L19 L24 b18 b20 x0 x1 x2 x3 x4 x5 x6 x7 x8 x9 x10 x11 x12 x13 x15 x21 x22 x23 x25 x26 x27 a1 (by omega) (by omega)
 have l56 := Uy N L14 L16 L17 L19 L24 b18 b20 x0 x1 x2 x3 x4 x5 x6 x7 x8 x9 x10 x11 x12 x13 x15 x21 x22 x23 x25 x26 x27 (by omega) (by omega)
 simp only [lsI, List.cons_append, List.nil_append] at l54 l56
 simp only [Hq, std, xOf, PXb, PXc, PXn, AD, e1, e2, e3, e4, e5, Rl N s _ _ _ _ _ _ _ _ _ _ _ _ _ hN hs, DP, l54, l56, Kx N L16 _ (by omega) (by omega), Kx N L17 _ (by omega) (by omega)]
 unfold R0 Y4
 cases hc : KW s a1 a2 a3 a4 a5 a6 a7 a9 a10 a11 a12 La == 0 <;> try rfl
 cases btw x0 1 2 <;> try rfl
 cases h14 : (L14.length : Int) == a1 <;> try rfl
 cases (L19.length : Int) == a1 <;> try rfl
 cases (L24.length : Int) == a1 <;> try rfl
 cases iLt 5 x27 <;> try rfl
 rw [jX L14 x12 x13 x4 a1 (beq_iff_eq.1 h14)]
 cases btw x12 0 a1 <;> try rfl
 cases btw x13 0 a1 <;> try rfl
 cases XM L14 x12 x13 x4 <;> try rfl
 cases btw x15 0 a1 <;> try rfl
 cases btw x22 0 a1 <;> try rfl
 cases JO L16 a1 <;> try rfl
 cases JO L17 a1 <;> try rfl
 cases a3 == 0 <;> cases x2 == 0 <;> cases btw x2 1 a3 <;> rfl
end
end Go.Px
end
section
namespace Go.Px
set_option maxRecDepth 100000
def gG (v : Bool) (L : Rows) (s n : Int) (x1 x2 x3 x10 : Int) : Int :=
 cond (!v) 0 (cond (iLt 0 x1 && iLe x1 x3) 3 (cond (K1 L s n && ((El L L.length).length : Int) == 0) 1 (cond (iLt 0 x2 && iLe x2 x10) 2 0)))
theorem kE {c : Int} {n : Nat} (hc : 0 ≤ c) : iRg 0 (cond (iLt c (n : Int)) c (n : Int)) (n : Int) = true := by
 cases h : iLt c (n : Int) with
 | true => simp only [iLt, decide_eq_true_eq] at h; simp only [cond_true, iRg, decide_eq_true_eq]; omega
 | false => simp only [cond_false, iRg, decide_eq_true_eq]; omega
def cut (L : Rows) (c : Int) : Rows := (L.take (cond (iLt c (L.length : Int)) c (L.length : Int)).toNat).drop (0 : Int).toNat
end Go.Px
end
section
namespace Go.Px
set_option maxRecDepth 100000
section
variable (N : Nat) (s : ByteArray) (a1 a2 a3 a4 a5 a6 a7 a9 a10 a11 a12 : Int) (a8 : Bool) (La : Rows) (L14 L16 L17 L19 L24 : Rows) (b18 b20 : Bool) (x0 x1 x2 x3 x4 x5 x6 x7 x8 x9 x10 x11 x12 x13 x15 x21 x22 x23 x25 x26 x27 : Int)
theorem VL (hN : 2097152 < N) (hs : s.size ≤ 1048576) (h14 : L14.length ≤ 1048576) (h16 : L16.length ≤ 1048576) (h17 : L17.length ≤ 1048576) (h19 : L19.length ≤ 1048576) : C5 N ([.str s, .int a1, .int a2, .int a3, .int a4, .int a5, .int a6, .int a7, .bool a8, .int a9, .int a10, .int a11, .int a12, .rows La] ++ lsI L14 L16 L17 L19 L24 b18 b20 x0 x1 x2 x3 x4 x5 x6 x7 x8 x9 x10 x11 x12 x13 x15 x21 x22 x23 x25 x26 x27) =
    some [.int (gG (R0 s a1 a2 a3 a4 a5 a6 a7 a9 a10 a11 a12 La L14 L16 L17 L19 L24 x0 x1 x2 x3 x4 x5 x6 x7 x8 x9 x10 x11 x12 x13 x15 x21 x22 x23 x25 x26 x27) L14 x12 x13 x1 x2 x3 x10)] := by
  simp only [lsI, List.cons_append, List.nil_append]
  show G0 (std (DG N) N) (xOf _) = _
  have e1 : ∀ ls, DG N 61 [] ls = A8 N ls := fun ls => rfl
  have e2 : ∀ ls, DG N 140 [] ls = A9 N ls := fun ls => rfl
  have e3 : ∀ ls, DG N 141 [] ls = CT N ls := fun ls => rfl
  have l16 := PZ N s a1 a2 a3 a4 a5 a6 a7 a9 a10 a11 a12 a8 La L14 L16 L17 L19 L24 b18 b20 x0 x1 x2 x3 x4 x5 x6 x7 x8 x9 x10 x11 x12 x13 x15 x21 x22 x23 x25 x26 x27 hN hs h14 h16 h17 h19
  have l61 := WL N L14 L16 L17 L19 L24 b18 b20 x0 x1 x2 x3 x4 x5 x6 x7 x8 x9 x10 x11 x12 x13 x15 x21 x22 x23 x25 x26 x27 (by omega) (by omega)
  have l62 := YW N L14 L16 L17 L19 L24 b18 b20 x0 x1 x2 x3 x4 x5 x6 x7 x8 x9 x10 x11 x12 x13 x15 x21 x22 x23 x25 x26 x27 (by omega) (by omega)
  simp only [lsI, List.cons_append, List.nil_append] at l16 l61 l62
  simp only [G0, std, xOf, PXb, PXc, PXn, AD, e1, e2, e3, l16, l61, l62, gG]
  cases R0 s a1 a2 a3 a4 a5 a6 a7 a9 a10 a11 a12 La L14 L16 L17 L19 L24 x0 x1 x2 x3 x4 x5 x6 x7 x8 x9 x10 x11 x12 x13 x15 x21 x22 x23 x25 x26 x27 <;> try rfl
  cases (iLt 0 x1 && iLe x1 x3) <;> try rfl
  cases K1 L14 x12 x13
  · cases (iLt 0 x2 && iLe x2 x10) <;> rfl
  · simp only [PXb, PXc, PXn, AD]
    cases ((El L14 L14.length).length : Int) == 0 <;> cases (iLt 0 x2 && iLe x2 x10) <;> rfl
end
end Go.Px
end
section
namespace Go.Px
set_option maxRecDepth 100000
section
variable (N : Nat) (s : ByteArray) (a1 a2 a3 a4 a5 a6 a7 a9 a10 a11 a12 : Int) (a8 : Bool) (La : Rows) (L14 L16 L17 L19 L24 : Rows) (b18 b20 : Bool) (x0 x1 x2 x3 x4 x5 x6 x7 x8 x9 x10 x11 x12 x13 x15 x21 x22 x23 x25 x26 x27 : Int)
def cC (a4 x10 x11 : Int) : Int := IntKind.i64.wrap (IntKind.i64.wrap (x10 * a4) + x11)
end
end Go.Px
end
section
namespace Go.Px
set_option maxRecDepth 100000
def Ay (r : Rul) : Int := KW r.name r.side r.innings r.overs r.balls r.quota r.wide r.noball r.newball r.followon r.reviews r.outside r.power
theorem Cq {N : Nat} {r1 r2 r3 r4 r5 r6 r7 r9 r10 r11 r12 : Int} {r8 : Bool} {r0 : ByteArray} {r13 : Rows} (hN : 2097152 < N) (hs : r0.size ≤ 1048576) : AM N [.str r0, .int r1, .int r2, .int r3, .int r4, .int r5, .int r6, .int r7, .bool r8, .int r9, .int r10, .int r11, .int r12, .rows r13] = some [.int (Ay (⟨r0, r1, r2, r3, r4, r5, r6, r7, r8, r9, r10, r11, r12, r13⟩ : Rul))] := by
 exact Rl N _ _ _ _ _ _ _ _ _ _ _ _ _ _ hN hs
theorem RC {N : Nat} {s0 s1 s2 s3 s4 s5 s6 s7 s8 s9 s10 s11 s12 s13 s15 s21 s22 s23 s25 s26 s27 : Int} {s18 s20 : Bool} {s14 s16 s17 s19 s24 : Rows} (h : Fit s14 s16 s17 s19 s24) : CO N [.int s0, .int s1, .int s2, .int s3, .int s4, .int s5, .int s6, .int s7, .int s8, .int s9, .int s10, .int s11, .int s12, .int s13, .rows s14, .int s15, .rows s16, .rows s17, .bool s18, .rows s19, .bool s20, .int s21, .int s22, .int s23, .rows s24, .int s25, .int s26, .int s27] = some [.int s0, .int s1, .int s2, .int s3, .int s4, .int s5, .int s6, .int s7, .int s8, .int s9, .int s10, .int s11, .int s12, .int s13, .rows s14, .int s15, .rows s16, .rows s17, .bool s18, .rows s19, .bool s20, .int s21, .int s22, .int s23, .rows s24, .int s25, .int s26, .int s27] := by
 show M1 (std (HB N) N) (xOf _) = _
 simp only [M1, Ko, MN, L1, std, xOf, PXb, PXc, PXn, PXm, Nat.reduceAdd, Int.reduceBEq, AN, AX, AU, BG h.bt (show 1 ≤ 4096 by omega), BG h.bw' (show 8 ≤ 4096 by omega), BG h.bf (show 8 ≤ 4096 by omega), BG h.bd (show 8 ≤ 4096 by omega), BG h.sb (show 1 ≤ 4096 by omega)]
theorem RA {N : Nat} {s0 s1 s2 s3 s4 s5 s6 s7 s8 s9 s10 s11 s12 s13 s15 s21 s22 s23 s25 s26 s27 : Int} {s18 s20 : Bool} {s14 s16 s17 s19 s24 : Rows} (h : Fit s14 s16 s17 s19 s24) : CL N [.int s0, .int s1, .int s2, .int s3, .int s4, .int s5, .int s6, .int s7, .int s8, .int s9, .int s10, .int s11, .int s12, .int s13, .rows s14, .int s15, .rows s16, .rows s17, .bool s18, .rows s19, .bool s20, .int s21, .int s22, .int s23, .rows s24, .int s25, .int s26, .int s27] = some [.int s0, .int s1, .int s2, .int s3, .int s4, .int s5, .int s6, .int s7, .int s8, .int s9, .int s10, .int s11, .int s12, .int s13, .rows s14, .int s15, .rows s16, .rows s17, .bool s18, .rows s19, .bool s20, .int s21, .int s22, .int s23, .rows s24, .int s25, .int s26, .int s27] := by
 show Mm (std (G9 N) N) (xOf _) = _
 simp only [Mm, Kj, MS, L0, std, xOf, PXb, PXc, PXn, PXm, Nat.reduceAdd, Int.reduceBEq, AN, AX, AU, BG h.bt (show 1 ≤ 4096 by omega), BG h.bw' (show 8 ≤ 4096 by omega), BG h.bf (show 8 ≤ 4096 by omega), BG h.bd (show 8 ≤ 4096 by omega), BG h.sb (show 1 ≤ 4096 by omega)]
theorem Bq {N : Nat} {s0 s1 s2 s3 s4 s5 s6 s7 s8 s9 s10 s11 s12 s13 s15 s21 s22 s23 s25 s26 s27 : Int} {s18 s20 : Bool} {s14 s16 s17 s19 s24 : Rows} (h : Fit s14 s16 s17 s19 s24) : AK N [.int s0, .int s1, .int s2, .int s3, .int s4, .int s5, .int s6, .int s7, .int s8, .int s9, .int s10, .int s11, .int s12, .int s13, .rows s14, .int s15, .rows s16, .rows s17, .bool s18, .rows s19, .bool s20, .int s21, .int s22, .int s23, .rows s24, .int s25, .int s26, .int s27] = some [.int s0, .int s1, .int s2, .int s3, .int s4, .int s5, .int s6, .int s7, .int s8, .int s9, .int s10, .int s11, .int s12, .int s13, .rows s14, .int s15, .rows s16, .rows s17, .bool s18, .rows s19, .bool s20, .int s21, .int s22, .int s23, .rows s24, .int s25, .int s26, .int s27] := by
 show Hc (std (Dt N) N) (xOf _) = _
 simp only [Hc, Iq, J9, JN, std, xOf, PXb, PXc, PXn, PXm, Nat.reduceAdd, Int.reduceBEq, AN, AX, AU, BG h.bt (show 1 ≤ 4096 by omega), BG h.bw' (show 8 ≤ 4096 by omega), BG h.bf (show 8 ≤ 4096 by omega), BG h.bd (show 8 ≤ 4096 by omega), BG h.sb (show 1 ≤ 4096 by omega)]
theorem Nn {N : Nat} {s0 s1 s2 s3 s4 s5 s6 s7 s8 s9 s10 s11 s12 s13 s15 s21 s22 s23 s25 s26 s27 : Int} {s18 s20 : Bool} {s14 s16 s17 s19 s24 : Rows} {p : Int}  : Bf N [.int s0, .int s1, .int s2, .int s3, .int s4, .int s5, .int s6, .int s7, .int s8, .int s9, .int s10, .int s11, .int s12, .int s13, .rows s14, .int s15, .rows s16, .rows s17, .bool s18, .rows s19, .bool s20, .int s21, .int s22, .int s23, .rows s24, .int s25, .int s26, .int s27, .int p] = some [.bool (inR p s19.length)] := by
 show J1 (std (QL N) N) (xOf _) = _
 simp only [J1, std, xOf, PXb, PXc, PXn, PXm, Nat.reduceAdd, Int.reduceBEq]
 rfl
theorem HI {N : Nat} {s0 s1 s2 s3 s4 s5 s6 s7 s8 s9 s10 s11 s12 s13 s15 s21 s22 s23 s25 s26 s27 : Int} {s18 s20 : Bool} {s14 s16 s17 s19 s24 : Rows} {p : Int}  : Ao N [.int s0, .int s1, .int s2, .int s3, .int s4, .int s5, .int s6, .int s7, .int s8, .int s9, .int s10, .int s11, .int s12, .int s13, .rows s14, .int s15, .rows s16, .rows s17, .bool s18, .rows s19, .bool s20, .int s21, .int s22, .int s23, .rows s24, .int s25, .int s26, .int s27, .int p] = some [.bool (inR p s24.length)] := by
 show Jn (std (Qq N) N) (xOf _) = _
 simp only [Jn, std, xOf, PXb, PXc, PXn, PXm, Nat.reduceAdd, Int.reduceBEq]
 rfl
def atB (L : Rows) (i j : Nat) : Bool := pvB (AH L i j)
theorem Y1 (L : Rows) (i j : Nat) : pvB (AH L i j) = atB L i j := rfl
def Gt (s : Inn) (p : Int) : Bool := inR p s.subs.length && atB s.subs (ix p) 0
theorem Gq {N : Nat} {s0 s1 s2 s3 s4 s5 s6 s7 s8 s9 s10 s11 s12 s13 s15 s21 s22 s23 s25 s26 s27 : Int} {s18 s20 : Bool} {s14 s16 s17 s19 s24 : Rows} {p : Int} (h : s24.length ≤ 1048576) : Am N [.int s0, .int s1, .int s2, .int s3, .int s4, .int s5, .int s6, .int s7, .int s8, .int s9, .int s10, .int s11, .int s12, .int s13, .rows s14, .int s15, .rows s16, .rows s17, .bool s18, .rows s19, .bool s20, .int s21, .int s22, .int s23, .rows s24, .int s25, .int s26, .int s27, .int p] = some [.bool (Gt (⟨s0, s1, s2, s3, s4, s5, s6, s7, s8, s9, s10, s11, s12, s13, s14, s15, s16, s17, s18, s19, s20, s21, s22, s23, s24, s25, s26, s27⟩ : Inn) p)] := by
 show Gm (std (IE N) N) (xOf _) = _
 generalize hres : (some [.bool (Gt (⟨s0, s1, s2, s3, s4, s5, s6, s7, s8, s9, s10, s11, s12, s13, s14, s15, s16, s17, s18, s19, s20, s21, s22, s23, s24, s25, s26, s27⟩ : Inn) p)] : Option (List PV)) = RR
 simp only [Gm, Mi, std, xOf, PXb, PXc, PXn, PXm, Nat.reduceAdd, Int.reduceBEq, HI, jf h]
 subst hres; simp only [Gt]
 cases hp : inR p s24.length with
 | false => rfl
 | true => first | rfl | (rw [J0 hp h]; rfl)
def dz (x : Int) : Int := cond (iLt x 0) 0 x
def Xq (r : Rul) (s : Inn) (p : Int) : Int :=
 cond (!inR p s.bowled.length || !(Ay r == 0)) 0 (cond (r.quota == 0) (-1) (dz (IntKind.i64.wrap (IntKind.i64.wrap (r.quota * r.balls) - dz (atI s.bowled (ix p) 0)))))
theorem bi {N : Nat} {r1 r2 r3 r4 r5 r6 r7 r9 r10 r11 r12 : Int} {r8 : Bool} {r0 : ByteArray} {r13 : Rows} {s0 s1 s2 s3 s4 s5 s6 s7 s8 s9 s10 s11 s12 s13 s15 s21 s22 s23 s25 s26 s27 : Int} {s18 s20 : Bool} {s14 s16 s17 s19 s24 : Rows} {p : Int} (h : Fit s14 s16 s17 s19 s24) (hN : 2097152 < N) (hs : r0.size ≤ 1048576) : IB N [.str r0, .int r1, .int r2, .int r3, .int r4, .int r5, .int r6, .int r7, .bool r8, .int r9, .int r10, .int r11, .int r12, .rows r13, .int s0, .int s1, .int s2, .int s3, .int s4, .int s5, .int s6, .int s7, .int s8, .int s9, .int s10, .int s11, .int s12, .int s13, .rows s14, .int s15, .rows s16, .rows s17, .bool s18, .rows s19, .bool s20, .int s21, .int s22, .int s23, .rows s24, .int s25, .int s26, .int s27, .int p] = some [.int (Xq (⟨r0, r1, r2, r3, r4, r5, r6, r7, r8, r9, r10, r11, r12, r13⟩ : Rul) (⟨s0, s1, s2, s3, s4, s5, s6, s7, s8, s9, s10, s11, s12, s13, s14, s15, s16, s17, s18, s19, s20, s21, s22, s23, s24, s25, s26, s27⟩ : Inn) p)] := by
 show LO (std (Im N) N) (xOf _) = _
 generalize hres : (some [.int (Xq (⟨r0, r1, r2, r3, r4, r5, r6, r7, r8, r9, r10, r11, r12, r13⟩ : Rul) (⟨s0, s1, s2, s3, s4, s5, s6, s7, s8, s9, s10, s11, s12, s13, s14, s15, s16, s17, s18, s19, s20, s21, s22, s23, s24, s25, s26, s27⟩ : Inn) p)] : Option (List PV)) = RR
 simp only [LO, Pw, Pf, std, xOf, PXb, PXc, PXn, PXm, Nat.reduceAdd, Int.reduceBEq, Cq hN hs, Nn]
 subst hres; simp only [Xq]
 cases hp : inR p s19.length with
 | false => rfl
 | true => rw [J0 hp h.bd]; cases Ay (⟨r0, r1, r2, r3, r4, r5, r6, r7, r8, r9, r10, r11, r12, r13⟩ : Rul) == 0 <;> cases r5 == 0 <;> rfl
theorem Kb {N : Nat} {L : Rows} {v : Int} (hN : 2097152 < N) (hl : L.length ≤ 1048576) : Af N [.rows L, .int v] = some [.bool (JA L L.length v)] := by
 exact JX N L v (by omega) (by omega)
def O5 (r : Rul) (s : Inn) (p : Int) : Int :=
  cond (!inR p s.bowled.length || !(Ay r == 0)) 3 (cond (p == s.keeper || p == s.bowler || Gt s p) 7
    (cond (JA s.before s.before.length p) 8 (cond (!(Xq r s p == -1) && iLt s.inover (IntKind.i64.wrap (r.balls - Xq r s p))) 9 0)))
theorem fQ {p : Int} {n m : Nat} (h : inR p n = true) : inR p m = iLe p (m : Int) := by
 unfold inR at h ⊢
 rw [Bool.and_eq_true] at h
 rw [h.1, Bool.true_and]
theorem cp {N : Nat} {r1 r2 r3 r4 r5 r6 r7 r9 r10 r11 r12 : Int} {r8 : Bool} {r0 : ByteArray} {r13 : Rows} {s0 s1 s2 s3 s4 s5 s6 s7 s8 s9 s10 s11 s12 s13 s15 s21 s22 s23 s25 s26 s27 : Int} {s18 s20 : Bool} {s14 s16 s17 s19 s24 : Rows} {p : Int} (h : Fit s14 s16 s17 s19 s24) (hN : 2097152 < N) (hs : r0.size ≤ 1048576) : Ji N [.str r0, .int r1, .int r2, .int r3, .int r4, .int r5, .int r6, .int r7, .bool r8, .int r9, .int r10, .int r11, .int r12, .rows r13, .int s0, .int s1, .int s2, .int s3, .int s4, .int s5, .int s6, .int s7, .int s8, .int s9, .int s10, .int s11, .int s12, .int s13, .rows s14, .int s15, .rows s16, .rows s17, .bool s18, .rows s19, .bool s20, .int s21, .int s22, .int s23, .rows s24, .int s25, .int s26, .int s27, .int p] = some [.int (O5 (⟨r0, r1, r2, r3, r4, r5, r6, r7, r8, r9, r10, r11, r12, r13⟩ : Rul) (⟨s0, s1, s2, s3, s4, s5, s6, s7, s8, s9, s10, s11, s12, s13, s14, s15, s16, s17, s18, s19, s20, s21, s22, s23, s24, s25, s26, s27⟩ : Inn) p)] := by
 show Mx (std (E5 N) N) (xOf _) = _
 generalize hres : (some [.int (O5 (⟨r0, r1, r2, r3, r4, r5, r6, r7, r8, r9, r10, r11, r12, r13⟩ : Rul) (⟨s0, s1, s2, s3, s4, s5, s6, s7, s8, s9, s10, s11, s12, s13, s14, s15, s16, s17, s18, s19, s20, s21, s22, s23, s24, s25, s26, s27⟩ : Inn) p)] : Option (List PV)) = RR
 simp only [Mx, P1, Kq, P0, Q2, std, xOf, PXb, PXc, PXn, PXm, Nat.reduceAdd, Int.reduceBEq, Cq hN hs, Nn, bi h hN hs, Kb hN h.bf]
 subst hres; simp only [O5, Gt]
 cases hp : inR p s19.length with
 | false => rfl
 | true =>
  rw [fQ (m := s24.length) hp]
  have hq : (!(iLe p (s24.length : Int)) || iIn (IntKind.i64.wrap (p - 1)) (s24.length : Int)) = true := by
   cases h1 : iLe p (s24.length : Int) with
   | false => rfl
   | true => rw [J0 (by rw [fQ hp]; exact h1) h.sb]; rfl
  rw [hq]
  cases Ay (⟨r0, r1, r2, r3, r4, r5, r6, r7, r8, r9, r10, r11, r12, r13⟩ : Rul) == 0 <;> rfl
def VD (r : Rul) (s : Inn) (p : Int) : Inn × Int := (cond (O5 r s p == 0) { s with bowler := p } s, O5 r s p)
theorem ao {N : Nat} {r1 r2 r3 r4 r5 r6 r7 r9 r10 r11 r12 : Int} {r8 : Bool} {r0 : ByteArray} {r13 : Rows} {s0 s1 s2 s3 s4 s5 s6 s7 s8 s9 s10 s11 s12 s13 s15 s21 s22 s23 s25 s26 s27 : Int} {s18 s20 : Bool} {s14 s16 s17 s19 s24 : Rows} {p : Int} (h : Fit s14 s16 s17 s19 s24) (hN : 2097152 < N) (hs : r0.size ≤ 1048576) : IJ N [.str r0, .int r1, .int r2, .int r3, .int r4, .int r5, .int r6, .int r7, .bool r8, .int r9, .int r10, .int r11, .int r12, .rows r13, .int s0, .int s1, .int s2, .int s3, .int s4, .int s5, .int s6, .int s7, .int s8, .int s9, .int s10, .int s11, .int s12, .int s13, .rows s14, .int s15, .rows s16, .rows s17, .bool s18, .rows s19, .bool s20, .int s21, .int s22, .int s23, .rows s24, .int s25, .int s26, .int s27, .int p] = some (BA (VD (⟨r0, r1, r2, r3, r4, r5, r6, r7, r8, r9, r10, r11, r12, r13⟩ : Rul) (⟨s0, s1, s2, s3, s4, s5, s6, s7, s8, s9, s10, s11, s12, s13, s14, s15, s16, s17, s18, s19, s20, s21, s22, s23, s24, s25, s26, s27⟩ : Inn) p)) := by
 show Li (std (Ik N) N) (xOf _) = _
 generalize hres : (some (BA (VD (⟨r0, r1, r2, r3, r4, r5, r6, r7, r8, r9, r10, r11, r12, r13⟩ : Rul) (⟨s0, s1, s2, s3, s4, s5, s6, s7, s8, s9, s10, s11, s12, s13, s14, s15, s16, s17, s18, s19, s20, s21, s22, s23, s24, s25, s26, s27⟩ : Inn) p)) : Option (List PV)) = RR
 simp only [Li, Qy, Qx, std, xOf, PXb, PXc, PXn, PXm, Nat.reduceAdd, Int.reduceBEq, RC h, cp h hN hs]
 subst hres; simp only [VD]
 cases O5 (⟨r0, r1, r2, r3, r4, r5, r6, r7, r8, r9, r10, r11, r12, r13⟩ : Rul) (⟨s0, s1, s2, s3, s4, s5, s6, s7, s8, s9, s10, s11, s12, s13, s14, s15, s16, s17, s18, s19, s20, s21, s22, s23, s24, s25, s26, s27⟩ : Inn) p == 0 <;> rfl
def hC (x : Inn × Bool) : List PV := [.int x.1.side, .int x.1.target, .int x.1.overs, .int x.1.runs, .int x.1.wickets, .int x.1.wides, .int x.1.noballs, .int x.1.byes, .int x.1.legbyes, .int x.1.pens, .int x.1.complete, .int x.1.inover, .int x.1.striker, .int x.1.other, .rows x.1.batters, .int x.1.bowler, .rows x.1.bowlers, .rows x.1.before, .bool x.1.fresh, .rows x.1.bowled, .bool x.1.freehit, .int x.1.ballage, .int x.1.keeper, .int x.1.outside, .rows x.1.subs, .int x.1.rev1, .int x.1.rev2, .int x.1.ending, .bool x.2]
def inc (x : Int) : Int := IntKind.i64.wrap (x + 1)
def Jo (r : Rul) (s : Inn) (counts : Bool) : Inn × Bool :=
  cond (!inR s.bowler s.bowled.length || !(Ay r == 0)) (s, false)
    (let L := cond (JA s.bowlers s.bowlers.length s.bowler) s.bowlers (s.bowlers ++ [[.int s.bowler]])
     let o := cond counts (inc s.inover) s.inover
     let t : Inn := { s with bowlers := L, bowled := cond counts (Mj s.bowled s.bowler (inc (atI s.bowled (ix s.bowler) 0))) s.bowled, inover := o, ballage := cond counts (inc s.ballage) s.ballage }
     cond (iLt o r.balls) (t, false) ({ t with complete := inc s.complete, inover := 0, before := L, bowlers := [], bowler := 0 }, true))
theorem bh {N : Nat} {r1 r2 r3 r4 r5 r6 r7 r9 r10 r11 r12 : Int} {r8 : Bool} {r0 : ByteArray} {r13 : Rows} {s0 s1 s2 s3 s4 s5 s6 s7 s8 s9 s10 s11 s12 s13 s15 s21 s22 s23 s25 s26 s27 : Int} {s18 s20 : Bool} {s14 s16 s17 s19 s24 : Rows} {b : Bool} (h : Fit s14 s16 s17 s19 s24) (hw : s16.length ≤ 1048575) (hN : 2097152 < N) (hs : r0.size ≤ 1048576) : Hx N [.str r0, .int r1, .int r2, .int r3, .int r4, .int r5, .int r6, .int r7, .bool r8, .int r9, .int r10, .int r11, .int r12, .rows r13, .int s0, .int s1, .int s2, .int s3, .int s4, .int s5, .int s6, .int s7, .int s8, .int s9, .int s10, .int s11, .int s12, .int s13, .rows s14, .int s15, .rows s16, .rows s17, .bool s18, .rows s19, .bool s20, .int s21, .int s22, .int s23, .rows s24, .int s25, .int s26, .int s27, .bool b] = some (hC (Jo (⟨r0, r1, r2, r3, r4, r5, r6, r7, r8, r9, r10, r11, r12, r13⟩ : Rul) (⟨s0, s1, s2, s3, s4, s5, s6, s7, s8, s9, s10, s11, s12, s13, s14, s15, s16, s17, s18, s19, s20, s21, s22, s23, s24, s25, s26, s27⟩ : Inn) b)) := by
 show Lr (std (EF N) N) (xOf _) = _
 generalize hres : (some (hC (Jo (⟨r0, r1, r2, r3, r4, r5, r6, r7, r8, r9, r10, r11, r12, r13⟩ : Rul) (⟨s0, s1, s2, s3, s4, s5, s6, s7, s8, s9, s10, s11, s12, s13, s14, s15, s16, s17, s18, s19, s20, s21, s22, s23, s24, s25, s26, s27⟩ : Inn) b)) : Option (List PV)) = RR
 have ha : (s16 ++ [[PV.int s15]]).length ≤ 1048576 := by simp; omega
 simp only [Lr, PB, KO, Qt, Pr, std, xOf, PXb, PXc, PXn, PXm, Nat.reduceAdd, Int.reduceBEq, RC h, Nn, Cq hN hs, Kb hN h.bw', jN ha (show 8 ≤ 4096 by omega)]
 subst hres; simp only [Jo]
 cases hp : inR s15 s19.length with
 | false => rfl
 | true =>
  rw [J0 hp h.bd]
  cases Ay (⟨r0, r1, r2, r3, r4, r5, r6, r7, r8, r9, r10, r11, r12, r13⟩ : Rul) == 0 <;> try rfl
  cases JA s16 s16.length s15 <;> cases b <;> simp only [PXb, PXc, PXn, PXm, Nat.reduceAdd, Int.reduceBEq, inc]
  all_goals first | (cases iLt s11 r4 <;> rfl) | (cases iLt (IntKind.i64.wrap (s11 + 1)) r4 <;> rfl)
def Mg (r : Rul) (s : Inn) : Inn × Int :=
 cond (!(Ay r == 0) || r.newball == 0 || iLt s.ballage (IntKind.i64.wrap (r.newball * r.balls))) (s, 22) ({ s with ballage := 0 }, 0)
theorem Xe {N : Nat} {r1 r2 r3 r4 r5 r6 r7 r9 r10 r11 r12 : Int} {r8 : Bool} {r0 : ByteArray} {r13 : Rows} {s0 s1 s2 s3 s4 s5 s6 s7 s8 s9 s10 s11 s12 s13 s15 s21 s22 s23 s25 s26 s27 : Int} {s18 s20 : Bool} {s14 s16 s17 s19 s24 : Rows} (h : Fit s14 s16 s17 s19 s24) (hN : 2097152 < N) (hs : r0.size ≤ 1048576) : FP N [.str r0, .int r1, .int r2, .int r3, .int r4, .int r5, .int r6, .int r7, .bool r8, .int r9, .int r10, .int r11, .int r12, .rows r13, .int s0, .int s1, .int s2, .int s3, .int s4, .int s5, .int s6, .int s7, .int s8, .int s9, .int s10, .int s11, .int s12, .int s13, .rows s14, .int s15, .rows s16, .rows s17, .bool s18, .rows s19, .bool s20, .int s21, .int s22, .int s23, .rows s24, .int s25, .int s26, .int s27] = some (BA (Mg (⟨r0, r1, r2, r3, r4, r5, r6, r7, r8, r9, r10, r11, r12, r13⟩ : Rul) (⟨s0, s1, s2, s3, s4, s5, s6, s7, s8, s9, s10, s11, s12, s13, s14, s15, s16, s17, s18, s19, s20, s21, s22, s23, s24, s25, s26, s27⟩ : Inn))) := by
 show Hh (std (Fu N) N) (xOf _) = _
 generalize hres : (some (BA (Mg (⟨r0, r1, r2, r3, r4, r5, r6, r7, r8, r9, r10, r11, r12, r13⟩ : Rul) (⟨s0, s1, s2, s3, s4, s5, s6, s7, s8, s9, s10, s11, s12, s13, s14, s15, s16, s17, s18, s19, s20, s21, s22, s23, s24, s25, s26, s27⟩ : Inn))) : Option (List PV)) = RR
 simp only [Hh, NJ, Oo, std, xOf, PXb, PXc, PXn, PXm, Nat.reduceAdd, Int.reduceBEq, RC h, Cq hN hs]
 subst hres; simp only [Mg]
 cases (!(Ay (⟨r0, r1, r2, r3, r4, r5, r6, r7, r8, r9, r10, r11, r12, r13⟩ : Rul) == 0) || r9 == 0 || iLt s21 (IntKind.i64.wrap (r9 * r4))) <;> rfl
end Go.Px
end
section
namespace Go.Px
set_option maxRecDepth 100000
def ar (r : Rul) (over : Int) : Int :=
 match Bu (fun i => cond (iLe (atI r.power i 0) (inc over) && iLe (inc over) (atI r.power i 1)) (some [.int (atI r.power i 2)]) none) r.power.length 0 with
 | some x => pvI (AF x 0)
 | none => r.outside
theorem Xp {N : Nat} {r1 r2 r3 r4 r5 r6 r7 r9 r10 r11 r12 : Int} {r8 : Bool} {r0 : ByteArray} {r13 : Rows} {o : Int} (hN : 2097152 < N) (h13 : r13.length ≤ 1048576) : FV N [.str r0, .int r1, .int r2, .int r3, .int r4, .int r5, .int r6, .int r7, .bool r8, .int r9, .int r10, .int r11, .int r12, .rows r13, .int o] = some [.int (ar (⟨r0, r1, r2, r3, r4, r5, r6, r7, r8, r9, r10, r11, r12, r13⟩ : Rul) o)] := by
 show Ho (std (N3 N) N) (xOf _) = _
 simp only [Ho, std, xOf, PXb, PXc, PXn, AD]
 refine AZ (Cp (len := r13.length) (fun i => cond (iLe (atI r13 i 0) (inc o) && iLe (inc o) (atI r13 i 1)) (some [.int (atI r13 i 2)]) none) ?_ ?_ r13.length 0 N (by omega) (by omega)) ?_
 ·intro self
  simp only [PXb, PXc, PXn, AD, BM]
 ·intro i self hi
  simp only [PXb, PXc, PXn, AD, Ag (show i ≤ 1099511627776 by omega), A4 hi, Ae hi]
  cases hq : iLe (atI r13 i 0) (inc o) && iLe (inc o) (atI r13 i 1) <;> unfold inc atI at hq <;> rw [hq] <;> rfl
 ·unfold ar
  cases Bu (fun i => cond (iLe (atI r13 i 0) (inc o) && iLe (inc o) (atI r13 i 1)) (some [.int (atI r13 i 2)]) none) r13.length 0 <;> rfl
def O8 (s : Inn) (p : Int) : Inn × Int :=
 cond (!inR p s.subs.length) (s, 3) (cond (Gt s p) (s, 18) (cond (p == s.bowler || p == s.keeper) (s, 17) ({ s with keeper := p }, 0)))
theorem Yp {N : Nat} {s0 s1 s2 s3 s4 s5 s6 s7 s8 s9 s10 s11 s12 s13 s15 s21 s22 s23 s25 s26 s27 : Int} {s18 s20 : Bool} {s14 s16 s17 s19 s24 : Rows} {p : Int} (h : Fit s14 s16 s17 s19 s24) : GL N [.int s0, .int s1, .int s2, .int s3, .int s4, .int s5, .int s6, .int s7, .int s8, .int s9, .int s10, .int s11, .int s12, .int s13, .rows s14, .int s15, .rows s16, .rows s17, .bool s18, .rows s19, .bool s20, .int s21, .int s22, .int s23, .rows s24, .int s25, .int s26, .int s27, .int p] = some (BA (O8 (⟨s0, s1, s2, s3, s4, s5, s6, s7, s8, s9, s10, s11, s12, s13, s14, s15, s16, s17, s18, s19, s20, s21, s22, s23, s24, s25, s26, s27⟩ : Inn) p)) := by
 show Is (std (Ea N) N) (xOf _) = _
 generalize hres : (some (BA (O8 (⟨s0, s1, s2, s3, s4, s5, s6, s7, s8, s9, s10, s11, s12, s13, s14, s15, s16, s17, s18, s19, s20, s21, s22, s23, s24, s25, s26, s27⟩ : Inn) p)) : Option (List PV)) = RR
 simp only [Is, Pg, Nx, Lx, std, xOf, PXb, PXc, PXn, PXm, Nat.reduceAdd, Int.reduceBEq, RA h, HI, Gq h.sb]
 subst hres; simp only [O8]
 cases inR p s24.length <;> cases Gt (⟨s0, s1, s2, s3, s4, s5, s6, s7, s8, s9, s10, s11, s12, s13, s14, s15, s16, s17, s18, s19, s20, s21, s22, s23, s24, s25, s26, s27⟩ : Inn) p <;> cases p == s15 <;> cases p == s22 <;> rfl
def Rh (s : Inn) (p : Int) (on : Bool) : Inn × Int :=
  cond (!inR p s.subs.length) (s, 3) (cond (Gt s p == on) (s, 18)
    ({ s with subs := gZ s.subs p on, keeper := cond (on && s.keeper == p) 0 s.keeper, bowler := cond (on && s.bowler == p) 0 s.bowler }, 0))
theorem Uq {N : Nat} {s0 s1 s2 s3 s4 s5 s6 s7 s8 s9 s10 s11 s12 s13 s15 s21 s22 s23 s25 s26 s27 : Int} {s18 s20 : Bool} {s14 s16 s17 s19 s24 : Rows} {p : Int} {b : Bool} (h : Fit s14 s16 s17 s19 s24) : DT N [.int s0, .int s1, .int s2, .int s3, .int s4, .int s5, .int s6, .int s7, .int s8, .int s9, .int s10, .int s11, .int s12, .int s13, .rows s14, .int s15, .rows s16, .rows s17, .bool s18, .rows s19, .bool s20, .int s21, .int s22, .int s23, .rows s24, .int s25, .int s26, .int s27, .int p, .bool b] = some (BA (Rh (⟨s0, s1, s2, s3, s4, s5, s6, s7, s8, s9, s10, s11, s12, s13, s14, s15, s16, s17, s18, s19, s20, s21, s22, s23, s24, s25, s26, s27⟩ : Inn) p b)) := by
 show FN (std (Ci N) N) (xOf _) = _
 generalize hres : (some (BA (Rh (⟨s0, s1, s2, s3, s4, s5, s6, s7, s8, s9, s10, s11, s12, s13, s14, s15, s16, s17, s18, s19, s20, s21, s22, s23, s24, s25, s26, s27⟩ : Inn) p b)) : Option (List PV)) = RR
 simp only [FN, MF, Kz, Ja, std, xOf, PXb, PXc, PXn, PXm, Nat.reduceAdd, Int.reduceBEq, RA h, HI, Gq h.sb]
 subst hres; simp only [Rh]
 cases hp : inR p s24.length <;> try rfl
 rw [J0 hp h.sb]
 cases Gt (⟨s0, s1, s2, s3, s4, s5, s6, s7, s8, s9, s10, s11, s12, s13, s14, s15, s16, s17, s18, s19, s20, s21, s22, s23, s24, s25, s26, s27⟩ : Inn) p == b <;> cases b <;> cases s22 == p <;> cases s15 == p <;> rfl
def Mk (s : Inn) (n : Int) : Inn × Int :=
 cond (iLt n 0 || iLt (IntKind.i64.wrap ((s.subs.length : Int) - 2)) n) (s, 16) ({ s with outside := n }, 0)
theorem X6 {N : Nat} {s0 s1 s2 s3 s4 s5 s6 s7 s8 s9 s10 s11 s12 s13 s15 s21 s22 s23 s25 s26 s27 : Int} {s18 s20 : Bool} {s14 s16 s17 s19 s24 : Rows} {n : Int} (h : Fit s14 s16 s17 s19 s24) : FR N [.int s0, .int s1, .int s2, .int s3, .int s4, .int s5, .int s6, .int s7, .int s8, .int s9, .int s10, .int s11, .int s12, .int s13, .rows s14, .int s15, .rows s16, .rows s17, .bool s18, .rows s19, .bool s20, .int s21, .int s22, .int s23, .rows s24, .int s25, .int s26, .int s27, .int n] = some (BA (Mk (⟨s0, s1, s2, s3, s4, s5, s6, s7, s8, s9, s10, s11, s12, s13, s14, s15, s16, s17, s18, s19, s20, s21, s22, s23, s24, s25, s26, s27⟩ : Inn) n)) := by
 show Hl (std (I9 N) N) (xOf _) = _
 generalize hres : (some (BA (Mk (⟨s0, s1, s2, s3, s4, s5, s6, s7, s8, s9, s10, s11, s12, s13, s14, s15, s16, s17, s18, s19, s20, s21, s22, s23, s24, s25, s26, s27⟩ : Inn) n)) : Option (List PV)) = RR
 simp only [Hl, Ob, std, xOf, PXb, PXc, PXn, PXm, Nat.reduceAdd, Int.reduceBEq, RA h]
 subst hres; simp only [Mk]
 cases (iLt n 0 || iLt (IntKind.i64.wrap ((s24.length : Int) - 2)) n) <;> rfl
def Um (r : Rul) (s : Inn) : Int :=
 cond (!inR s.keeper s.subs.length || Gt s s.keeper || s.keeper == s.bowler) 17 (cond (iLt (ar r s.complete) s.outside) 16 0)
theorem Zh {N : Nat} {r1 r2 r3 r4 r5 r6 r7 r9 r10 r11 r12 : Int} {r8 : Bool} {r0 : ByteArray} {r13 : Rows} {s0 s1 s2 s3 s4 s5 s6 s7 s8 s9 s10 s11 s12 s13 s15 s21 s22 s23 s25 s26 s27 : Int} {s18 s20 : Bool} {s14 s16 s17 s19 s24 : Rows} (h : Fit s14 s16 s17 s19 s24) (hN : 2097152 < N) (h13 : r13.length ≤ 1048576) : HL N [.str r0, .int r1, .int r2, .int r3, .int r4, .int r5, .int r6, .int r7, .bool r8, .int r9, .int r10, .int r11, .int r12, .rows r13, .int s0, .int s1, .int s2, .int s3, .int s4, .int s5, .int s6, .int s7, .int s8, .int s9, .int s10, .int s11, .int s12, .int s13, .rows s14, .int s15, .rows s16, .rows s17, .bool s18, .rows s19, .bool s20, .int s21, .int s22, .int s23, .rows s24, .int s25, .int s26, .int s27] = some [.int (Um (⟨r0, r1, r2, r3, r4, r5, r6, r7, r8, r9, r10, r11, r12, r13⟩ : Rul) (⟨s0, s1, s2, s3, s4, s5, s6, s7, s8, s9, s10, s11, s12, s13, s14, s15, s16, s17, s18, s19, s20, s21, s22, s23, s24, s25, s26, s27⟩ : Inn))] := by
 show Js (std (FB N) N) (xOf _) = _
 generalize hres : (some [.int (Um (⟨r0, r1, r2, r3, r4, r5, r6, r7, r8, r9, r10, r11, r12, r13⟩ : Rul) (⟨s0, s1, s2, s3, s4, s5, s6, s7, s8, s9, s10, s11, s12, s13, s14, s15, s16, s17, s18, s19, s20, s21, s22, s23, s24, s25, s26, s27⟩ : Inn))] : Option (List PV)) = RR
 simp only [Js, Ot, MP, NB, std, xOf, PXb, PXc, PXn, PXm, Nat.reduceAdd, Int.reduceBEq, HI, Gq h.sb, Xp hN h13]
 subst hres; simp only [Um]
 cases inR s22 s24.length <;> cases Gt (⟨s0, s1, s2, s3, s4, s5, s6, s7, s8, s9, s10, s11, s12, s13, s14, s15, s16, s17, s18, s19, s20, s21, s22, s23, s24, s25, s26, s27⟩ : Inn) s22 <;> cases s22 == s15 <;> rfl
def Uz (s : Inn) (d : Del) : Int :=
  cond (iLt 0 d.fielder && !inR d.fielder s.subs.length) 3 (cond (iLt 0 d.fielder && !(d.sub == Gt s d.fielder)) 18
    (cond (iLt 0 d.second && !inR d.second s.subs.length) 3 (cond (iLt 0 d.second && Gt s d.second) 18
      (cond (d.how == 4 && !(dz d.fielder == s.keeper)) 17 0))))
theorem Zc {N : Nat} {s0 s1 s2 s3 s4 s5 s6 s7 s8 s9 s10 s11 s12 s13 s15 s21 s22 s23 s25 s26 s27 : Int} {s18 s20 : Bool} {s14 s16 s17 s19 s24 : Rows} {d0 d1 d2 d3 d4 d6 d7 d8 d9 d11 : Int} {d5 d10 : Bool} (h : Fit s14 s16 s17 s19 s24) : G5 N [.int s0, .int s1, .int s2, .int s3, .int s4, .int s5, .int s6, .int s7, .int s8, .int s9, .int s10, .int s11, .int s12, .int s13, .rows s14, .int s15, .rows s16, .rows s17, .bool s18, .rows s19, .bool s20, .int s21, .int s22, .int s23, .rows s24, .int s25, .int s26, .int s27, .int d0, .int d1, .int d2, .int d3, .int d4, .bool d5, .int d6, .int d7, .int d8, .int d9, .bool d10, .int d11] = some [.int (Uz (⟨s0, s1, s2, s3, s4, s5, s6, s7, s8, s9, s10, s11, s12, s13, s14, s15, s16, s17, s18, s19, s20, s21, s22, s23, s24, s25, s26, s27⟩ : Inn) (⟨d0, d1, d2, d3, d4, d5, d6, d7, d8, d9, d10, d11⟩ : Del))] := by
 show Jz (std (Hj N) N) (xOf _) = _
 generalize hres : (some [.int (Uz (⟨s0, s1, s2, s3, s4, s5, s6, s7, s8, s9, s10, s11, s12, s13, s14, s15, s16, s17, s18, s19, s20, s21, s22, s23, s24, s25, s26, s27⟩ : Inn) (⟨d0, d1, d2, d3, d4, d5, d6, d7, d8, d9, d10, d11⟩ : Del))] : Option (List PV)) = RR
 simp only [Jz, Og, Me, std, xOf, PXb, PXc, PXn, PXm, Nat.reduceAdd, Int.reduceBEq, HI, Gq h.sb]
 subst hres; simp only [Uz, dz, jd]
 cases iLt 0 d8 <;> cases iLt 0 d9 <;> cases inR d8 s24.length <;> cases inR d9 s24.length <;> cases d10 == Gt (⟨s0, s1, s2, s3, s4, s5, s6, s7, s8, s9, s10, s11, s12, s13, s14, s15, s16, s17, s18, s19, s20, s21, s22, s23, s24, s25, s26, s27⟩ : Inn) d8 <;> cases Gt (⟨s0, s1, s2, s3, s4, s5, s6, s7, s8, s9, s10, s11, s12, s13, s14, s15, s16, s17, s18, s19, s20, s21, s22, s23, s24, s25, s26, s27⟩ : Inn) d9 <;> rfl
end Go.Px
end
section
namespace Go.Px
set_option maxRecDepth 100000
structure Cre where
 batter : Int
 wides : Int
 noballs : Int
 byes : Int
 legbyes : Int
 bowler : Int
 counts : Bool
 faced : Bool
 wicket : Bool
 swap : Bool
def Cre.ls (c : Cre) : List PV := [.int c.batter, .int c.wides, .int c.noballs, .int c.byes, .int c.legbyes, .int c.bowler, .bool c.counts, .bool c.faced, .bool c.wicket, .bool c.swap]
def US (d : Del) : Bool :=
  cond (d.type == 2) (d.source == 0 && !(d.boundary == 6)) (cond (d.source == 0) (d.runs == 0 && d.boundary == 0)
    (cond (d.boundary == 0) (iLt 0 d.runs) (cond (d.boundary == 6) (d.source == 1 && d.runs == 0) true)))
def Lc (d : Del) : Int :=
  cond (iLt d.type 1 || iLt 3 d.type || iLt 3 d.source || iLt 10 d.how || !btw d.sector 0 8) 11
    (cond (!btw d.runs 0 7 || !btw d.short 0 d.runs || (!(d.boundary == 0) && !(d.boundary == 4) && !(d.boundary == 6))) 12
      (cond (!US d) 11 (cond (!(d.sector == 0) && !(d.source == 1) && !(d.how == 2)) 11 (cond (!(d.boundary == 0) && !(d.how == 0)) 11
        (cond (d.crossed && !(d.how == 6) && !(d.how == 8)) 11 0)))))
def JL (d : Del) : Bool :=
  cond (d.type == 2) (d.source == 0 && !(d.boundary == 6)) (cond (d.source == 0) (d.runs == 0 && d.boundary == 0)
    (cond (d.source == 1) (!(d.boundary == 6) || d.runs == 0) (!(d.boundary == 6) && (iLt 0 d.runs || !(d.boundary == 0)))))
theorem TZ {N : Nat} {d0 d1 d2 d3 d4 d6 d7 d8 d9 d11 : Int} {d5 d10 : Bool}  : Cz N [.int d0, .int d1, .int d2, .int d3, .int d4, .bool d5, .int d6, .int d7, .int d8, .int d9, .bool d10, .int d11] = some [.bool (JL (⟨d0, d1, d2, d3, d4, d5, d6, d7, d8, d9, d10, d11⟩ : Del))] := by
 show Ei (std (Kc N) N) (xOf _) = _
 generalize hres : (some [.bool (JL (⟨d0, d1, d2, d3, d4, d5, d6, d7, d8, d9, d10, d11⟩ : Del))] : Option (List PV)) = RR
 simp only [Ei, std, xOf, PXb, PXc, PXn, PXm, Nat.reduceAdd, Int.reduceBEq]
 subst hres; simp only [JL]
theorem kL (x a b : Int) : (!btw x a b) = (iLt x a || iLt b x) := by
 unfold btw iLe iLt
 rw [Bool.eq_iff_iff]
 simp only [Bool.not_eq_true', Bool.and_eq_false_iff, decide_eq_false_iff_not, Bool.or_eq_true, decide_eq_true_eq]
 omega
theorem iM {d : Del} (h : 0 ≤ d.runs) : (!JL d || !d.type == 2 && d.source == 1 && d.runs == 0 && d.boundary == 0) = !US d := by
 unfold JL US
 rw [jA h]
 cases h1 : d.source == 0 with
 | true =>
  rw [Yu h1 (c := 1) rfl]
  cases d.type == 2 <;> cases d.runs == 0 <;> cases d.boundary == 0 <;> cases d.boundary == 6 <;> rfl
 | false =>
  cases h2 : d.boundary == 0 with
  | true =>
   rw [Yu h2 (c := 6) rfl]
   cases d.type == 2 <;> cases d.source == 1 <;> cases d.runs == 0 <;> rfl
  | false => cases d.type == 2 <;> cases d.source == 1 <;> cases d.runs == 0 <;> cases d.boundary == 6 <;> rfl
theorem Ph {N : Nat} {d0 d1 d2 d3 d4 d6 d7 d8 d9 d11 : Int} {d5 d10 : Bool}  : B3 N [.int d0, .int d1, .int d2, .int d3, .int d4, .bool d5, .int d6, .int d7, .int d8, .int d9, .bool d10, .int d11] = some [.int (Lc (⟨d0, d1, d2, d3, d4, d5, d6, d7, d8, d9, d10, d11⟩ : Del))] := by
 show Gz (std (IH N) N) (xOf _) = _
 generalize hres : (some [.int (Lc (⟨d0, d1, d2, d3, d4, d5, d6, d7, d8, d9, d10, d11⟩ : Del))] : Option (List PV)) = RR
 simp only [Gz, JG, std, xOf, PXb, PXc, PXn, PXm, Nat.reduceAdd, Int.reduceBEq, TZ]
 subst hres; simp only [Lc, kL, Bool.or_assoc]
 cases h2 : (iLt d2 0 || (iLt 7 d2 || (iLt d3 0 || (iLt d2 d3 || !d4 == 0 && !d4 == 4 && !d4 == 6)))) with
 | true => rfl
 | false =>
  have h3 : 0 ≤ d2 := by
   rw [Bool.or_eq_false_iff] at h2
   have := h2.1
   simp only [iLt, decide_eq_false_iff_not] at this
   omega
  have := iM (d := (⟨d0, d1, d2, d3, d4, d5, d6, d7, d8, d9, d10, d11⟩ : Del)) h3
  simp only at this
  rw [this]
theorem WX {N : Nat} {a : Int} {b : Int} {c : Int} {d : Int} {e : Int} {x : Int} {p : Bool} {q : Bool} {u : Bool} {v : Bool}  : EK N [.int a, .int b, .int c, .int d, .int e, .int x, .bool p, .bool q, .bool u, .bool v] = some [.int (IntKind.i64.wrap (IntKind.i64.wrap (IntKind.i64.wrap (IntKind.i64.wrap (a + b) + c) + d) + e))] := by
 rfl
def aH (c : Cre) : Int := IntKind.i64.wrap (IntKind.i64.wrap (IntKind.i64.wrap (IntKind.i64.wrap (c.batter + c.wides) + c.noballs) + c.byes) + c.legbyes)
def Yv (h : Int) : Bool := iLe 1 h && iLe h 5
theorem TR {N : Nat} {h : Int}  : C1 N [.int h] = some [.bool (Yv h)] := by
 show Ej (std (KY N) N) (xOf _) = _
 simp only [Ej, std, xOf, PXb, PXc, PXn, PXm, Nat.reduceAdd, Int.reduceBEq, Yv]
def hY (r : Rul) (d : Del) : Cre :=
  let n := IntKind.i64.wrap (IntKind.i64.wrap (d.runs - d.short) + d.boundary)
  let b := cond (!(d.type == 2) && d.source == 1) n 0
  let w := cond (d.type == 2) (IntKind.i64.wrap (r.wide + n)) 0
  let o := cond (d.type == 3) r.noball 0
  { batter := b, wides := w, noballs := o, byes := cond (!(d.type == 2) && d.source == 2) n 0, legbyes := cond (!(d.type == 2) && d.source == 3) n 0, bowler := IntKind.i64.wrap (IntKind.i64.wrap (b + w) + o),
    counts := d.type == 1, faced := !(d.type == 2), wicket := Yv d.how, swap := !((!(d.runs.tmod 2 == 0)) == d.crossed) }
def Ba (r : Rul) (d : Del) : Cre := cond (!(Lc d == 0)) ⟨0, 0, 0, 0, 0, 0, false, false, false, false⟩ (hY r d)
theorem eM {d : Del} (h : (Lc d == 0) = true) : 0 ≤ d.runs ∧ d.runs ≤ 7 := by
 unfold Lc at h
 cases h1 : (iLt d.type 1 || iLt 3 d.type || iLt 3 d.source || iLt 10 d.how || !btw d.sector 0 8) with
 | true => rw [h1] at h; cases h
 | false =>
  cases h2 : (!btw d.runs 0 7 || !btw d.short 0 d.runs || (!(d.boundary == 0) && !(d.boundary == 4) && !(d.boundary == 6))) with
  | true => rw [h1, h2] at h; cases h
  | false =>
   rw [Bool.or_eq_false_iff, Bool.or_eq_false_iff] at h2
   have := h2.1.1
   simp only [btw, iLe, Bool.not_eq_false', Bool.and_eq_true, decide_eq_true_eq] at this
   exact this
theorem ir {n : Int} (h : 0 ≤ n ∧ n ≤ 7) (b : Bool) : ((cond b (IntKind.i64.wrap (n + 1)) n).tmod 2 == 1) = !((!(n.tmod 2 == 0)) == b) := by
 obtain ⟨k, rfl⟩ : ∃ k : Nat, n = k := ⟨n.toNat, by omega⟩
 have : k = 0 ∨ k = 1 ∨ k = 2 ∨ k = 3 ∨ k = 4 ∨ k = 5 ∨ k = 6 ∨ k = 7 := by omega
 rcases this with h | h | h | h | h | h | h | h <;> subst h <;> cases b <;> rfl
theorem OK {N : Nat} {r1 r2 r3 r4 r5 r6 r7 r9 r10 r11 r12 : Int} {r8 : Bool} {r0 : ByteArray} {r13 : Rows} {d0 d1 d2 d3 d4 d6 d7 d8 d9 d11 : Int} {d5 d10 : Bool}  : Bo N [.str r0, .int r1, .int r2, .int r3, .int r4, .int r5, .int r6, .int r7, .bool r8, .int r9, .int r10, .int r11, .int r12, .rows r13, .int d0, .int d1, .int d2, .int d3, .int d4, .bool d5, .int d6, .int d7, .int d8, .int d9, .bool d10, .int d11] = some (Ba (⟨r0, r1, r2, r3, r4, r5, r6, r7, r8, r9, r10, r11, r12, r13⟩ : Rul) (⟨d0, d1, d2, d3, d4, d5, d6, d7, d8, d9, d10, d11⟩ : Del)).ls := by
 show Fz (std (Ek N) N) (xOf _) = _
 generalize hres : (some (Ba (⟨r0, r1, r2, r3, r4, r5, r6, r7, r8, r9, r10, r11, r12, r13⟩ : Rul) (⟨d0, d1, d2, d3, d4, d5, d6, d7, d8, d9, d10, d11⟩ : Del)).ls : Option (List PV)) = RR
 simp only [Fz, KH, Ia, std, xOf, PXb, PXc, PXn, PXm, Nat.reduceAdd, Int.reduceBEq, Ph, TR]
 subst hres; simp only [Ba, hY]
 cases hl : Lc (⟨d0, d1, d2, d3, d4, d5, d6, d7, d8, d9, d10, d11⟩ : Del) == 0 with
 | false => rfl
 | true =>
  have hs := ir (eM hl) d5
  simp only at hs
  simp only [PXb, PXc, PXn, PXm, Nat.reduceAdd, Int.reduceBEq, hs]
  cases h0 : d0 == 2 <;> cases h3 : d0 == 3 <;> cases h1 : d1 == 1 <;> cases h2 : d1 == 2 <;> cases h4 : d1 == 3 <;> first
   | rfl
   | (rw [Yu h0 (c := 3) rfl] at h3; exact absurd h3 (by decide))
   | (rw [Yu h1 (c := 2) rfl] at h2; exact absurd h2 (by decide))
   | (rw [Yu h1 (c := 3) rfl] at h4; exact absurd h4 (by decide))
   | (rw [Yu h2 (c := 3) rfl] at h4; exact absurd h4 (by decide))
end Go.Px
end
section
namespace Go.Px
set_option maxRecDepth 100000
def onS (h t : Int) : Bool :=
 cond (h == 1 || h == 2 || h == 3) (t == 1) (cond (h == 4 || h == 5) (t == 1 || t == 2) (cond (h == 7) (t == 1 || t == 3) (cond (h == 6 || h == 8) (t == 1 || t == 2 || t == 3) false)))
def dZ (h : Int) : Bool := h == 6 || h == 7 || h == 8
def O7 (h : Int) : Bool := h == 6 || h == 8
def W9 (h : Int) : Bool := h == 2 || h == 4 || h == 6
def XE (d : Del) (free : Bool) : Int :=
  cond (d.how == 0) (cond (!(d.victim == 0)) 14 (cond (!(d.fielder == 0) || !(d.second == 0) || d.sub) 15 0))
    (cond (!onS d.how d.type || free && !dZ d.how) 13 (cond (!O7 d.how && (!(d.source == 0) || !(d.runs == 0))) 12
      (cond (!(d.victim == 1) && !(d.victim == 2 && O7 d.how)) 14
        (cond (W9 d.how && !btw d.fielder 1 11 || !W9 d.how && !(d.fielder == 0)) 15
          (cond (!(d.second == 0) && (!(d.how == 6) || !btw d.second 1 11 || d.second == d.fielder)) 15
            (cond (d.sub && !(d.how == 2) && !(d.how == 6)) 18 0))))))
def Bb : Rows := match BQ 0 [] with
 | some [.rows l] => l
 | _ => []
theorem N6 {N : Nat} : BQ N [] = some [.rows Bb] := rfl
theorem WV : Bb.length = 11 := rfl
theorem Ti {N : Nat} {h : Int} {n : ByteArray} {b : Bool} {c : Bool} {d : Bool} {e : Bool} {x : Bool} {t : Int}  : DJ N [.int h, .str n, .bool b, .bool c, .bool d, .bool e, .bool x, .int t] = some [.bool (t == 1 && b || t == 2 && c || t == 3 && d)] := by
 show FJ (std (Lb N) N) (xOf _) = _
 simp only [FJ, std, xOf, PXb, PXc, PXn, PXm, Nat.reduceAdd, Int.reduceBEq]
theorem Q4 {N : Nat} {n : Int}  : CP N [.int n] = some [.bool (btw n 1 11)] := by
 show DB (std (IX N) N) (xOf _) = _
 simp only [DB, std, xOf, PXb, PXc, PXn, PXm, Nat.reduceAdd, Int.reduceBEq]
 rfl
def dl (i j : Nat) : Bool := pvB (AH Bb i j)
def wOk (t : Int) (free : Bool) (i : Nat) : Bool :=
  (t == 1 && dl i 2 || t == 2 && dl i 3 || t == 3 && dl i 4) && (!free || atI Bb i 0 == 6 || atI Bb i 0 == 7 || atI Bb i 0 == 8)
def Ge (t : Int) (free : Bool) : Nat → Rows
 | 0 => []
 | i + 1 => cond (wOk t free i) (Ge t free i ++ [[.int (atI Bb i 0)]]) (Ge t free i)
theorem WM (t : Int) (free : Bool) : ∀ i, (Ge t free i).length ≤ i
 | 0 => Nat.le_refl _
 | i + 1 => by
  have := WM t free i
  unfold Ge
  cases wOk t free i
  ·exact Nat.le_succ_of_le this
  ·simp; exact this
theorem Wk {N : Nat} {t : Int} {f : Bool} (hN : 2097152 < N) : EG N [.int t, .bool f] = some [.rows (Ge t f 11)] := by
 show Gy (std (Fe N) N) (xOf _) = _
 simp only [Gy, KJ, JW, std, xOf, PXb, PXc, PXn, AD, N6, Ti]
 refine AZ (IY (len := Bb.length) (fun i => [.rows (Ge t f i), .int (i : Int)]) [.rows (Ge t f 11)] ?_ ?_ N (by rw [WV]; omega)) rfl
 ·intro self
  simp only [PXb, PXc, PXn, AD, BM]
  rfl
 ·intro i self hi
  have hi2 : i < 11 := hi
  have h2 : (Ge t f i ++ [[PV.int (atI Bb i 0)]]).length ≤ 4194304 := by have := WM t f i; simp; omega
  simp only [PXb, PXc, AD, Ag (show i ≤ 1099511627776 by omega), A4 hi, Ae hi, Cb, Ge, Jt h2 (show 1 ≤ 4096 by omega)]
  unfold wOk dl
  cases ((t == 1 && pvB (AH Bb i 2) || t == 2 && pvB (AH Bb i 3) || t == 3 && pvB (AH Bb i 4)) && (!f || atI Bb i 0 == 6 || atI Bb i 0 == 7 || atI Bb i 0 == 8)) <;> rfl
theorem Ul {N : Nat} {L : Rows} {v : Int} (hN : L.length < N) (hl : L.length ≤ 1048576) : DH N [.rows L, .int v] = some [.int (Nm (fun j => v == atI L j 0) L.length)] := by
 show FU (std (LR N) N) (xOf _) = _
 simp only [FU, std, xOf, PXb, PXc, PXn, AD]
 refine AZ (Cp (len := L.length) (Fj fun j => v == atI L j 0) ?_ ?_ L.length 0 N (by omega) (by omega)) ?_
 ·intro self
  simp only [PXb, PXc, PXn, AD, BM]
 ·intro i self hi
  simp only [PXb, PXc, PXn, AD, Ag (show i ≤ 1099511627776 by omega), A4 hi, Ae hi, Fj, Cb]
  cases v == atI L i 0 <;> rfl
 ·unfold Nm
  cases Bu (Fj fun j => v == atI L j 0) L.length 0 <;> rfl
theorem R1 {N : Nat} {L : Rows} {v : Int} (hN : L.length < N) (hl : L.length ≤ 1048576) : CZ N [.rows L, .int v] = some [.bool (JA L L.length v)] := by
 show Dc (std (E2 N) N) (xOf _) = _
 simp only [Dc, HU, std, xOf, PXb, PXc, PXn, AD, Ul hN hl, Ig, JA]
theorem go (L : Rows) (v : Int) : JA L L.length v = JD (fun x => v == x) L := rfl
theorem jG (p : Int → Bool) (b : Bool) (L : Rows) (x : Int) : JD p (cond b (L ++ [[.int x]]) L) = (JD p L || (b && p x)) := by
 cases b with
 | false => simp
 | true => rw [cond_true, bZ, Bool.true_and]; congr 1; rw [MZ]; simp [AF, pvI]
theorem bD (t : Int) (free : Bool) (p : Int → Bool) : ∀ i, JD p (Ge t free i) = A5 (fun j => wOk t free j && p (atI Bb j 0)) i 0
 | 0 => rfl
 | i + 1 => by rw [UO, ← bD t free p i, Ge, jG, Nat.zero_add]
theorem gO (t h : Int) (free : Bool) : JA (Ge t free 11) (Ge t free 11).length h = (onS h t && (!free || dZ h)) := by
 rw [go, bD]
 have key : ∀ j, j < 11 → atI Bb j 0 = j := by
  intro j hj
  have : j = 0 ∨ j = 1 ∨ j = 2 ∨ j = 3 ∨ j = 4 ∨ j = 5 ∨ j = 6 ∨ j = 7 ∨ j = 8 ∨ j = 9 ∨ j = 10 := by omega
  rcases this with h | h | h | h | h | h | h | h | h | h | h <;> subst h <;> rfl
 by_cases hr : 0 ≤ h ∧ h ≤ 10
 ·obtain ⟨k, rfl⟩ : ∃ k : Nat, h = k := ⟨h.toNat, by omega⟩
  have : k = 0 ∨ k = 1 ∨ k = 2 ∨ k = 3 ∨ k = 4 ∨ k = 5 ∨ k = 6 ∨ k = 7 ∨ k = 8 ∨ k = 9 ∨ k = 10 := by omega
  rcases this with h | h | h | h | h | h | h | h | h | h | h <;> subst h <;> simp only [Bn, H9, wOk, onS] <;> cases free <;> cases t == 1 <;> cases t == 2 <;> cases t == 3 <;> rfl
 ·rw [I4.2 fun j _ hj => by
   rw [key j (by omega), show (h == (j : Int)) = false from beq_false_of_ne (by omega), Bool.and_false]]
  have e : ∀ n : Int, 0 ≤ n → n ≤ 10 → (h == n) = false := fun n h0 h1 => beq_false_of_ne (by omega)
  unfold onS
  rw [e 1 (by omega) (by omega), e 2 (by omega) (by omega), e 3 (by omega) (by omega), e 4 (by omega) (by omega), e 5 (by omega) (by omega), e 6 (by omega) (by omega), e 7 (by omega) (by omega), e 8 (by omega) (by omega)]
  rfl
def Sf (h : Int) : List PV := match Bu (fun i => cond (atI Bb i 0 == h) (some [.int (pvI (AH Bb i 0)), .str (pvS (AH Bb i 1)), .bool (pvB (AH Bb i 2)), .bool (pvB (AH Bb i 3)), .bool (pvB (AH Bb i 4)), .bool (pvB (AH Bb i 5)), .bool (pvB (AH Bb i 6))]) none) 11 0 with
 | some r => r
 | none => [.int 0, .str ⟨#[]⟩, .bool false, .bool false, .bool false, .bool false, .bool false]
theorem OY {ans : Nat → Option (List PV)} {r : List PV} : ∀ (k i : Nat), Bu ans k i = some r → ∃ j, i ≤ j ∧ j < i + k ∧ ans j = some r
 | 0, i, h => by cases h
 | k + 1, i, h => by
  simp only [Bu] at h
  cases ha : ans i with
  | some x => rw [ha] at h; cases h; exact ⟨i, Nat.le_refl _, by omega, ha⟩
  | none =>
   rw [ha] at h
   obtain ⟨j, h1, h2, h3⟩ := OY k (i + 1) h
   exact ⟨j, by omega, by omega, h3⟩
theorem g9 (h : Int) : ∃ a b c d e f g, Sf h = [.int a, .str b, .bool c, .bool d, .bool e, .bool f, .bool g] := by
 unfold Sf
 generalize hf : Bu _ 11 0 = o
 cases o with
 | none => exact ⟨_, _, _, _, _, _, _, rfl⟩
 | some r =>
  obtain ⟨j, _, _, h3⟩ := OY _ _ hf
  cases hb : atI Bb j 0 == h with
  | false => rw [hb] at h3; cases h3
  | true => rw [hb] at h3; cases h3; exact ⟨_, _, _, _, _, _, _, rfl⟩
theorem YY {N : Nat} {h : Int} (hN : 2097152 < N) : GJ N [.int h] = some (Sf h) := by
 show I1 (std (KA N) N) (xOf _) = _
 simp only [I1, K5, std, xOf, PXb, PXc, PXn, AD, N6]
 refine AZ (Cp (len := Bb.length) (fun i => cond (atI Bb i 0 == h) (some [.int (pvI (AH Bb i 0)), .str (pvS (AH Bb i 1)), .bool (pvB (AH Bb i 2)), .bool (pvB (AH Bb i 3)), .bool (pvB (AH Bb i 4)), .bool (pvB (AH Bb i 5)), .bool (pvB (AH Bb i 6))]) none) ?_ ?_ Bb.length 0 N (by omega) (by rw [WV]; omega)) ?_
 ·intro self
  simp only [PXb, PXc, PXn, AD, BM]
 ·intro i self hi
  have hi2 : i < 11 := hi
  simp only [PXb, PXc, PXn, AD, Ag (show i ≤ 1099511627776 by omega), A4 hi, Ae hi, Cb]
  cases atI Bb i 0 == h <;> rfl
 ·unfold Sf
  rw [WV]
  generalize hf : Bu _ 11 0 = o
  cases o with
  | none => rfl
  | some r =>
   obtain ⟨j, _, _, h3⟩ := OY _ _ hf
   cases hb : atI Bb j 0 == h with
   | false => rw [hb] at h3; cases h3
   | true => rw [hb] at h3; cases h3; rfl
theorem fX (h : Int) : pvB (AF (Sf h) 5) = W9 h ∧ pvB (AF (Sf h) 6) = O7 h := by
 by_cases hr : 0 ≤ h ∧ h ≤ 10
 ·obtain ⟨k, rfl⟩ : ∃ k : Nat, h = k := ⟨h.toNat, by omega⟩
  have : k = 0 ∨ k = 1 ∨ k = 2 ∨ k = 3 ∨ k = 4 ∨ k = 5 ∨ k = 6 ∨ k = 7 ∨ k = 8 ∨ k = 9 ∨ k = 10 := by omega
  rcases this with h | h | h | h | h | h | h | h | h | h | h <;> subst h <;> exact ⟨rfl, rfl⟩
 ·have e : ∀ n : Int, 0 ≤ n → n ≤ 10 → (h == n) = false := fun n h0 h1 => beq_false_of_ne (by omega)
  have key : ∀ j, j < 11 → atI Bb j 0 = j := by
   intro j hj
   have : j = 0 ∨ j = 1 ∨ j = 2 ∨ j = 3 ∨ j = 4 ∨ j = 5 ∨ j = 6 ∨ j = 7 ∨ j = 8 ∨ j = 9 ∨ j = 10 := by omega
   rcases this with h | h | h | h | h | h | h | h | h | h | h <;> subst h <;> rfl
  unfold Sf
  generalize hf : Bu _ 11 0 = o
  cases o with
  | none =>
   unfold W9 O7
   rw [e 2 (by omega) (by omega), e 4 (by omega) (by omega), e 6 (by omega) (by omega), e 8 (by omega) (by omega)]
   exact ⟨rfl, rfl⟩
  | some r =>
   obtain ⟨j, _, hj, h3⟩ := OY _ _ hf
   rw [key j (by omega), show ((j : Int) == h) = false from beq_false_of_ne (by omega)] at h3
   cases h3
def NG (d : Del) (m : Bool) : Bool :=
 !(!(m == btw d.fielder 1 11) || !m && !(d.fielder == 0)) && (d.second == 0 || d.how == 6 && btw d.second 1 11 && !(d.second == d.fielder))
theorem Se {N : Nat} {d0 d1 d2 d3 d4 d6 d7 d8 d9 d11 : Int} {d5 d10 : Bool} {a : Int} {n : ByteArray} {b : Bool} {c : Bool} {e : Bool} {f : Bool} {g : Bool}  : Cg N [.int d0, .int d1, .int d2, .int d3, .int d4, .bool d5, .int d6, .int d7, .int d8, .int d9, .bool d10, .int d11, .int a, .str n, .bool b, .bool c, .bool e, .bool f, .bool g] = some [.bool (NG (⟨d0, d1, d2, d3, d4, d5, d6, d7, d8, d9, d10, d11⟩ : Del) f)] := by
 show D5 (std (Fi N) N) (xOf _) = _
 generalize hres : (some [.bool (NG (⟨d0, d1, d2, d3, d4, d5, d6, d7, d8, d9, d10, d11⟩ : Del) f)] : Option (List PV)) = RR
 simp only [D5, GV, std, xOf, PXb, PXc, PXn, PXm, Nat.reduceAdd, Int.reduceBEq, Q4]
 subst hres; simp only [NG]
 cases d9 == 0 <;> cases d6 == 6 <;> cases f <;> cases btw d8 1 11 <;> cases d8 == 0 <;> first | rfl | (cases btw d9 1 11 <;> rfl)
theorem kA {α : Type} (a b : Bool) (x y : α) : cond (a || b) x y = cond a x (cond b x y) := by cases a <;> rfl
theorem cw (d : Del) (m : Bool) : (!NG d m) = ((m && !btw d.fielder 1 11 || !m && !(d.fielder == 0)) || (!(d.second == 0) && (!(d.how == 6) || !btw d.second 1 11 || d.second == d.fielder))) := by
 unfold NG
 cases hb : btw d.fielder 1 11 <;> cases hf : d.fielder == 0
 ·cases m <;> cases d.second == 0 <;> cases d.how == 6 <;> cases btw d.second 1 11 <;> cases d.second == d.fielder <;> rfl
 ·cases m <;> cases d.second == 0 <;> cases d.how == 6 <;> cases btw d.second 1 11 <;> cases d.second == d.fielder <;> rfl
 ·cases m <;> cases d.second == 0 <;> cases d.how == 6 <;> cases btw d.second 1 11 <;> cases d.second == d.fielder <;> rfl
 ·rw [beq_iff_eq.1 hf] at hb; exact absurd hb (by decide)
theorem R6 {N : Nat} {d0 d1 d2 d3 d4 d6 d7 d8 d9 d11 : Int} {d5 d10 : Bool} {f : Bool} (hN : 2097152 < N) : Ck N [.int d0, .int d1, .int d2, .int d3, .int d4, .bool d5, .int d6, .int d7, .int d8, .int d9, .bool d10, .int d11, .bool f] = some [.int (XE (⟨d0, d1, d2, d3, d4, d5, d6, d7, d8, d9, d10, d11⟩ : Del) f)] := by
 show D4 (std (Bh N) N) (xOf _) = _
 generalize hres : (some [.int (XE (⟨d0, d1, d2, d3, d4, d5, d6, d7, d8, d9, d10, d11⟩ : Del) f)] : Option (List PV)) = RR
 have hl := WM d0 f 11
 obtain ⟨a, b, c, d, e, m, g, hline⟩ := g9 d6
 have hbits := fX d6
 rw [hline] at hbits
 have hm : m = W9 d6 := hbits.1
 have hg : g = O7 d6 := hbits.2
 have h1 : (Ge d0 f 11).length < N := by omega
 have h2 : (Ge d0 f 11).length ≤ 1048576 := by omega
 simp only [D4, JZ, Gg, Iw, HF, std, xOf, PXb, PXc, PXn, PXm, Nat.reduceAdd, Int.reduceBEq, YY hN, hline, Wk hN, R1 h1 h2, gO, Se, cw]
 subst hres; simp only [XE, kA]
 rw [hm, hg]
 unfold O7
 cases d6 == 0 <;> cases onS d6 d0 <;> cases f <;> cases dZ d6 <;> try rfl
 all_goals (cases d6 == 6 <;> cases d6 == 8 <;> cases d7 == 2 <;> rfl)
end Go.Px
end
section
namespace Go.Px
set_option maxRecDepth 100000
theorem Uk {N : Nat} {a : Int} {b : Int} {c : Int}  : DS N [.int a, .int b, .int c] = some [.bool (btw a b c)] := by
 show IU (std (LM N) N) (xOf _) = _
 show some [PV.bool (cond (iLe b a) (iLe a c) false)] = _
 rw [XQ]; rfl
theorem XK {N : Nat} {a : Int} {b : Int} {c : Int}  : FC N [.int a, .int b, .int c] = some [.bool (btw a b c)] := by
 show Ls (std (N7 N) N) (xOf _) = _
 show some [PV.bool (cond (iLe b a) (iLe a c) false)] = _
 rw [XQ]; rfl
def Z1 (d : Del) : Int :=
  cond (iLt d.type 1 || iLt 3 d.type || iLt 3 d.source || iLt 10 d.how) 3
    (cond (!btw d.runs 0 7 || !btw d.short 0 d.runs || (!(d.boundary == 0) && !(d.boundary == 4) && !(d.boundary == 6)) || !btw d.victim 0 2 || !btw d.fielder 0 11 || !btw d.second 0 11 || !btw d.sector 0 8) 2 0)
theorem Wx {N : Nat} {d0 d1 d2 d3 d4 d6 d7 d8 d9 d11 : Int} {d5 d10 : Bool}  : ES N [.int d0, .int d1, .int d2, .int d3, .int d4, .bool d5, .int d6, .int d7, .int d8, .int d9, .bool d10, .int d11] = some [.int (Z1 (⟨d0, d1, d2, d3, d4, d5, d6, d7, d8, d9, d10, d11⟩ : Del))] := by
 show Gh (std (IC N) N) (xOf _) = _
 generalize hres : (some [.int (Z1 (⟨d0, d1, d2, d3, d4, d5, d6, d7, d8, d9, d10, d11⟩ : Del))] : Option (List PV)) = RR
 simp only [Gh, Jj, std, xOf, PXb, PXc, PXn, PXm, Nat.reduceAdd, Int.reduceBEq, Uk]
 subst hres; simp only [Z1]
def loS (k : Int) : Int := cond (k == 7) 0 (cond (k == 13) 1 0)
def hiS (k : Int) : Int := cond (k == 7) 11 (cond (k == 13) 99 100000)
theorem YT {N : Nat} {k : Int}  : GH N [.int k] = some [.int (loS k), .int (hiS k)] := by
 show Ip (std (PE N) N) (xOf _) = _
 simp only [Ip, std, xOf, PXb, PXc, PXn, PXm, Nat.reduceAdd, Int.reduceBEq]
 unfold loS hiS
 cases k == 7 <;> cases k == 13 <;> rfl
def uS (k : Int) : Bool := k == 1 || k == 12 || k == 14 || k == 11 || k == 13
def uP (k : Int) : Bool := k == 2 || k == 3 || k == 8 || k == 5 || k == 6 || k == 9
def uO (k : Int) : Bool := k == 2
def uY (k : Int) : Bool := k == 1 || k == 12 || k == 14 || k == 5 || k == 6 || k == 9
def uR (k : Int) : Bool := k == 7 || k == 13 || k == 15
def uV (k : Int) : Bool := k == 15
def uB (k : Int) : Bool := k == 4
theorem YV {k : Int} (h : (iLt k 1 || iLt 16 k) = false) : k = 1 ∨ k = 2 ∨ k = 3 ∨ k = 4 ∨ k = 5 ∨ k = 6 ∨ k = 7 ∨ k = 8 ∨ k = 9 ∨ k = 10 ∨ k = 11 ∨ k = 12 ∨ k = 13 ∨ k = 14 ∨ k = 15 ∨ k = 16 := by
 simp only [iLt, Bool.or_eq_false_iff, decide_eq_false_iff_not] at h
 omega
def db : Rows := match E3 0 [] with
 | some [.rows l] => l
 | _ => []
theorem Zo {N : Nat} : E3 N [] = some [.rows db] := rfl
def Cx (k f : Int) : Bool := iLe 0 (Lib.indexByte (pvS (AH db (IntKind.u8.wrap (k - 1)).toNat 1)).data.toList f.toNat.toUInt8) || (k == 5 && f == 121)
theorem TW {N : Nat} {s : ByteArray} {f : Int}  : C4 N [.str s, .int f] = some [.int (Lib.indexByte s.data.toList f.toNat.toUInt8)] := by
 show Em (std (GB N) N) (xOf _) = _
 simp only [Em, GW, std, xOf, PXb, PXc, PXn, PXm, Nat.reduceAdd, Int.reduceBEq, B8, XT]
theorem Uu {N : Nat} {k : Int} {f : Int} (h : (iLt k 1 || iLt 16 k) = false) : H1 N [.int k, .int f] = some [.bool (Cx k f)] := by
 show Ky (std (I5 N) N) (xOf _) = _
 have hi : iIn (IntKind.u8.wrap (k - 1)) (db.length : Int) = true := by
  rcases YV h with h | h | h | h | h | h | h | h | h | h | h | h | h | h | h | h <;> subst h <;> rfl
 simp only [Ky, K3, Pt, std, xOf, PXb, PXc, PXn, PXm, Nat.reduceAdd, Int.reduceBEq, Zo, TW, hi, Cx]
theorem jH {k : Int} (h : (iLt k 1 || iLt 16 k) = false) : Cx k 115 = uS k ∧ Cx k 112 = uP k ∧ Cx k 111 = uO k ∧ Cx k 121 = uY k ∧ Cx k 114 = uR k ∧ Cx k 118 = uV k ∧ Cx k 98 = uB k := by
 rcases YV h with h | h | h | h | h | h | h | h | h | h | h | h | h | h | h | h <;> subst h <;> exact ⟨rfl, rfl, rfl, rfl, rfl, rfl, rfl⟩
def eF (d : Del) : Bool := d.type == 0 && (d.source == 0 && (d.runs == 0 && (d.short == 0 && (d.boundary == 0 && (d.crossed == false && (d.how == 0 && (d.victim == 0 && (d.fielder == 0 && (d.second == 0 && (d.sub == false && d.sector == 0))))))))))
def ah (e : Ev) : Bool := (!(e.side == 0) && !uS e.kind) || ((!(e.player == 0) && !uP e.kind) || ((!(e.other == 0) && !uO e.kind) || ((e.yes && !uY e.kind) || ((!(e.runs == 0) && !uR e.kind) || ((!(e.overs == 0) && !uV e.kind) || (!eF e.ball && !uB e.kind))))))
def WQ (e : Ev) : Bool := (!btw e.side 1 2 && uS e.kind) || ((!btw e.player 1 11 && uP e.kind) || ((!btw e.other 1 11 && uO e.kind) || ((!btw e.runs (loS e.kind) (hiS e.kind) && uR e.kind) || (!btw e.overs 0 90 && uV e.kind))))
def evS (e : Ev) : Int := cond (iLt e.kind 1 || iLt 16 e.kind) 3 (cond (ah e) 1 (cond (WQ e) 2 (cond (e.kind == 4) (Z1 e.ball) 0)))
def evT (e : Ev) : Rows := [[.int 115, .bool (e.side == 0), .bool (btw e.side 1 2)], [.int 112, .bool (e.player == 0), .bool (btw e.player 1 11)], [.int 111, .bool (e.other == 0), .bool (btw e.other 1 11)], [.int 121, .bool (!e.yes), .bool true], [.int 114, .bool (e.runs == 0), .bool (btw e.runs (loS e.kind) (hiS e.kind))], [.int 118, .bool (e.overs == 0), .bool (btw e.overs 0 90)], [.int 98, .bool (eF e.ball), .bool true]]
theorem TD {N : Nat} {e0 e1 e2 e3 e5 e6 e7 e8 e9 e10 e11 e13 e14 e15 e16 e18 : Int} {e4 e12 e17 : Bool} (hN : 2097152 < N) : Cs N [.int e0, .int e1, .int e2, .int e3, .bool e4, .int e5, .int e6, .int e7, .int e8, .int e9, .int e10, .int e11, .bool e12, .int e13, .int e14, .int e15, .int e16, .bool e17, .int e18] = some [.int (evS (⟨e0, e1, e2, e3, e4, e5, e6, ⟨e7, e8, e9, e10, e11, e12, e13, e14, e15, e16, e17, e18⟩⟩ : Ev))] := by
 show HE (std (DW N) N) (xOf _) = _
 generalize hres : (some [.int (evS (⟨e0, e1, e2, e3, e4, e5, e6, ⟨e7, e8, e9, e10, e11, e12, e13, e14, e15, e16, e17, e18⟩⟩ : Ev))] : Option (List PV)) = RR
 cases hk : iLt e0 1 || iLt 16 e0 with
 | true =>
  simp only [HE, G7, GZ, H2, C7, std, xOf, PXb, PXc, AD, hk, ← hres, evS]
 | false =>
  simp only [HE, G7, GZ, H2, C7, std, xOf, PXb, PXc, AD, hk, YT, XK]
  subst hres
  obtain ⟨g1, g2, g3, g4, g5, g6, g7⟩ := jH hk
  refine AZ (Ed (len := 7) (fun i => !pvB (AH (evT (⟨e0, e1, e2, e3, e4, e5, e6, ⟨e7, e8, e9, e10, e11, e12, e13, e14, e15, e16, e17, e18⟩⟩ : Ev)) i 1) && !Cx e0 (pvI (AH (evT (⟨e0, e1, e2, e3, e4, e5, e6, ⟨e7, e8, e9, e10, e11, e12, e13, e14, e15, e16, e17, e18⟩⟩ : Ev)) i 0))) [.int 1] ?_ ?_ N (by omega)) ?_
  ·intro self
   rfl
  ·intro i self hi
   simp only [PXb, PXc, AD, Ag (show i ≤ 1099511627776 by omega), List.length_cons, List.length_nil, Nat.reduceAdd, A4 hi, Ae hi, Uu hk]
   change cond (!pvB (AH (evT (⟨e0, e1, e2, e3, e4, e5, e6, ⟨e7, e8, e9, e10, e11, e12, e13, e14, e15, e16, e17, e18⟩⟩ : Ev)) i 1) && !(!pvB (AH (evT (⟨e0, e1, e2, e3, e4, e5, e6, ⟨e7, e8, e9, e10, e11, e12, e13, e14, e15, e16, e17, e18⟩⟩ : Ev)) i 1) && Cx e0 (pvI (AH (evT (⟨e0, e1, e2, e3, e4, e5, e6, ⟨e7, e8, e9, e10, e11, e12, e13, e14, e15, e16, e17, e18⟩⟩ : Ev)) i 0)))) _ _ = _
   cases pvB (AH (evT (⟨e0, e1, e2, e3, e4, e5, e6, ⟨e7, e8, e9, e10, e11, e12, e13, e14, e15, e16, e17, e18⟩⟩ : Ev)) i 1) <;> rfl
  ·have a1 : A5 (fun i => !pvB (AH (evT (⟨e0, e1, e2, e3, e4, e5, e6, ⟨e7, e8, e9, e10, e11, e12, e13, e14, e15, e16, e17, e18⟩⟩ : Ev)) i 1) && !Cx e0 (pvI (AH (evT (⟨e0, e1, e2, e3, e4, e5, e6, ⟨e7, e8, e9, e10, e11, e12, e13, e14, e15, e16, e17, e18⟩⟩ : Ev)) i 0))) 7 0 = ah (⟨e0, e1, e2, e3, e4, e5, e6, ⟨e7, e8, e9, e10, e11, e12, e13, e14, e15, e16, e17, e18⟩⟩ : Ev) := by
    simp only [Bn, H9]
    change (!(e1 == 0) && !Cx e0 115 || (!(e2 == 0) && !Cx e0 112 || (!(e3 == 0) && !Cx e0 111 || (!(!e4) && !Cx e0 121 || (!(e5 == 0) && !Cx e0 114 || (!(e6 == 0) && !Cx e0 118 || (!(eF (⟨e0, e1, e2, e3, e4, e5, e6, ⟨e7, e8, e9, e10, e11, e12, e13, e14, e15, e16, e17, e18⟩⟩ : Ev).ball) && !Cx e0 98 || false))))))) = _
    rw [g1, g2, g3, g4, g5, g6, g7, Bool.not_not, Bool.or_false]
    rfl
   rw [a1]
   simp only [evS, hk, cond_false]
   cases ah (⟨e0, e1, e2, e3, e4, e5, e6, ⟨e7, e8, e9, e10, e11, e12, e13, e14, e15, e16, e17, e18⟩⟩ : Ev) with
   | true => rfl
   | false =>
    simp only [PXb, PXc, AD]
    refine AZ (Ed (len := 7) (fun i => !pvB (AH (evT (⟨e0, e1, e2, e3, e4, e5, e6, ⟨e7, e8, e9, e10, e11, e12, e13, e14, e15, e16, e17, e18⟩⟩ : Ev)) i 2) && Cx e0 (pvI (AH (evT (⟨e0, e1, e2, e3, e4, e5, e6, ⟨e7, e8, e9, e10, e11, e12, e13, e14, e15, e16, e17, e18⟩⟩ : Ev)) i 0))) [.int 2] ?_ ?_ N (by omega)) ?_
    ·intro self
     rfl
    ·intro i self hi
     simp only [PXb, PXc, AD, Ag (show i ≤ 1099511627776 by omega), List.length_cons, List.length_nil, Nat.reduceAdd, A4 hi, Ae hi, Uu hk]
     rfl
    ·have a2 : A5 (fun i => !pvB (AH (evT (⟨e0, e1, e2, e3, e4, e5, e6, ⟨e7, e8, e9, e10, e11, e12, e13, e14, e15, e16, e17, e18⟩⟩ : Ev)) i 2) && Cx e0 (pvI (AH (evT (⟨e0, e1, e2, e3, e4, e5, e6, ⟨e7, e8, e9, e10, e11, e12, e13, e14, e15, e16, e17, e18⟩⟩ : Ev)) i 0))) 7 0 = WQ (⟨e0, e1, e2, e3, e4, e5, e6, ⟨e7, e8, e9, e10, e11, e12, e13, e14, e15, e16, e17, e18⟩⟩ : Ev) := by
      simp only [Bn, H9]
      change (!(btw e1 1 2) && Cx e0 115 || (!(btw e2 1 11) && Cx e0 112 || (!(btw e3 1 11) && Cx e0 111 || (!true && Cx e0 121 || (!(btw e5 (loS e0) (hiS e0)) && Cx e0 114 || (!(btw e6 0 90) && Cx e0 118 || (!true && Cx e0 98 || false))))))) = _
      rw [g1, g2, g3, g4, g5, g6, g7]
      simp only [Bool.not_true, Bool.false_and, Bool.false_or, Bool.or_false]
      rfl
     rw [a2]
     cases WQ (⟨e0, e1, e2, e3, e4, e5, e6, ⟨e7, e8, e9, e10, e11, e12, e13, e14, e15, e16, e17, e18⟩⟩ : Ev) with
     | true => rfl
     | false =>
      simp only [PXb, PXc, PXn, PXm, Nat.reduceAdd, Int.reduceBEq, C7, Wx]
theorem c4 {c x x' y y' : Bool} {a b d z z' : Int} (h1 : x = x') (h2 : y = y') (h3 : z = z') : (some [PV.int (cond c a (cond x b (cond y d z)))] : Option (List PV)) = some [PV.int (cond c a (cond x' b (cond y' d z')))] := by subst h1; subst h2; subst h3; rfl
end Go.Px
end
