/- Part 9. -/
import Derived.Test.YtopmcbahdgfleaaGreatPart07
import Derived.Test.YtopmcbahdgfleaaGreatPart08
set_option linter.unusedVariables false
set_option linter.unusedSimpArgs false
section
namespace Go.Px
set_option maxRecDepth 100000
theorem Fi {N : Nat} {s0 s1 s2 s3 s4 s5 s6 s7 s8 s9 s10 s11 s12 s13 s15 s21 s22 s23 s25 s26 s27 : Int} {s18 s20 : Bool} {s14 s16 s17 s19 s24 : Rows} (h : Fit s14 s16 s17 s19 s24) : Ag N [.int s0, .int s1, .int s2, .int s3, .int s4, .int s5, .int s6, .int s7, .int s8, .int s9, .int s10, .int s11, .int s12, .int s13, .rows s14, .int s15, .rows s16, .rows s17, .bool s18, .rows s19, .bool s20, .int s21, .int s22, .int s23, .rows s24, .int s25, .int s26, .int s27] = some [.int s0, .int s1, .int s2, .int s3, .int s4, .int s5, .int s6, .int s7, .int s8, .int s9, .int s10, .int s11, .int s12, .int s13, .rows s14, .int s15, .rows s16, .rows s17, .bool s18, .rows s19, .bool s20, .int s21, .int s22, .int s23, .rows s24, .int s25, .int s26, .int s27] := by
 show KW (std (Fg N) N) (xOf _) = _
 simp only [KW, Ja, LI, Ka, std, xOf, PXb, PXc, PXn, PXm, Nat.reduceAdd, Int.reduceBEq, AM, AW, AQ, BF h.bt (show 1 ≤ 4096 by omega), BF h.bw' (show 8 ≤ 4096 by omega), BF h.bf (show 8 ≤ 4096 by omega), BF h.bd (show 8 ≤ 4096 by omega), BF h.sb (show 1 ≤ 4096 by omega)]
theorem Fz {N : Nat} {s0 s1 s2 s3 s4 s5 s6 s7 s8 s9 s10 s11 s12 s13 s15 s21 s22 s23 s25 s26 s27 : Int} {s18 s20 : Bool} {s14 s16 s17 s19 s24 : Rows} {p : Int}  : Ah N [.int s0, .int s1, .int s2, .int s3, .int s4, .int s5, .int s6, .int s7, .int s8, .int s9, .int s10, .int s11, .int s12, .int s13, .rows s14, .int s15, .rows s16, .rows s17, .bool s18, .rows s19, .bool s20, .int s21, .int s22, .int s23, .rows s24, .int s25, .int s26, .int s27, .int p] = some [.bool (inR p s14.length)] := by
 show IR (std (Oj N) N) (xOf _) = _
 simp only [IR, std, xOf, PXb, PXc, PXn, PXm, Nat.reduceAdd, Int.reduceBEq]
 rfl
def D2 (s : Inn) (d : Del) : Inn :=
  let odd := !(d.runs.tmod 2 == 0) != d.crossed
  let t : Inn := cond odd { s with striker := s.other, other := s.striker } s
  let k : Bool := d.how == 0
  cond (!k && (d.victim == 1 && !(s.striker == 0)))
    { t with striker := cond odd t.striker 0, other := cond odd 0 t.other, batters := cond (inR s.striker s.batters.length) (Lc s.batters s.striker 2) s.batters, wickets := IntKind.i64.wrap (s.wickets + 1) }
    (cond (!k && (d.victim == 2 && !(s.other == 0)))
      { t with striker := cond odd 0 t.striker, other := cond odd t.other 0, batters := cond (inR s.other s.batters.length) (Lc s.batters s.other 2) s.batters, wickets := IntKind.i64.wrap (s.wickets + 1) }
      t)
theorem Zr {N : Nat} {s0 s1 s2 s3 s4 s5 s6 s7 s8 s9 s10 s11 s12 s13 s15 s21 s22 s23 s25 s26 s27 : Int} {s18 s20 : Bool} {s14 s16 s17 s19 s24 : Rows} {d0 d1 d2 d3 d4 d6 d7 d8 d9 d11 : Int} {d5 d10 : Bool} (h : Fit s14 s16 s17 s19 s24) : HW N [.int s0, .int s1, .int s2, .int s3, .int s4, .int s5, .int s6, .int s7, .int s8, .int s9, .int s10, .int s11, .int s12, .int s13, .rows s14, .int s15, .rows s16, .rows s17, .bool s18, .rows s19, .bool s20, .int s21, .int s22, .int s23, .rows s24, .int s25, .int s26, .int s27, .int d0, .int d1, .int d2, .int d3, .int d4, .bool d5, .int d6, .int d7, .int d8, .int d9, .bool d10, .int d11] = some (D2 (⟨s0, s1, s2, s3, s4, s5, s6, s7, s8, s9, s10, s11, s12, s13, s14, s15, s16, s17, s18, s19, s20, s21, s22, s23, s24, s25, s26, s27⟩ : Inn) (⟨d0, d1, d2, d3, d4, d5, d6, d7, d8, d9, d10, d11⟩ : Del)).ls := by
 show K8 (std (IG N) N) (xOf _) = _
 simp only [K8, PK, N3, std, xOf, PXb, PXc, PXn, PXm, Nat.reduceAdd, Int.reduceBEq, Fi h, Fz, gM h.bt]
 unfold D2
 cases d5 <;> cases d2.tmod 2 == 0 <;> cases d6 == 0 <;> cases d7 == 1 <;> cases d7 == 2 <;> cases s12 == 0 <;> cases s13 == 0 <;> rfl
def bG (s : Inn) : Inn := { s with striker := s.other, other := s.striker }
theorem WI {N : Nat} {s0 s1 s2 s3 s4 s5 s6 s7 s8 s9 s10 s11 s12 s13 s15 s21 s22 s23 s25 s26 s27 : Int} {s18 s20 : Bool} {s14 s16 s17 s19 s24 : Rows} (h : Fit s14 s16 s17 s19 s24) : Ey N [.int s0, .int s1, .int s2, .int s3, .int s4, .int s5, .int s6, .int s7, .int s8, .int s9, .int s10, .int s11, .int s12, .int s13, .rows s14, .int s15, .rows s16, .rows s17, .bool s18, .rows s19, .bool s20, .int s21, .int s22, .int s23, .rows s24, .int s25, .int s26, .int s27] = some (bG (⟨s0, s1, s2, s3, s4, s5, s6, s7, s8, s9, s10, s11, s12, s13, s14, s15, s16, s17, s18, s19, s20, s21, s22, s23, s24, s25, s26, s27⟩ : Inn)).ls := by
 show HA (std (IY N) N) (xOf _) = _
 simp only [HA, NB, std, xOf, PXb, PXc, PXn, PXm, Nat.reduceAdd, Int.reduceBEq, Fi h]
 rfl
theorem U4 {N : Nat} {v : Int}  : CG N [.int v] = some [.bool (!(v == 0))] := by
 show Jq (std (Me N) N) (xOf _) = _
 rfl
theorem UM {N : Nat} {v : Int}  : Dd N [.int v] = some [.bool (!(v == 0))] := by
 show Ie (std (LR N) N) (xOf _) = _
 rfl
theorem Qe {N : Nat} {s0 s1 s2 s3 s4 s5 s6 s7 s8 s9 s10 s11 s12 s13 s15 s21 s22 s23 s25 s26 s27 : Int} {s18 s20 : Bool} {s14 s16 s17 s19 s24 : Rows} (h : s14.length ≤ 1048576) (hN : 2097152 < N) : BZ N [.int s0, .int s1, .int s2, .int s3, .int s4, .int s5, .int s6, .int s7, .int s8, .int s9, .int s10, .int s11, .int s12, .int s13, .rows s14, .int s15, .rows s16, .rows s17, .bool s18, .rows s19, .bool s20, .int s21, .int s22, .int s23, .rows s24, .int s25, .int s26, .int s27] = some [.bool (EE s14)] := by
 show Dt (std (D3 N) N) (xOf _) = _
 simp only [Dt, FJ, std, xOf, PXb, PXc, PXn, AE]
 rw [show EE s14 = iLe 0 (M3 (fun i => !(atI s14 i 0 == 0)) s14.length) from (IB _ _).symm]
 rw [Option.bind_assoc]
 refine Ac (Cb (len := s14.length) (FI fun i => !(atI s14 i 0 == 0)) ?_ ?_ s14.length 0 N (by omega) (by omega)) ?_
 ·intro self
  simp only [PXb, PXc, PXn, AE, BX]
 ·intro i self hi
  simp only [PXb, PXc, PXn, AE, Am (show i ≤ 1099511627776 by omega), BC hi, Aj hi, FI, CU, FJ, U4]
  cases atI s14 i 0 == 0 <;> rfl
 ·unfold M3
  cases Bo (FI fun i => !(atI s14 i 0 == 0)) s14.length 0 <;> rfl
theorem WG {N : Nat} {s0 s1 s2 s3 s4 s5 s6 s7 s8 s9 s10 s11 s12 s13 s15 s21 s22 s23 s25 s26 s27 : Int} {s18 s20 : Bool} {s14 s16 s17 s19 s24 : Rows} (h : s14.length ≤ 1048576) (hN : 2097152 < N) : E8 N [.int s0, .int s1, .int s2, .int s3, .int s4, .int s5, .int s6, .int s7, .int s8, .int s9, .int s10, .int s11, .int s12, .int s13, .rows s14, .int s15, .rows s16, .rows s17, .bool s18, .rows s19, .bool s20, .int s21, .int s22, .int s23, .rows s24, .int s25, .int s26, .int s27] = some [.bool (EE s14)] := by
 show HJ (std (Ii N) N) (xOf _) = _
 simp only [HJ, EP, std, xOf, PXb, PXc, PXn, AE]
 rw [show EE s14 = iLe 0 (M3 (fun i => !(atI s14 i 0 == 0)) s14.length) from (IB _ _).symm]
 rw [Option.bind_assoc]
 refine Ac (Cb (len := s14.length) (FI fun i => !(atI s14 i 0 == 0)) ?_ ?_ s14.length 0 N (by omega) (by omega)) ?_
 ·intro self
  simp only [PXb, PXc, PXn, AE, BX]
 ·intro i self hi
  simp only [PXb, PXc, PXn, AE, Am (show i ≤ 1099511627776 by omega), BC hi, Aj hi, FI, CU, EP, UM]
  cases atI s14 i 0 == 0 <;> rfl
 ·unfold M3
  cases Bo (FI fun i => !(atI s14 i 0 == 0)) s14.length 0 <;> rfl
theorem PL {N : Nat} {s0 s1 s2 s3 s4 s5 s6 s7 s8 s9 s10 s11 s12 s13 s15 s21 s22 s23 s25 s26 s27 : Int} {s18 s20 : Bool} {s14 s16 s17 s19 s24 : Rows} (h : s14.length ≤ 1048576) (hN : 2097152 < N) : A2 N [.int s0, .int s1, .int s2, .int s3, .int s4, .int s5, .int s6, .int s7, .int s8, .int s9, .int s10, .int s11, .int s12, .int s13, .rows s14, .int s15, .rows s16, .rows s17, .bool s18, .rows s19, .bool s20, .int s21, .int s22, .int s23, .rows s24, .int s25, .int s26, .int s27] = some [.bool (Ks s14 s12 s13)] := by
 show DC (std (Da N) N) (xOf _) = _
 simp only [DC, LX, std, xOf, PXb, PXc, PXn, PXm, Nat.reduceAdd, Int.reduceBEq, Qe h hN]
 rfl
theorem YE {N : Nat} {s0 s1 s2 s3 s4 s5 s6 s7 s8 s9 s10 s11 s12 s13 s15 s21 s22 s23 s25 s26 s27 : Int} {s18 s20 : Bool} {s14 s16 s17 s19 s24 : Rows} (h : s14.length ≤ 1048576) (hN : 2097152 < N) : CD N [.int s0, .int s1, .int s2, .int s3, .int s4, .int s5, .int s6, .int s7, .int s8, .int s9, .int s10, .int s11, .int s12, .int s13, .rows s14, .int s15, .rows s16, .rows s17, .bool s18, .rows s19, .bool s20, .int s21, .int s22, .int s23, .rows s24, .int s25, .int s26, .int s27] = some [.rows (EJ s14 s14.length)] := by
 show Ec (std (Kd N) N) (xOf _) = _
 simp only [Ec, std, xOf, PXb, PXc, PXn, AE]
 refine Ac (Jd (len := s14.length) (fun i => [.rows (EJ s14 i), .int (i : Int)]) [.rows (EJ s14 s14.length)] ?_ ?_ N (by omega)) rfl
 ·intro self
  simp only [PXb, PXc, PXn, AE, BX]
 ·intro i self hi
  have h2 : (EJ s14 i ++ [[PV.int ((i : Int) + 1)]]).length ≤ 4194304 := by have := VK s14 i; simp; omega
  simp only [PXb, PXc, PXn, AE, Am (show i ≤ 1099511627776 by omega), BC hi, Aj hi, CU, EJ, KJ h2 (show 8 ≤ 4096 by omega)]
  cases (atI s14 i 0 == 0 || atI s14 i 0 == 3) <;> rfl
def Tz (s : Inn) (p q : Int) : Inn × Int :=
  cond (EE s.batters) (s, 1) (cond (!inR p s.batters.length || !inR q s.batters.length) (s, 3) (cond (p == q) (s, 4)
    ({ s with batters := Lc (Lc s.batters p 1) q 1, striker := p, other := q }, 0)))
theorem YV {N : Nat} {s0 s1 s2 s3 s4 s5 s6 s7 s8 s9 s10 s11 s12 s13 s15 s21 s22 s23 s25 s26 s27 : Int} {s18 s20 : Bool} {s14 s16 s17 s19 s24 : Rows} {p : Int} {q : Int} (h : Fit s14 s16 s17 s19 s24) (hN : 2097152 < N) : Gj N [.int s0, .int s1, .int s2, .int s3, .int s4, .int s5, .int s6, .int s7, .int s8, .int s9, .int s10, .int s11, .int s12, .int s13, .rows s14, .int s15, .rows s16, .rows s17, .bool s18, .rows s19, .bool s20, .int s21, .int s22, .int s23, .rows s24, .int s25, .int s26, .int s27, .int p, .int q] = some (A1 (Tz (⟨s0, s1, s2, s3, s4, s5, s6, s7, s8, s9, s10, s11, s12, s13, s14, s15, s16, s17, s18, s19, s20, s21, s22, s23, s24, s25, s26, s27⟩ : Inn) p q)) := by
 show JW (std (E3 N) N) (xOf _) = _
 generalize hres : (some (A1 (Tz (⟨s0, s1, s2, s3, s4, s5, s6, s7, s8, s9, s10, s11, s12, s13, s14, s15, s16, s17, s18, s19, s20, s21, s22, s23, s24, s25, s26, s27⟩ : Inn) p q)) : Option (List PV)) = RR
 simp only [JW, M4, OP, Mz, std, xOf, PXb, PXc, PXn, PXm, Nat.reduceAdd, Int.reduceBEq, Fi h, Qe h.bt hN, Fz]
 subst hres; simp only [Tz]
 cases EE s14 <;> try rfl
 cases hp : inR p s14.length <;> cases hq : inR q s14.length <;> try rfl
 rw [JK hp h.bt, JK hq h.bt]
 cases p == q <;> rfl
def Oz (s : Inn) (p : Int) : Int :=
 cond (!inR p s.batters.length) 3 (cond (!Ks s.batters s.striker s.other || atI s.batters (ix p) 0 == 1) 4 (cond (atI s.batters (ix p) 0 == 2) 5 0))
theorem Sx {N : Nat} {s0 s1 s2 s3 s4 s5 s6 s7 s8 s9 s10 s11 s12 s13 s15 s21 s22 s23 s25 s26 s27 : Int} {s18 s20 : Bool} {s14 s16 s17 s19 s24 : Rows} {p : Int} (h : s14.length ≤ 1048576) (hN : 2097152 < N) : C0 N [.int s0, .int s1, .int s2, .int s3, .int s4, .int s5, .int s6, .int s7, .int s8, .int s9, .int s10, .int s11, .int s12, .int s13, .rows s14, .int s15, .rows s16, .rows s17, .bool s18, .rows s19, .bool s20, .int s21, .int s22, .int s23, .rows s24, .int s25, .int s26, .int s27, .int p] = some [.int (Oz (⟨s0, s1, s2, s3, s4, s5, s6, s7, s8, s9, s10, s11, s12, s13, s14, s15, s16, s17, s18, s19, s20, s21, s22, s23, s24, s25, s26, s27⟩ : Inn) p)] := by
 show Ki (std (H8 N) N) (xOf _) = _
 generalize hres : (some [.int (Oz (⟨s0, s1, s2, s3, s4, s5, s6, s7, s8, s9, s10, s11, s12, s13, s14, s15, s16, s17, s18, s19, s20, s21, s22, s23, s24, s25, s26, s27⟩ : Inn) p)] : Option (List PV)) = RR
 simp only [Ki, NE, N5, std, xOf, PXb, PXc, PXn, PXm, Nat.reduceAdd, Int.reduceBEq, Fz, PL h hN]
 subst hres; simp only [Oz]
 cases hp : inR p s14.length <;> try rfl
 rw [JK hp h]
 cases Ks s14 s12 s13 <;> try rfl
 simp only [PXb, PXc, PXn, PXm, Nat.reduceAdd, Int.reduceBEq, atI, ix]
theorem Xr {s : Inn} {p : Int} (h : (Oz s p == 0) = true) : inR p s.batters.length = true := by
 unfold Oz at h
 cases hp : inR p s.batters.length with
 | true => rfl
 | false => rw [hp] at h; cases h
def RB (s : Inn) (p : Int) : Inn × Int :=
 cond (Oz s p == 0) ({ s with batters := Lc s.batters p 1, striker := cond (s.striker == 0) p s.striker, other := cond (s.striker == 0) s.other p }, 0) (s, Oz s p)
def L6 (s : Inn) (p : Int) : Inn × Int :=
 cond (Oz s p == 0) ({ s with batters := Lc s.batters p 2, wickets := IntKind.i64.wrap (s.wickets + 1) }, 0) (s, Oz s p)
theorem XY {N : Nat} {s0 s1 s2 s3 s4 s5 s6 s7 s8 s9 s10 s11 s12 s13 s15 s21 s22 s23 s25 s26 s27 : Int} {s18 s20 : Bool} {s14 s16 s17 s19 s24 : Rows} {p : Int} (h : Fit s14 s16 s17 s19 s24) (hN : 2097152 < N) : Fp N [.int s0, .int s1, .int s2, .int s3, .int s4, .int s5, .int s6, .int s7, .int s8, .int s9, .int s10, .int s11, .int s12, .int s13, .rows s14, .int s15, .rows s16, .rows s17, .bool s18, .rows s19, .bool s20, .int s21, .int s22, .int s23, .rows s24, .int s25, .int s26, .int s27, .int p] = some (A1 (RB (⟨s0, s1, s2, s3, s4, s5, s6, s7, s8, s9, s10, s11, s12, s13, s14, s15, s16, s17, s18, s19, s20, s21, s22, s23, s24, s25, s26, s27⟩ : Inn) p)) := by
 show IM (std (GD N) N) (xOf _) = _
 generalize hres : (some (A1 (RB (⟨s0, s1, s2, s3, s4, s5, s6, s7, s8, s9, s10, s11, s12, s13, s14, s15, s16, s17, s18, s19, s20, s21, s22, s23, s24, s25, s26, s27⟩ : Inn) p)) : Option (List PV)) = RR
 simp only [IM, Ns, Nx, std, xOf, PXb, PXc, PXn, PXm, Nat.reduceAdd, Int.reduceBEq, Fi h, Sx h.bt hN]
 subst hres; simp only [RB]
 cases hm : Oz (⟨s0, s1, s2, s3, s4, s5, s6, s7, s8, s9, s10, s11, s12, s13, s14, s15, s16, s17, s18, s19, s20, s21, s22, s23, s24, s25, s26, s27⟩ : Inn) p == 0 <;> try rfl
 rw [JK (Xr hm) h.bt]
 cases s12 == 0 <;> rfl
theorem VZ {N : Nat} {s0 s1 s2 s3 s4 s5 s6 s7 s8 s9 s10 s11 s12 s13 s15 s21 s22 s23 s25 s26 s27 : Int} {s18 s20 : Bool} {s14 s16 s17 s19 s24 : Rows} {p : Int} (h : Fit s14 s16 s17 s19 s24) (hN : 2097152 < N) : Dv N [.int s0, .int s1, .int s2, .int s3, .int s4, .int s5, .int s6, .int s7, .int s8, .int s9, .int s10, .int s11, .int s12, .int s13, .rows s14, .int s15, .rows s16, .rows s17, .bool s18, .rows s19, .bool s20, .int s21, .int s22, .int s23, .rows s24, .int s25, .int s26, .int s27, .int p] = some (A1 (L6 (⟨s0, s1, s2, s3, s4, s5, s6, s7, s8, s9, s10, s11, s12, s13, s14, s15, s16, s17, s18, s19, s20, s21, s22, s23, s24, s25, s26, s27⟩ : Inn) p)) := by
 show GM (std (Cz N) N) (xOf _) = _
 generalize hres : (some (A1 (L6 (⟨s0, s1, s2, s3, s4, s5, s6, s7, s8, s9, s10, s11, s12, s13, s14, s15, s16, s17, s18, s19, s20, s21, s22, s23, s24, s25, s26, s27⟩ : Inn) p)) : Option (List PV)) = RR
 simp only [GM, Mp, LE, Mc, std, xOf, PXb, PXc, PXn, PXm, Nat.reduceAdd, Int.reduceBEq, Fi h, Sx h.bt hN, Fz]
 subst hres; simp only [L6]
 cases hm : Oz (⟨s0, s1, s2, s3, s4, s5, s6, s7, s8, s9, s10, s11, s12, s13, s14, s15, s16, s17, s18, s19, s20, s21, s22, s23, s24, s25, s26, s27⟩ : Inn) p == 0 <;> try rfl
 have hk : inR p s14.length = true := Xr hm
 rw [JK hk h.bt, hk]
 rfl
def OM (s : Inn) (p : Int) (hurt : Bool) : Inn × Int :=
  cond (!inR p s.batters.length) (s, 3) (cond (s.striker == 0 || s.other == 0) (s, 6) (cond (!(p == s.striker) && !(p == s.other)) (s, 4)
    (cond (hurt && ((EJ s.batters s.batters.length).length : Int) == 0) (s, 19)
      ({ s with striker := cond (p == s.striker) 0 s.striker, other := cond (p == s.striker) s.other 0, batters := Lc s.batters p (cond hurt 3 2), wickets := cond hurt s.wickets (IntKind.i64.wrap (s.wickets + 1)) }, 0))))
theorem V6 {N : Nat} {s0 s1 s2 s3 s4 s5 s6 s7 s8 s9 s10 s11 s12 s13 s15 s21 s22 s23 s25 s26 s27 : Int} {s18 s20 : Bool} {s14 s16 s17 s19 s24 : Rows} {p : Int} {b : Bool} (h : Fit s14 s16 s17 s19 s24) (hN : 2097152 < N) : Er N [.int s0, .int s1, .int s2, .int s3, .int s4, .int s5, .int s6, .int s7, .int s8, .int s9, .int s10, .int s11, .int s12, .int s13, .rows s14, .int s15, .rows s16, .rows s17, .bool s18, .rows s19, .bool s20, .int s21, .int s22, .int s23, .rows s24, .int s25, .int s26, .int s27, .int p, .bool b] = some (A1 (OM (⟨s0, s1, s2, s3, s4, s5, s6, s7, s8, s9, s10, s11, s12, s13, s14, s15, s16, s17, s18, s19, s20, s21, s22, s23, s24, s25, s26, s27⟩ : Inn) p b)) := by
 show HI (std (DU N) N) (xOf _) = _
 generalize hres : (some (A1 (OM (⟨s0, s1, s2, s3, s4, s5, s6, s7, s8, s9, s10, s11, s12, s13, s14, s15, s16, s17, s18, s19, s20, s21, s22, s23, s24, s25, s26, s27⟩ : Inn) p b)) : Option (List PV)) = RR
 simp only [HI, Mh, NC, Lx, std, xOf, PXb, PXc, PXn, PXm, Nat.reduceAdd, Int.reduceBEq, Fi h, Fz, YE h.bt hN]
 subst hres; simp only [OM]
 cases hp : inR p s14.length <;> try rfl
 rw [JK hp h.bt]
 cases s12 == 0 <;> cases s13 == 0 <;> try rfl
 cases p == s12 <;> cases p == s13 <;> cases b <;> try rfl
 all_goals (simp only [PXb, PXc, PXn, PXm, Nat.reduceAdd, Int.reduceBEq]; cases ((EJ s14 s14.length).length : Int) == 0 <;> rfl)
end Go.Px
end
section
namespace Go.Px
set_option maxRecDepth 100000
def btw (a b c : Int) : Bool := iLe b a && iLe a c
theorem C7 (N : Nat) (a b c : Int) : AY N [.int a, .int b, .int c] = some [.bool (btw a b c)] := by
 show some [PV.bool (cond (iLe b a) (iLe a c) false)] = _
 rw [Vn]; rfl
theorem Jf (N : Nat) (a b c : Int) : Bz N [.int a, .int b, .int c] = some [.bool (btw a b c)] := by
 show some [PV.bool (cond (iLe b a) (iLe a c) false)] = _
 rw [Vn]; rfl
def Ln (x1 x2 x3 x4 x5 x6 x7 x9 x10 x11 x12 : Int) : Bool := btw x1 2 11 && btw x2 1 2 && btw x3 0 90 && btw x4 4 8 && btw x5 0 90 && btw x6 1 5 && btw x7 1 5 && btw x9 0 200 && btw x10 0 1000 && btw x11 0 9 && btw x12 0 11
theorem Va (N : Nat) (x0 : ByteArray) (x1 x2 x3 x4 x5 x6 x7 x9 x10 x11 x12 : Int) (x8 : Bool) (x13 : Rows) :
   Ed N [.str x0, .int x1, .int x2, .int x3, .int x4, .int x5, .int x6, .int x7, .bool x8, .int x9, .int x10, .int x11, .int x12, .rows x13] = some [.bool (Ln x1 x2 x3 x4 x5 x6 x7 x9 x10 x11 x12)] := by
  show HE (std (Ih N) N) (xOf _) = _
  have e : ∀ ls, Ih N 162 [] ls = Bz N ls := fun ls => rfl
  simp only [HE, std, xOf, e, Jf, PXb, PXc, PXn, AE, Ln]
def T2 (s : ByteArray) (i : Nat) : Bool := !(iLe 65 (MI s i) && iLe (MI s i) 90) && ((i : Int) == 0 || ((!(MI s i == 95) && !(MI s i == 45)) && (iLt (MI s i) 48 || iLt 57 (MI s i))))
def To (s : ByteArray) : Bool := !A6 (T2 s) s.size 0 && (iLe 1 s.size && iLe s.size 16)
theorem gG (s : ByteArray) : (FC s).length = s.size := by
 simp only [FC, List.length_map, Array.length_toList]; rfl
theorem go (s : ByteArray) (i : Nat) (h : i < s.size) : pvI (AJ (FC s) i 0) = MI s i := by
 unfold AJ A8 AF FC MI
 simp only [List.getD_eq_getElem?_getD, List.getElem?_map]
 have : i < s.data.toList.length := by simpa using h
 rw [List.getElem?_eq_getElem this]
 simp [List.getElem?_eq_getElem this]
theorem Yk (N : Nat) (s : ByteArray) (hN : s.size < N) (hs : s.size ≤ 1048576) : Ip N [.str s] = some [.bool (To s)] := by
 show MC (std (R4 N) N) (xOf _) = _
 simp only [MC, std, xOf, gG, PXb, PXc, PXn, AE]
 refine Ac (FH (len := s.size) (T2 s) [.bool false] ?_ ?_ N hN) ?_
 ·intro self
  simp only [PXb, PXc, PXn, AE, BX]
 ·intro i self hi
  simp only [PXb, PXc, PXn, AE, Int.toNat_natCast, go s i hi, Am (show i ≤ 1099511627776 by omega), BC hi, Aj hi, T2]
 ·unfold To
  cases A6 (T2 s) s.size 0 <;> rfl
end Go.Px
end
section
namespace Go.Px
set_option maxRecDepth 100000
theorem fu {i len : Nat} (h : i < len) (hl : len ≤ 1099511627776) : (!iLt 0 (i : Int) || iIn (IntKind.i64.wrap ((i : Int) - 1)) (len : Int)) = true := by
 rw [Ga (by omega) (by omega)]
 simp only [iLt, iIn, Bool.or_eq_true, Bool.not_eq_true', decide_eq_false_iff_not, decide_eq_true_eq]
 omega
def ew (L : Rows) (ov : Int) (i : Nat) : Bool := (iLt (atI L i 0) 1 || iLt (atI L i 1) (atI L i 0) || iLt ov (atI L i 1)) || !btw (atI L i 2) 0 11
def cd (L : Rows) (i : Nat) : Bool := iLt 0 (i : Int) && iLe (atI L i 0) (pvI (AJ L (IntKind.i64.wrap ((i : Int) - 1)).toNat 1))
def bn (L : Rows) (ov : Int) (i : Nat) : Option (List PV) := cond (ew L ov i) (some [.int 2]) (cond (cd L i) (some [.int 8]) none)
def dY : Option (List PV) → Int
 | none => 0
 | some r => pvI (AF r 0)
def ZV (L : Rows) (ov : Int) : Int := cond (iLt 8 (L.length : Int)) 9 (dY (Bo (bn L ov) L.length 0))
theorem WJ (o : Option (List PV)) : cond (pvI (AF (T0 o) 0) == ((0 : Nat) : Int)) (some [PV.int (pvI (AF (T0 o) 1))]) (some [PV.int 0]) = some [PV.int (dY o)] := by
 cases o <;> rfl
theorem Wy (N : Nat) (x0 : ByteArray) (x1 x2 x3 x4 x5 x6 x7 x9 x10 x11 x12 : Int) (x8 : Bool) (L : Rows) (hN : 2097152 < N) :
   Fc N [.str x0, .int x1, .int x2, .int x3, .int x4, .int x5, .int x6, .int x7, .bool x8, .int x9, .int x10, .int x11, .int x12, .rows L] = some [.int (ZV L x3)] := by
  show IU (std (Jl N) N) (xOf _) = _
  have e : ∀ ls, Jl N 162 [] ls = Bz N ls := fun ls => rfl
  simp only [IU, std, xOf, e, Jf, PXb, PXc, PXn, AE, ZV]
  cases h8 : iLt 8 (L.length : Int) with
  | true => rfl
  | false =>
    have hl : L.length ≤ 8 := by simp [iLt] at h8; omega
    simp only [cond_false]
    refine Ac (Cb (len := L.length) (bn L x3) ?_ ?_ L.length 0 N (by omega) (by omega)) ?_
    · intro self
      simp only [PXb, PXc, PXn, AE, BX]
    · intro i self hi
      simp only [PXb, PXc, PXn, AE, Int.toNat_natCast, Am (show i ≤ 1099511627776 by omega), BC hi, Aj hi, Jf, e, fu hi (by omega)]
      simp only [bn, ew, cd, atI]
      cases (iLt (pvI (AJ L i 0)) 1 || iLt (pvI (AJ L i 1)) (pvI (AJ L i 0)) || iLt x3 (pvI (AJ L i 1)) || !btw (pvI (AJ L i 2)) 0 11) <;>
      cases (iLt 0 (i : Int) && iLe (pvI (AJ L i 0)) (pvI (AJ L (IntKind.i64.wrap ((i : Int) - 1)).toNat 1))) <;> rfl
    · exact WJ _
def Jx (x0 : ByteArray) (x1 x2 x3 x4 x5 x6 x7 x9 x10 x11 x12 : Int) (L : Rows) : Int :=
  cond (!To x0) 5 (cond (!Ln x1 x2 x3 x4 x5 x6 x7 x9 x10 x11 x12) 2
    (cond ((!(x10 == 0) && x2 == 1) || ((!(x5 == 0) || iLt 0 (L.length : Int)) && x3 == 0)) 1
      (cond (!(x5 == 0) && iLt (IntKind.i64.wrap (x5 * x1)) x3) 13 (ZV L x3))))
theorem Q3 (N : Nat) (x0 : ByteArray) (x1 x2 x3 x4 x5 x6 x7 x9 x10 x11 x12 : Int) (x8 : Bool) (L : Rows) (hN : 2097152 < N) (hs : x0.size ≤ 1048576) :
   AK N [.str x0, .int x1, .int x2, .int x3, .int x4, .int x5, .int x6, .int x7, .bool x8, .int x9, .int x10, .int x11, .int x12, .rows L] = some [.int (Jx x0 x1 x2 x3 x4 x5 x6 x7 x9 x10 x11 x12 L)] := by
  show JQ (std (Ee N) N) (xOf _) = _
  have e : ∀ ls, Ee N 95 [] ls = Ip N ls := fun ls => rfl
  have e2 : ∀ ls, Ee N 96 [] ls = Ed N ls := fun ls => rfl
  have e3 : ∀ ls, Ee N 97 [] ls = Fc N ls := fun ls => rfl
  simp only [JQ, std, xOf, e, e2, e3, Yk N x0 (by omega) hs, Va, Wy N _ _ _ _ _ _ _ _ _ _ _ _ _ _ hN, PXb, PXc, AE, Jx]
  cases To x0 <;> cases Ln x1 x2 x3 x4 x5 x6 x7 x9 x10 x11 x12 <;> try rfl
  simp only [PXb, PXc, AE, Bool.not_true]
  cases (!(x10 == 0) && x2 == 1) <;> cases ((!(x5 == 0) || iLt 0 (L.length : Int)) && x3 == 0) <;> try rfl
  cases (!(x5 == 0) && iLt (IntKind.i64.wrap (x5 * x1)) x3) <;> rfl
end Go.Px
end
section
namespace Go.Px
set_option maxRecDepth 100000
theorem SQ (N : Nat) (L : Rows) (v : Int) (hN : L.length < N) (hl : L.length ≤ 2097152) : C8 N [.rows L, .int v] = some [.int (M3 (fun j => v == atI L j 0) L.length)] := by
 show E0 (std (Kx N) N) (xOf _) = _
 simp only [E0, std, xOf, PXb, PXc, PXn, AE]
 refine Ac (Cb (len := L.length) (FI fun j => v == atI L j 0) ?_ ?_ L.length 0 N (by omega) (by omega)) ?_
 ·intro self
  simp only [PXb, PXc, PXn, AE, BX]
 ·intro i self hi
  simp only [PXb, PXc, PXn, AE, Am (show i ≤ 1099511627776 by omega), BC hi, Aj hi, FI, CU]
  cases v == atI L i 0 <;> rfl
 ·unfold M3
  cases Bo (FI fun j => v == atI L j 0) L.length 0 <;> rfl
def Id (L : Rows) (k : Nat) (v : Int) : Bool := A6 (fun j => v == atI L j 0) k 0
theorem It (N : Nat) (L : Rows) (v : Int) (hN : L.length < N) (hl : L.length ≤ 2097152) : Ad N [.rows L, .int v] = some [.bool (Id L L.length v)] := by
 show DE (std (EV N) N) (xOf _) = _
 have e : ∀ ls, EV N 163 [] ls = C8 N ls := fun ls => rfl
 simp only [DE, std, xOf, PXb, PXc, PXn, AE, e, SQ N L v hN hl, IB, Id]
theorem eT (L : Rows) (i : Nat) (v : Int) (h : i ≤ L.length) : Id (L.take i) (L.take i).length v = Id L i v := by
 rw [List.length_take, Nat.min_eq_left h]
 exact Wq i 0 (fun j _ hj => by rw [eP (by omega)])
def OE (L : Rows) (n : Int) (i : Nat) : Bool := !btw (atI L i 0) 1 n || Id L i (atI L i 0)
def Im (L : Rows) (n : Int) : Bool := !A6 (OE L n) L.length 0
theorem KO (N : Nat) (L : Rows) (n : Int) (hN : L.length < N) (hl : L.length ≤ 2097152) : Ck N [.rows L, .int n] = some [.bool (Im L n)] := by
 show EM (std (DJ N) N) (xOf _) = _
 have e : ∀ ls, DJ N 53 [] ls = AY N ls := fun ls => rfl
 have e2 : ∀ ls, DJ N 98 [] ls = Ad N ls := fun ls => rfl
 simp only [EM, std, xOf, PXb, PXc, PXn, AE]
 refine Ac (FH (len := L.length) (OE L n) [.bool false] ?_ ?_ N hN) ?_
 ·intro self
  simp only [PXb, PXc, PXn, AE, BX]
 ·intro i self hi
  have h1 : (L.take i).length ≤ L.length := List.length_take_le' i L
  simp only [PXb, PXc, PXn, AE, Am (show i ≤ 1099511627776 by omega), BC hi, Aj hi, e, e2, C7, gd (Nat.le_of_lt hi), Int.toNat_zero, List.drop_zero, It N (L.take i) _ (by omega) (by omega), eT L i _ (by omega), CU, OE]
  cases btw (atI L i 0) 1 n <;> cases Id L i (atI L i 0) <;> rfl
 ·unfold Im
  cases A6 (OE L n) L.length 0 <;> rfl
theorem UP (N : Nat) (v : Int) : CG N [.int v] = some [.bool (!(v == 0))] := rfl
def lsI (L14 L16 L17 L19 L24 : Rows) (b18 b20 : Bool) (x0 x1 x2 x3 x4 x5 x6 x7 x8 x9 x10 x11 x12 x13 x15 x21 x22 x23 x25 x26 x27 : Int) : List PV :=
 [.int x0, .int x1, .int x2, .int x3, .int x4, .int x5, .int x6, .int x7, .int x8, .int x9, .int x10, .int x11, .int x12, .int x13, .rows L14, .int x15, .rows L16, .rows L17, .bool b18, .rows L19, .bool b20, .int x21, .int x22, .int x23, .rows L24, .int x25, .int x26, .int x27]
section
variable (N : Nat) (L14 L16 L17 L19 L24 : Rows) (b18 b20 : Bool) (x0 x1 x2 x3 x4 x5 x6 x7 x8 x9 x10 x11 x12 x13 x15 x21 x22 x23 x25 x26 x27 : Int)
theorem WT (hN : L14.length < N) (hl : L14.length ≤ 2097152) : BZ N (lsI L14 L16 L17 L19 L24 b18 b20 x0 x1 x2 x3 x4 x5 x6 x7 x8 x9 x10 x11 x12 x13 x15 x21 x22 x23 x25 x26 x27) = some [.bool (EE L14)] := by
 show Dt (std (D3 N) N) (xOf (lsI ..)) = _
 have e : ∀ ls, D3 N 165 [] ls = CG N ls := fun ls => rfl
 simp only [Dt, std, xOf, lsI, PXb, PXc, PXn, AE]
 rw [show EE L14 = iLe 0 (M3 (fun i => !(atI L14 i 0 == 0)) L14.length) from (IB _ _).symm]
 rw [Option.bind_assoc]
 refine Ac (Cb (len := L14.length) (FI fun i => !(atI L14 i 0 == 0)) ?_ ?_ L14.length 0 N (by omega) (by omega)) ?_
 ·intro self
  simp only [PXb, PXc, PXn, AE, BX]
 ·intro i self hi
  simp only [PXb, PXc, PXn, AE, Am (show i ≤ 1099511627776 by omega), BC hi, Aj hi, FI, CU, e, UP]
  cases atI L14 i 0 == 0 <;> rfl
 ·unfold M3
  cases Bo (FI fun i => !(atI L14 i 0 == 0)) L14.length 0 <;> rfl
theorem U9 (hN : L14.length < N) (hl : L14.length ≤ 2097152) : A2 N (lsI L14 L16 L17 L19 L24 b18 b20 x0 x1 x2 x3 x4 x5 x6 x7 x8 x9 x10 x11 x12 x13 x15 x21 x22 x23 x25 x26 x27) = some [.bool (Ks L14 x12 x13)] := by
 show DC (std (Da N) N) (xOf (lsI ..)) = _
 have e : ∀ ls, Da N 103 [] ls = BZ N ls := fun ls => rfl
 have := WT N L14 L16 L17 L19 L24 b18 b20 x0 x1 x2 x3 x4 x5 x6 x7 x8 x9 x10 x11 x12 x13 x15 x21 x22 x23 x25 x26 x27 hN hl
 simp only [lsI] at this
 simp only [DC, std, xOf, lsI, PXb, PXc, PXn, AE, e, this, Ks]
theorem W2 (hN : L14.length < N) (hl : L14.length ≤ 2097152) : CD N (lsI L14 L16 L17 L19 L24 b18 b20 x0 x1 x2 x3 x4 x5 x6 x7 x8 x9 x10 x11 x12 x13 x15 x21 x22 x23 x25 x26 x27) = some [.rows (EJ L14 L14.length)] := by
 show Ec (std (Kd N) N) (xOf (lsI ..)) = _
 simp only [Ec, std, xOf, lsI, PXb, PXc, PXn, AE]
 refine Ac (Jd (len := L14.length) (fun i => [.rows (EJ L14 i), .int (i : Int)]) [.rows (EJ L14 L14.length)] ?_ ?_ N hN) rfl
 ·intro self
  simp only [PXb, PXc, PXn, AE, BX]
 ·intro i self hi
  have h2 : (EJ L14 i ++ [[PV.int ((i : Int) + 1)]]).length ≤ 4194304 := by have := VK L14 i; simp; omega
  simp only [PXb, PXc, PXn, AE, Am (show i ≤ 1099511627776 by omega), BC hi, Aj hi, CU, EJ, KJ h2 (show 8 ≤ 4096 by omega)]
  cases (atI L14 i 0 == 0 || atI L14 i 0 == 3) <;> rfl
end
theorem Rd (N : Nat) (v : Int) : Ch N [.int v] = some [.bool (!btw v 0 1000000000)] := by
 show EO (std (Fy N) N) (xOf _) = _
 have e : ∀ ls, Fy N 53 [] ls = AY N ls := fun ls => rfl
 simp only [EO, std, xOf, PXb, PXc, PXn, AE, e, C7]
end Go.Px
end
section
namespace Go.Px
set_option maxRecDepth 100000
def pIs (L : Rows) (v : Int) (i : Nat) : Bool := atI L i 0 == v
def Sq (s n : Int) (i : Nat) : Bool := s == (i : Int) + 1 || n == (i : Int) + 1
def N7 (L : Rows) (s n : Int) (i : Nat) : Bool := iLt 3 (atI L i 0) || (pIs L 1 i && !Sq s n i)
def WQ (L : Rows) (s n : Int) (i : Nat) : Bool := iLt 3 (atI L i 0) || !(pIs L 1 i == Sq s n i)
def XN (L : Rows) : Int := B6 (pIs L 2) L.length
def ins (L : Rows) : Int := B6 (pIs L 1) L.length
def two (s n : Int) : Int := cond (!(n == 0)) (IntKind.i64.wrap (cond (!(s == 0)) (IntKind.i64.wrap (0 + 1)) 0 + 1)) (cond (!(s == 0)) (IntKind.i64.wrap (0 + 1)) 0)
def Ye (L : Rows) (s n wk k : Int) : Bool :=
 !A6 (N7 L s n) L.length 0 && ((btw s 0 k && btw n 0 k) && (!(s == n && !(s == 0)) && ((two s n == ins L && (!EE L || iLt 0 (two s n))) && XN L == wk)))
def WP (L : Rows) (s n wk : Int) : Bool :=
 !A6 (WQ L s n) L.length 0 && (!((EE L && iLt (ins L) 1) || (!(s == 0) && s == n)) && wk == XN L)
def cD (L : Rows) : Nat → Bool
 | 0 => false
 | i + 1 => cD L i || !(atI L i 0 == 0)
theorem bD (L : Rows) : ∀ i, cD L i = A6 (fun j => !(atI L j 0 == 0)) i 0
 | 0 => rfl
 | i + 1 => by rw [Su, Nat.zero_add, ← bD L i]; rfl
section
variable (N : Nat) (L14 L16 L17 L19 L24 : Rows) (b18 b20 : Bool) (x0 x1 x2 x3 x4 x5 x6 x7 x8 x9 x10 x11 x12 x13 x15 x21 x22 x23 x25 x26 x27 : Int)
theorem S0 (k : Int) (hN : L14.length < N) (hl : L14.length ≤ 2097152) : DV N (lsI L14 L16 L17 L19 L24 b18 b20 x0 x1 x2 x3 x4 x5 x6 x7 x8 x9 x10 x11 x12 x13 x15 x21 x22 x23 x25 x26 x27 ++ [.int k]) = some [.bool (Ye L14 x12 x13 x4 k)] := by
  simp only [lsI, List.cons_append, List.nil_append]
  show FQ (std (G6 N) N) (xOf _) = _
  have e : ∀ ls, G6 N 53 [] ls = AY N ls := fun ls => rfl
  simp only [FQ, std, xOf, lsI, PXb, PXc, PXn, AE]
  refine Ac (ZM (len := L14.length) (fun i => [.int (B6 (pIs L14 2) i), .int (B6 (pIs L14 1) i), .bool (cD L14 i), .int (i : Int)])
    (N7 L14 x12 x13) [.int 0, .bool false] [.int 1, .int (XN L14), .int (ins L14), .bool (EE L14)] ?_ ?_ N hN) ?_
  · intro self
    simp only [PXb, PXc, PXn, AE, BX, bD]
    rfl
  · intro i self hi
    simp only [PXb, PXc, AE, Am (show i ≤ 1099511627776 by omega), BC hi, Aj hi, CU, Z9 (pIs L14 2) (show i ≤ 1099511627776 by omega), Z9 (pIs L14 1) (show i ≤ 1099511627776 by omega)]
    unfold N7 pIs Sq
    simp only [B6, cD]
    cases h3 : iLt 3 (atI L14 i 0) with
    | true => rfl
    | false =>
      cases h1 : atI L14 i 0 == 1 with
      | true =>
        rw [fY h1]
        cases x12 == (i : Int) + 1 <;> cases x13 == (i : Int) + 1 <;> rfl
      | false => cases h2 : atI L14 i 0 == 2 <;> rfl
  · unfold Ye
    simp only [e, C7]
    cases A6 (N7 L14 x12 x13) L14.length 0 with
    | true => rfl
    | false =>
      simp only [PXb, PXc, PXn, AE]
      unfold two
      cases btw x12 0 k <;> cases btw x13 0 k <;> try rfl
      cases x12 == 0 <;> cases x13 == 0 <;> cases x12 == x13 <;> try rfl
end
end Go.Px
end
section
namespace Go.Px
set_option maxRecDepth 100000
theorem fm (s n : Int) : two s n = cond (!(s == 0)) 1 0 + cond (!(n == 0)) 1 0 := by
 unfold two
 cases s == 0 <;> cases n == 0 <;> rfl
theorem fE {s n : Int} {len : Nat} (h1 : 0 ≤ s ∧ s ≤ (len : Int)) (h2 : 0 ≤ n ∧ n ≤ (len : Int)) (hd : (s == n && !(s == 0)) = false) : two s n = B6 (Sq s n) len := by
 have hs : iLe s (len : Int) = true := by simp only [iLe, decide_eq_true_eq]; omega
 have hn : iLe n (len : Int) = true := by simp only [iLe, decide_eq_true_eq]; omega
 unfold Sq
 rw [cl (p := fun i => s == (i : Int) + 1) (q := fun i => n == (i : Int) + 1) len (fun j _ hp => by
  have e1 : s = (j : Int) + 1 := by simpa using hp
  show (n == (j : Int) + 1) = false
  rw [beq_eq_false_iff_ne]
  intro e2
  have e3 : (s == n) = true := by rw [beq_iff_eq]; omega
  have e4 : (s == 0) = false := by rw [beq_eq_false_iff_ne]; omega
  rw [e3, e4] at hd; cases hd), ZL s len h1.1, ZL n len h2.1, hs, hn, Bool.and_true, Bool.and_true, fm]
theorem fp (x : Int) : iLt 0 x = !iLt x 1 := by
 unfold iLt
 rw [Bool.eq_iff_iff]
 simp only [decide_eq_true_eq, Bool.not_eq_true', decide_eq_false_iff_not]
 omega
theorem dn {L : Rows} {s n : Int} (h1 : 0 ≤ s ∧ s ≤ (L.length : Int)) (h2 : 0 ≤ n ∧ n ≤ (L.length : Int)) (hd : (s == n && !(s == 0)) = false) :
    (!A6 (N7 L s n) L.length 0 && two s n == ins L) = !A6 (WQ L s n) L.length 0 := by
  have h2c := fE h1 h2 hd
  rw [Bool.eq_iff_iff]
  simp only [Bool.and_eq_true, Bool.not_eq_true', Ef, beq_iff_eq]
  constructor
  · intro ⟨ha, hb⟩ j _ hj
    have hm : ∀ j, j < L.length → pIs L 1 j = true → Sq s n j = true := fun j hj hp => by
      have := ha j (Nat.zero_le _) (by omega)
      unfold N7 at this
      rw [hp] at this
      simp only [Bool.or_eq_false_iff, Bool.true_and, Bool.not_eq_false'] at this
      exact this.2
    have he := dg L.length hm (by rw [← h2c, hb]; rfl) j (by omega)
    have := ha j (Nat.zero_le _) hj
    unfold N7 at this
    unfold WQ
    rw [Bool.or_eq_false_iff] at this ⊢
    exact ⟨this.1, by rw [he]; simp⟩
  · intro ha
    have hm : ∀ j, j < L.length → pIs L 1 j = Sq s n j := fun j hj => by
      have := ha j (Nat.zero_le _) (by omega)
      unfold WQ at this
      rw [Bool.or_eq_false_iff] at this
      simpa using this.2
    refine ⟨fun j h0 hj => ?_, ?_⟩
    · have := ha j h0 hj
      unfold WQ at this
      unfold N7
      rw [Bool.or_eq_false_iff] at this ⊢
      refine ⟨this.1, ?_⟩
      rw [hm j (by omega)]
      cases Sq s n j <;> rfl
    · rw [h2c]
      exact (YA L.length hm).symm
theorem gY (L : Rows) (s n wk k : Int) (hk : (L.length : Int) = k) : Ye L s n wk k = (btw s 0 k && btw n 0 k && WP L s n wk) := by
 subst hk
 unfold Ye WP
 cases hs : btw s 0 (L.length : Int) with
 | false => simp only [Bool.false_and, Bool.and_false]
 | true =>
  cases hn : btw n 0 (L.length : Int) with
  | false => simp only [Bool.false_and, Bool.and_false]
  | true =>
   have h1 : 0 ≤ s ∧ s ≤ (L.length : Int) := by simpa [btw, iLe] using hs
   have h2 : 0 ≤ n ∧ n ≤ (L.length : Int) := by simpa [btw, iLe] using hn
   simp only [Bool.true_and]
   cases hd : (s == n && !(s == 0)) with
   | true =>
    have : (!(s == 0) && s == n) = true := by rw [Bool.and_comm]; exact hd
    rw [this]
    simp only [Bool.or_true, Bool.not_true, Bool.false_and, Bool.and_false]
   | false =>
    have : (!(s == 0) && s == n) = false := by rw [Bool.and_comm]; exact hd
    rw [this, ← dn h1 h2 hd]
    simp only [Bool.or_false, Bool.not_false, Bool.true_and]
    rw [show (wk == XN L) = (XN L == wk) from BEq.comm]
    cases hA : A6 (N7 L s n) L.length 0 with
    | true => rfl
    | false =>
     cases hB : two s n == ins L with
     | false => rfl
     | true =>
      rw [beq_iff_eq.1 hB, fp]
      simp only [Bool.true_and, Bool.not_false, Bool.not_and]
end Go.Px
end
section
namespace Go.Px
set_option maxRecDepth 100000
def Hs (v : Int) : Bool := !btw v 0 1000000000
def aD (x1 x3 x5 x6 x7 x8 x9 x10 x21 x23 x25 x26 : Int) : Rows := [[.int x1], [.int x3], [.int x5], [.int x6], [.int x7], [.int x8], [.int x9], [.int x10], [.int x21], [.int x23], [.int x25], [.int x26]]
section
variable (N : Nat) (L14 L16 L17 L19 L24 : Rows) (b18 b20 : Bool) (x0 x1 x2 x3 x4 x5 x6 x7 x8 x9 x10 x11 x12 x13 x15 x21 x22 x23 x25 x26 x27 : Int)
theorem Th (hN : 2097152 < N) (hl : L19.length ≤ 1048576) : Dc N (lsI L14 L16 L17 L19 L24 b18 b20 x0 x1 x2 x3 x4 x5 x6 x7 x8 x9 x10 x11 x12 x13 x15 x21 x22 x23 x25 x26 x27) = some [.bool (!(Ib Hs (aD x1 x3 x5 x6 x7 x8 x9 x10 x21 x23 x25 x26) || Ib Hs L19))] := by
 show FN (std (Gz N) N) (xOf (lsI ..)) = _
 have e : ∀ ls, Gz N 100 [] ls = Ch N ls := fun ls => rfl
 rw [← Zh]
 simp only [FN, std, xOf, lsI, PXb, PXc, PXn, AE, aD]
 generalize hM : ([PV.int x1] :: [PV.int x3] :: [PV.int x5] :: [PV.int x6] :: [PV.int x7] :: [PV.int x8] :: [PV.int x9] :: [PV.int x10] :: [PV.int x21] :: [PV.int x23] :: [PV.int x25] :: [PV.int x26] :: L19 : Rows) = M
 have hM2 : M.length ≤ 2097152 := by rw [← hM]; simp only [List.length_cons]; omega
 rw [KJ (n := M.length) (by omega) (by omega)]
 simp only [PXb, PXc, PXn, AE]
 rw [Option.bind_assoc]
 refine Ac (Cb (len := M.length) (FI fun i => Hs (atI M i 0)) ?_ ?_ M.length 0 N (by omega) (by omega)) ?_
 ·intro self
  simp only [PXb, PXc, PXn, AE, BX]
 ·intro i self hi
  simp only [PXb, PXc, PXn, AE, Am (show i ≤ 1099511627776 by omega), BC hi, Aj hi, FI, CU, e, Rd, Hs]
  cases btw (atI M i 0) 0 1000000000 <;> rfl
 ·unfold Ib
  rw [← IB]
  unfold M3
  cases Bo (FI fun i => Hs (atI M i 0)) M.length 0 <;> rfl
end
def XB (a3 x2 : Int) : Bool := cond (a3 == 0) (x2 == 0) (btw x2 1 a3)
def Qn (s : ByteArray) (a1 a2 a3 a4 a5 a6 a7 a9 a10 a11 a12 : Int) (La L14 L16 L17 L19 L24 : Rows) (x0 x1 x2 x3 x4 x5 x6 x7 x8 x9 x10 x11 x12 x13 x15 x21 x22 x23 x25 x26 x27 : Int) : Bool :=
  Jx s a1 a2 a3 a4 a5 a6 a7 a9 a10 a11 a12 La == 0 && (btw x0 1 2 && ((L14.length : Int) == a1 && ((L19.length : Int) == a1 && ((L24.length : Int) == a1 && (!iLt 5 x27 &&
    (btw x12 0 a1 && (btw x13 0 a1 && (WP L14 x12 x13 x4 && (btw x15 0 a1 && (btw x22 0 a1 && (Im L16 a1 && (Im L17 a1 && (XB a3 x2 && (btw x11 0 (IntKind.i64.wrap (a4 - 1)) &&
      (!Ib Hs (aD x1 x3 x5 x6 x7 x8 x9 x10 x21 x23 x25 x26) && !Ib Hs L19)))))))))))))))
theorem fk {a : Int} (h : 0 ≤ a) : iLt 0 a = !(a == 0) := by
 unfold iLt
 rw [Bool.eq_iff_iff]
 simp only [decide_eq_true_eq, Bool.not_eq_true', beq_eq_false_iff_ne]
 omega
section
variable (N : Nat) (s : ByteArray) (a1 a2 a3 a4 a5 a6 a7 a9 a10 a11 a12 : Int) (a8 : Bool) (La : Rows) (L14 L16 L17 L19 L24 : Rows) (b18 b20 : Bool) (x0 x1 x2 x3 x4 x5 x6 x7 x8 x9 x10 x11 x12 x13 x15 x21 x22 x23 x25 x26 x27 : Int)
theorem OS (hN : 2097152 < N) (hs : s.size ≤ 1048576) (h14 : L14.length ≤ 1048576) (h16 : L16.length ≤ 1048576) (h17 : L17.length ≤ 1048576) (h19 : L19.length ≤ 1048576) : A0 N ([.str s, .int a1, .int a2, .int a3, .int a4, .int a5, .int a6, .int a7, .bool a8, .int a9, .int a10, .int a11, .int a12, .rows La] ++ lsI L14 L16 L17 L19 L24 b18 b20 x0 x1 x2 x3 x4 x5 x6 x7 x8 x9 x10 x11 x12 x13 x15 x21 x22 x23 x25 x26 x27) = some [.bool (Qn s a1 a2 a3 a4 a5 a6 a7 a9 a10 a11 a12 La L14 L16 L17 L19 L24 x0 x1 x2 x3 x4 x5 x6 x7 x8 x9 x10 x11 x12 x13 x15 x21 x22 x23 x25 x26 x27)] := by
 simp only [lsI, List.cons_append, List.nil_append]
 show HL (std (Bx N) N) (xOf _) = _
 have e1 : ∀ ls, Bx N 52 [] ls = AK N ls := fun ls => rfl
 have e2 : ∀ ls, Bx N 53 [] ls = AY N ls := fun ls => rfl
 have e3 : ∀ ls, Bx N 54 [] ls = DV N ls := fun ls => rfl
 have e4 : ∀ ls, Bx N 55 [] ls = Ck N ls := fun ls => rfl
 have e5 : ∀ ls, Bx N 56 [] ls = Dc N ls := fun ls => rfl
 have l54 := S0 N L14 L16 L17 L19 L24 b18 b20 x0 x1 x2 x3 x4 x5 x6 x7 x8 x9 x10 x11 x12 x13 x15 x21 x22 x23 x25 x26 x27 a1 (by omega) (by omega)
 have l56 := Th N L14 L16 L17 L19 L24 b18 b20 x0 x1 x2 x3 x4 x5 x6 x7 x8 x9 x10 x11 x12 x13 x15 x21 x22 x23 x25 x26 x27 (by omega) (by omega)
 simp only [lsI, List.cons_append, List.nil_append] at l54 l56
 simp only [HL, std, xOf, PXb, PXc, PXn, AE, e1, e2, e3, e4, e5, Q3 N s _ _ _ _ _ _ _ _ _ _ _ _ _ hN hs, C7, l54, l56, KO N L16 _ (by omega) (by omega), KO N L17 _ (by omega) (by omega)]
 unfold Qn XB
 cases hc : Jx s a1 a2 a3 a4 a5 a6 a7 a9 a10 a11 a12 La == 0 <;> try rfl
 cases btw x0 1 2 <;> try rfl
 cases h14 : (L14.length : Int) == a1 <;> try rfl
 cases (L19.length : Int) == a1 <;> try rfl
 cases (L24.length : Int) == a1 <;> try rfl
 cases iLt 5 x27 <;> try rfl
 rw [gY L14 x12 x13 x4 a1 (beq_iff_eq.1 h14)]
 cases btw x12 0 a1 <;> try rfl
 cases btw x13 0 a1 <;> try rfl
 cases WP L14 x12 x13 x4 <;> try rfl
 cases btw x15 0 a1 <;> try rfl
 cases btw x22 0 a1 <;> try rfl
 cases Im L16 a1 <;> try rfl
 cases Im L17 a1 <;> try rfl
 cases a3 == 0 <;> cases x2 == 0 <;> cases btw x2 1 a3 <;> rfl
end
end Go.Px
end
section
namespace Go.Px
set_option maxRecDepth 100000
def eD (v : Bool) (L : Rows) (s n : Int) (x1 x2 x3 x10 : Int) : Int :=
 cond (!v) 0 (cond (iLt 0 x1 && iLe x1 x3) 3 (cond (Ks L s n && ((EJ L L.length).length : Int) == 0) 1 (cond (iLt 0 x2 && iLe x2 x10) 2 0)))
theorem cK {c : Int} {n : Nat} (hc : 0 ≤ c) : iRg 0 (cond (iLt c (n : Int)) c (n : Int)) (n : Int) = true := by
 cases h : iLt c (n : Int) with
 | true => simp only [iLt, decide_eq_true_eq] at h; simp only [cond_true, iRg, decide_eq_true_eq]; omega
 | false => simp only [cond_false, iRg, decide_eq_true_eq]; omega
def cut (L : Rows) (c : Int) : Rows := (L.take (cond (iLt c (L.length : Int)) c (L.length : Int)).toNat).drop (0 : Int).toNat
def dk (s : ByteArray) (c : Int) : ByteArray := s.extract (0 : Int).toNat (cond (iLt c (s.size : Int)) c (s.size : Int)).toNat
theorem eK (s : ByteArray) (c : Int) : (dk s c).size ≤ s.size := by
 unfold dk
 rw [ByteArray.size_extract]
 omega
end Go.Px
end
section
namespace Go.Px
set_option maxRecDepth 100000
section
variable (N : Nat) (s : ByteArray) (a1 a2 a3 a4 a5 a6 a7 a9 a10 a11 a12 : Int) (a8 : Bool) (La : Rows) (L14 L16 L17 L19 L24 : Rows) (b18 b20 : Bool) (x0 x1 x2 x3 x4 x5 x6 x7 x8 x9 x10 x11 x12 x13 x15 x21 x22 x23 x25 x26 x27 : Int)
theorem UQ (hN : 2097152 < N) (hs : s.size ≤ 1048576) (h14 : L14.length ≤ 1048576) (h16 : L16.length ≤ 1048576) (h17 : L17.length ≤ 1048576) (h19 : L19.length ≤ 1048576) : Cp N ([.str s, .int a1, .int a2, .int a3, .int a4, .int a5, .int a6, .int a7, .bool a8, .int a9, .int a10, .int a11, .int a12, .rows La] ++ lsI L14 L16 L17 L19 L24 b18 b20 x0 x1 x2 x3 x4 x5 x6 x7 x8 x9 x10 x11 x12 x13 x15 x21 x22 x23 x25 x26 x27) =
    some [.int (eD (Qn s a1 a2 a3 a4 a5 a6 a7 a9 a10 a11 a12 La L14 L16 L17 L19 L24 x0 x1 x2 x3 x4 x5 x6 x7 x8 x9 x10 x11 x12 x13 x15 x21 x22 x23 x25 x26 x27) L14 x12 x13 x1 x2 x3 x10)] := by
  simp only [lsI, List.cons_append, List.nil_append]
  show F8 (std (C5 N) N) (xOf _) = _
  have e1 : ∀ ls, C5 N 16 [] ls = A0 N ls := fun ls => rfl
  have e2 : ∀ ls, C5 N 61 [] ls = A2 N ls := fun ls => rfl
  have e3 : ∀ ls, C5 N 62 [] ls = CD N ls := fun ls => rfl
  have l16 := OS N s a1 a2 a3 a4 a5 a6 a7 a9 a10 a11 a12 a8 La L14 L16 L17 L19 L24 b18 b20 x0 x1 x2 x3 x4 x5 x6 x7 x8 x9 x10 x11 x12 x13 x15 x21 x22 x23 x25 x26 x27 hN hs h14 h16 h17 h19
  have l61 := U9 N L14 L16 L17 L19 L24 b18 b20 x0 x1 x2 x3 x4 x5 x6 x7 x8 x9 x10 x11 x12 x13 x15 x21 x22 x23 x25 x26 x27 (by omega) (by omega)
  have l62 := W2 N L14 L16 L17 L19 L24 b18 b20 x0 x1 x2 x3 x4 x5 x6 x7 x8 x9 x10 x11 x12 x13 x15 x21 x22 x23 x25 x26 x27 (by omega) (by omega)
  simp only [lsI, List.cons_append, List.nil_append] at l16 l61 l62
  simp only [F8, std, xOf, PXb, PXc, PXn, AE, e1, e2, e3, l16, l61, l62, eD]
  cases Qn s a1 a2 a3 a4 a5 a6 a7 a9 a10 a11 a12 La L14 L16 L17 L19 L24 x0 x1 x2 x3 x4 x5 x6 x7 x8 x9 x10 x11 x12 x13 x15 x21 x22 x23 x25 x26 x27 <;> try rfl
  cases (iLt 0 x1 && iLe x1 x3) <;> try rfl
  cases Ks L14 x12 x13
  · cases (iLt 0 x2 && iLe x2 x10) <;> rfl
  · simp only [PXb, PXc, PXn, AE]
    cases ((EJ L14 L14.length).length : Int) == 0 <;> cases (iLt 0 x2 && iLe x2 x10) <;> rfl
end
end Go.Px
end
section
namespace Go.Px
set_option maxRecDepth 100000
section
variable (N : Nat) (s : ByteArray) (a1 a2 a3 a4 a5 a6 a7 a9 a10 a11 a12 : Int) (a8 : Bool) (La : Rows) (L14 L16 L17 L19 L24 : Rows) (b18 b20 : Bool) (x0 x1 x2 x3 x4 x5 x6 x7 x8 x9 x10 x11 x12 x13 x15 x21 x22 x23 x25 x26 x27 : Int)
def ZD (a4 x10 x11 : Int) : Int := IntKind.i64.wrap (IntKind.i64.wrap (x10 * a4) + x11)
end
end Go.Px
end
section
namespace Go.Px
set_option maxRecDepth 100000
def Au (r : Rul) : Int := Jx r.name r.side r.innings r.overs r.balls r.quota r.wide r.noball r.newball r.followon r.reviews r.outside r.power
theorem CC {N : Nat} {r1 r2 r3 r4 r5 r6 r7 r9 r10 r11 r12 : Int} {r8 : Bool} {r0 : ByteArray} {r13 : Rows} (hN : 2097152 < N) (hs : r0.size ≤ 1048576) : AK N [.str r0, .int r1, .int r2, .int r3, .int r4, .int r5, .int r6, .int r7, .bool r8, .int r9, .int r10, .int r11, .int r12, .rows r13] = some [.int (Au (⟨r0, r1, r2, r3, r4, r5, r6, r7, r8, r9, r10, r11, r12, r13⟩ : Rul))] := by
 exact Q3 N _ _ _ _ _ _ _ _ _ _ _ _ _ _ hN hs
theorem QM {N : Nat} {s0 s1 s2 s3 s4 s5 s6 s7 s8 s9 s10 s11 s12 s13 s15 s21 s22 s23 s25 s26 s27 : Int} {s18 s20 : Bool} {s14 s16 s17 s19 s24 : Rows} (h : Fit s14 s16 s17 s19 s24) : B9 N [.int s0, .int s1, .int s2, .int s3, .int s4, .int s5, .int s6, .int s7, .int s8, .int s9, .int s10, .int s11, .int s12, .int s13, .rows s14, .int s15, .rows s16, .rows s17, .bool s18, .rows s19, .bool s20, .int s21, .int s22, .int s23, .rows s24, .int s25, .int s26, .int s27] = some [.int s0, .int s1, .int s2, .int s3, .int s4, .int s5, .int s6, .int s7, .int s8, .int s9, .int s10, .int s11, .int s12, .int s13, .rows s14, .int s15, .rows s16, .rows s17, .bool s18, .rows s19, .bool s20, .int s21, .int s22, .int s23, .rows s24, .int s25, .int s26, .int s27] := by
 show ME (std (Gq N) N) (xOf _) = _
 simp only [ME, J4, LW, LC, std, xOf, PXb, PXc, PXn, PXm, Nat.reduceAdd, Int.reduceBEq, AM, AW, AQ, BF h.bt (show 1 ≤ 4096 by omega), BF h.bw' (show 8 ≤ 4096 by omega), BF h.bf (show 8 ≤ 4096 by omega), BF h.bd (show 8 ≤ 4096 by omega), BF h.sb (show 1 ≤ 4096 by omega)]
theorem P9 {N : Nat} {s0 s1 s2 s3 s4 s5 s6 s7 s8 s9 s10 s11 s12 s13 s15 s21 s22 s23 s25 s26 s27 : Int} {s18 s20 : Bool} {s14 s16 s17 s19 s24 : Rows} (h : Fit s14 s16 s17 s19 s24) : B7 N [.int s0, .int s1, .int s2, .int s3, .int s4, .int s5, .int s6, .int s7, .int s8, .int s9, .int s10, .int s11, .int s12, .int s13, .rows s14, .int s15, .rows s16, .rows s17, .bool s18, .rows s19, .bool s20, .int s21, .int s22, .int s23, .rows s24, .int s25, .int s26, .int s27] = some [.int s0, .int s1, .int s2, .int s3, .int s4, .int s5, .int s6, .int s7, .int s8, .int s9, .int s10, .int s11, .int s12, .int s13, .rows s14, .int s15, .rows s16, .rows s17, .bool s18, .rows s19, .bool s20, .int s21, .int s22, .int s23, .rows s24, .int s25, .int s26, .int s27] := by
 show MB (std (GU N) N) (xOf _) = _
 simp only [MB, KE, Ly, LJ, std, xOf, PXb, PXc, PXn, PXm, Nat.reduceAdd, Int.reduceBEq, AM, AW, AQ, BF h.bt (show 1 ≤ 4096 by omega), BF h.bw' (show 8 ≤ 4096 by omega), BF h.bf (show 8 ≤ 4096 by omega), BF h.bd (show 8 ≤ 4096 by omega), BF h.sb (show 1 ≤ 4096 by omega)]
theorem Bl {N : Nat} {s0 s1 s2 s3 s4 s5 s6 s7 s8 s9 s10 s11 s12 s13 s15 s21 s22 s23 s25 s26 s27 : Int} {s18 s20 : Bool} {s14 s16 s17 s19 s24 : Rows} (h : Fit s14 s16 s17 s19 s24) : AL N [.int s0, .int s1, .int s2, .int s3, .int s4, .int s5, .int s6, .int s7, .int s8, .int s9, .int s10, .int s11, .int s12, .int s13, .rows s14, .int s15, .rows s16, .rows s17, .bool s18, .rows s19, .bool s20, .int s21, .int s22, .int s23, .rows s24, .int s25, .int s26, .int s27] = some [.int s0, .int s1, .int s2, .int s3, .int s4, .int s5, .int s6, .int s7, .int s8, .int s9, .int s10, .int s11, .int s12, .int s13, .rows s14, .int s15, .rows s16, .rows s17, .bool s18, .rows s19, .bool s20, .int s21, .int s22, .int s23, .rows s24, .int s25, .int s26, .int s27] := by
 show HN (std (DY N) N) (xOf _) = _
 simp only [HN, H1, JZ, JA, std, xOf, PXb, PXc, PXn, PXm, Nat.reduceAdd, Int.reduceBEq, AM, AW, AQ, BF h.bt (show 1 ≤ 4096 by omega), BF h.bw' (show 8 ≤ 4096 by omega), BF h.bf (show 8 ≤ 4096 by omega), BF h.bd (show 8 ≤ 4096 by omega), BF h.sb (show 1 ≤ 4096 by omega)]
theorem M0 {N : Nat} {s0 s1 s2 s3 s4 s5 s6 s7 s8 s9 s10 s11 s12 s13 s15 s21 s22 s23 s25 s26 s27 : Int} {s18 s20 : Bool} {s14 s16 s17 s19 s24 : Rows} {p : Int}  : BT N [.int s0, .int s1, .int s2, .int s3, .int s4, .int s5, .int s6, .int s7, .int s8, .int s9, .int s10, .int s11, .int s12, .int s13, .rows s14, .int s15, .rows s16, .rows s17, .bool s18, .rows s19, .bool s20, .int s21, .int s22, .int s23, .rows s24, .int s25, .int s26, .int s27, .int p] = some [.bool (inR p s19.length)] := by
 show JS (std (P5 N) N) (xOf _) = _
 simp only [JS, std, xOf, PXb, PXc, PXn, PXm, Nat.reduceAdd, Int.reduceBEq]
 rfl
theorem Ge {N : Nat} {s0 s1 s2 s3 s4 s5 s6 s7 s8 s9 s10 s11 s12 s13 s15 s21 s22 s23 s25 s26 s27 : Int} {s18 s20 : Bool} {s14 s16 s17 s19 s24 : Rows} {p : Int}  : Ao N [.int s0, .int s1, .int s2, .int s3, .int s4, .int s5, .int s6, .int s7, .int s8, .int s9, .int s10, .int s11, .int s12, .int s13, .rows s14, .int s15, .rows s16, .rows s17, .bool s18, .rows s19, .bool s20, .int s21, .int s22, .int s23, .rows s24, .int s25, .int s26, .int s27, .int p] = some [.bool (inR p s24.length)] := by
 show JX (std (PZ N) N) (xOf _) = _
 simp only [JX, std, xOf, PXb, PXc, PXn, PXm, Nat.reduceAdd, Int.reduceBEq]
 rfl
def atB (L : Rows) (i j : Nat) : Bool := pvB (AJ L i j)
theorem ay (L : Rows) (i j : Nat) : pvB (AJ L i j) = atB L i j := rfl
def GH (s : Inn) (p : Int) : Bool := inR p s.subs.length && atB s.subs (ix p) 0
theorem GF {N : Nat} {s0 s1 s2 s3 s4 s5 s6 s7 s8 s9 s10 s11 s12 s13 s15 s21 s22 s23 s25 s26 s27 : Int} {s18 s20 : Bool} {s14 s16 s17 s19 s24 : Rows} {p : Int} (h : s24.length ≤ 1048576) : Al N [.int s0, .int s1, .int s2, .int s3, .int s4, .int s5, .int s6, .int s7, .int s8, .int s9, .int s10, .int s11, .int s12, .int s13, .rows s14, .int s15, .rows s16, .rows s17, .bool s18, .rows s19, .bool s20, .int s21, .int s22, .int s23, .rows s24, .int s25, .int s26, .int s27, .int p] = some [.bool (GH (⟨s0, s1, s2, s3, s4, s5, s6, s7, s8, s9, s10, s11, s12, s13, s14, s15, s16, s17, s18, s19, s20, s21, s22, s23, s24, s25, s26, s27⟩ : Inn) p)] := by
 show GP (std (Ho N) N) (xOf _) = _
 generalize hres : (some [.bool (GH (⟨s0, s1, s2, s3, s4, s5, s6, s7, s8, s9, s10, s11, s12, s13, s14, s15, s16, s17, s18, s19, s20, s21, s22, s23, s24, s25, s26, s27⟩ : Inn) p)] : Option (List PV)) = RR
 simp only [GP, Le, std, xOf, PXb, PXc, PXn, PXm, Nat.reduceAdd, Int.reduceBEq, Ge, gM h]
 subst hres; simp only [GH]
 cases hp : inR p s24.length with
 | false => rfl
 | true => first | rfl | (rw [JK hp h]; rfl)
def cQ (x : Int) : Int := cond (iLt x 0) 0 x
def Vk (r : Rul) (s : Inn) (p : Int) : Int :=
 cond (!inR p s.bowled.length || !(Au r == 0)) 0 (cond (r.quota == 0) (-1) (cQ (IntKind.i64.wrap (IntKind.i64.wrap (r.quota * r.balls) - cQ (atI s.bowled (ix p) 0)))))
theorem Y3 {N : Nat} {r1 r2 r3 r4 r5 r6 r7 r9 r10 r11 r12 : Int} {r8 : Bool} {r0 : ByteArray} {r13 : Rows} {s0 s1 s2 s3 s4 s5 s6 s7 s8 s9 s10 s11 s12 s13 s15 s21 s22 s23 s25 s26 s27 : Int} {s18 s20 : Bool} {s14 s16 s17 s19 s24 : Rows} {p : Int} (h : Fit s14 s16 s17 s19 s24) (hN : 2097152 < N) (hs : r0.size ≤ 1048576) : HU N [.str r0, .int r1, .int r2, .int r3, .int r4, .int r5, .int r6, .int r7, .bool r8, .int r9, .int r10, .int r11, .int r12, .rows r13, .int s0, .int s1, .int s2, .int s3, .int s4, .int s5, .int s6, .int s7, .int s8, .int s9, .int s10, .int s11, .int s12, .int s13, .rows s14, .int s15, .rows s16, .rows s17, .bool s18, .rows s19, .bool s20, .int s21, .int s22, .int s23, .rows s24, .int s25, .int s26, .int s27, .int p] = some [.int (Vk (⟨r0, r1, r2, r3, r4, r5, r6, r7, r8, r9, r10, r11, r12, r13⟩ : Rul) (⟨s0, s1, s2, s3, s4, s5, s6, s7, s8, s9, s10, s11, s12, s13, s14, s15, s16, s17, s18, s19, s20, s21, s22, s23, s24, s25, s26, s27⟩ : Inn) p)] := by
 show KQ (std (ID N) N) (xOf _) = _
 generalize hres : (some [.int (Vk (⟨r0, r1, r2, r3, r4, r5, r6, r7, r8, r9, r10, r11, r12, r13⟩ : Rul) (⟨s0, s1, s2, s3, s4, s5, s6, s7, s8, s9, s10, s11, s12, s13, s14, s15, s16, s17, s18, s19, s20, s21, s22, s23, s24, s25, s26, s27⟩ : Inn) p)] : Option (List PV)) = RR
 simp only [KQ, OU, Ol, std, xOf, PXb, PXc, PXn, PXm, Nat.reduceAdd, Int.reduceBEq, CC hN hs, M0]
 subst hres; simp only [Vk]
 cases hp : inR p s19.length with
 | false => rfl
 | true => rw [JK hp h.bd]; cases Au (⟨r0, r1, r2, r3, r4, r5, r6, r7, r8, r9, r10, r11, r12, r13⟩ : Rul) == 0 <;> cases r5 == 0 <;> rfl
theorem J2 {N : Nat} {L : Rows} {v : Int} (hN : 2097152 < N) (hl : L.length ≤ 1048576) : Ad N [.rows L, .int v] = some [.bool (Id L L.length v)] := by
 exact It N L v (by omega) (by omega)
def OH (r : Rul) (s : Inn) (p : Int) : Int :=
  cond (!inR p s.bowled.length || !(Au r == 0)) 3 (cond (p == s.keeper || p == s.bowler || GH s p) 7
    (cond (Id s.before s.before.length p) 8 (cond (!(Vk r s p == -1) && iLt s.inover (IntKind.i64.wrap (r.balls - Vk r s p))) 9 0)))
theorem dS {p : Int} {n m : Nat} (h : inR p n = true) : inR p m = iLe p (m : Int) := by
 unfold inR at h ⊢
 rw [Bool.and_eq_true] at h
 rw [h.1, Bool.true_and]
theorem aO {N : Nat} {r1 r2 r3 r4 r5 r6 r7 r9 r10 r11 r12 : Int} {r8 : Bool} {r0 : ByteArray} {r13 : Rows} {s0 s1 s2 s3 s4 s5 s6 s7 s8 s9 s10 s11 s12 s13 s15 s21 s22 s23 s25 s26 s27 : Int} {s18 s20 : Bool} {s14 s16 s17 s19 s24 : Rows} {p : Int} (h : Fit s14 s16 s17 s19 s24) (hN : 2097152 < N) (hs : r0.size ≤ 1048576) : Iv N [.str r0, .int r1, .int r2, .int r3, .int r4, .int r5, .int r6, .int r7, .bool r8, .int r9, .int r10, .int r11, .int r12, .rows r13, .int s0, .int s1, .int s2, .int s3, .int s4, .int s5, .int s6, .int s7, .int s8, .int s9, .int s10, .int s11, .int s12, .int s13, .rows s14, .int s15, .rows s16, .rows s17, .bool s18, .rows s19, .bool s20, .int s21, .int s22, .int s23, .rows s24, .int s25, .int s26, .int s27, .int p] = some [.int (OH (⟨r0, r1, r2, r3, r4, r5, r6, r7, r8, r9, r10, r11, r12, r13⟩ : Rul) (⟨s0, s1, s2, s3, s4, s5, s6, s7, s8, s9, s10, s11, s12, s13, s14, s15, s16, s17, s18, s19, s20, s21, s22, s23, s24, s25, s26, s27⟩ : Inn) p)] := by
 show MH (std (EZ N) N) (xOf _) = _
 generalize hres : (some [.int (OH (⟨r0, r1, r2, r3, r4, r5, r6, r7, r8, r9, r10, r11, r12, r13⟩ : Rul) (⟨s0, s1, s2, s3, s4, s5, s6, s7, s8, s9, s10, s11, s12, s13, s14, s15, s16, s17, s18, s19, s20, s21, s22, s23, s24, s25, s26, s27⟩ : Inn) p)] : Option (List PV)) = RR
 simp only [MH, PI, J5, PH, QH, std, xOf, PXb, PXc, PXn, PXm, Nat.reduceAdd, Int.reduceBEq, CC hN hs, M0, Y3 h hN hs, J2 hN h.bf]
 subst hres; simp only [OH, GH]
 cases hp : inR p s19.length with
 | false => rfl
 | true =>
  rw [dS (m := s24.length) hp]
  have hq : (!(iLe p (s24.length : Int)) || iIn (IntKind.i64.wrap (p - 1)) (s24.length : Int)) = true := by
   cases h1 : iLe p (s24.length : Int) with
   | false => rfl
   | true => rw [JK (by rw [dS hp]; exact h1) h.sb]; rfl
  rw [hq]
  cases Au (⟨r0, r1, r2, r3, r4, r5, r6, r7, r8, r9, r10, r11, r12, r13⟩ : Rul) == 0 <;> rfl
def Tq (r : Rul) (s : Inn) (p : Int) : Inn × Int := (cond (OH r s p == 0) { s with bowler := p } s, OH r s p)
theorem Zp {N : Nat} {r1 r2 r3 r4 r5 r6 r7 r9 r10 r11 r12 : Int} {r8 : Bool} {r0 : ByteArray} {r13 : Rows} {s0 s1 s2 s3 s4 s5 s6 s7 s8 s9 s10 s11 s12 s13 s15 s21 s22 s23 s25 s26 s27 : Int} {s18 s20 : Bool} {s14 s16 s17 s19 s24 : Rows} {p : Int} (h : Fit s14 s16 s17 s19 s24) (hN : 2097152 < N) (hs : r0.size ≤ 1048576) : Hw N [.str r0, .int r1, .int r2, .int r3, .int r4, .int r5, .int r6, .int r7, .bool r8, .int r9, .int r10, .int r11, .int r12, .rows r13, .int s0, .int s1, .int s2, .int s3, .int s4, .int s5, .int s6, .int s7, .int s8, .int s9, .int s10, .int s11, .int s12, .int s13, .rows s14, .int s15, .rows s16, .rows s17, .bool s18, .rows s19, .bool s20, .int s21, .int s22, .int s23, .rows s24, .int s25, .int s26, .int s27, .int p] = some (A1 (Tq (⟨r0, r1, r2, r3, r4, r5, r6, r7, r8, r9, r10, r11, r12, r13⟩ : Rul) (⟨s0, s1, s2, s3, s4, s5, s6, s7, s8, s9, s10, s11, s12, s13, s14, s15, s16, s17, s18, s19, s20, s21, s22, s23, s24, s25, s26, s27⟩ : Inn) p)) := by
 show Kp (std (IQ N) N) (xOf _) = _
 generalize hres : (some (A1 (Tq (⟨r0, r1, r2, r3, r4, r5, r6, r7, r8, r9, r10, r11, r12, r13⟩ : Rul) (⟨s0, s1, s2, s3, s4, s5, s6, s7, s8, s9, s10, s11, s12, s13, s14, s15, s16, s17, s18, s19, s20, s21, s22, s23, s24, s25, s26, s27⟩ : Inn) p)) : Option (List PV)) = RR
 simp only [Kp, QE, QV, std, xOf, PXb, PXc, PXn, PXm, Nat.reduceAdd, Int.reduceBEq, QM h, aO h hN hs]
 subst hres; simp only [Tq]
 cases OH (⟨r0, r1, r2, r3, r4, r5, r6, r7, r8, r9, r10, r11, r12, r13⟩ : Rul) (⟨s0, s1, s2, s3, s4, s5, s6, s7, s8, s9, s10, s11, s12, s13, s14, s15, s16, s17, s18, s19, s20, s21, s22, s23, s24, s25, s26, s27⟩ : Inn) p == 0 <;> rfl
def dp (x : Inn × Bool) : List PV := [.int x.1.side, .int x.1.target, .int x.1.overs, .int x.1.runs, .int x.1.wickets, .int x.1.wides, .int x.1.noballs, .int x.1.byes, .int x.1.legbyes, .int x.1.pens, .int x.1.complete, .int x.1.inover, .int x.1.striker, .int x.1.other, .rows x.1.batters, .int x.1.bowler, .rows x.1.bowlers, .rows x.1.before, .bool x.1.fresh, .rows x.1.bowled, .bool x.1.freehit, .int x.1.ballage, .int x.1.keeper, .int x.1.outside, .rows x.1.subs, .int x.1.rev1, .int x.1.rev2, .int x.1.ending, .bool x.2]
def inc (x : Int) : Int := IntKind.i64.wrap (x + 1)
def JY (r : Rul) (s : Inn) (counts : Bool) : Inn × Bool :=
  cond (!inR s.bowler s.bowled.length || !(Au r == 0)) (s, false)
    (let L := cond (Id s.bowlers s.bowlers.length s.bowler) s.bowlers (s.bowlers ++ [[.int s.bowler]])
     let o := cond counts (inc s.inover) s.inover
     let t : Inn := { s with bowlers := L, bowled := cond counts (Lc s.bowled s.bowler (inc (atI s.bowled (ix s.bowler) 0))) s.bowled, inover := o, ballage := cond counts (inc s.ballage) s.ballage }
     cond (iLt o r.balls) (t, false) ({ t with complete := inc s.complete, inover := 0, before := L, bowlers := [], bowler := 0 }, true))
theorem Zw {N : Nat} {r1 r2 r3 r4 r5 r6 r7 r9 r10 r11 r12 : Int} {r8 : Bool} {r0 : ByteArray} {r13 : Rows} {s0 s1 s2 s3 s4 s5 s6 s7 s8 s9 s10 s11 s12 s13 s15 s21 s22 s23 s25 s26 s27 : Int} {s18 s20 : Bool} {s14 s16 s17 s19 s24 : Rows} {b : Bool} (h : Fit s14 s16 s17 s19 s24) (hw : s16.length ≤ 1048575) (hN : 2097152 < N) (hs : r0.size ≤ 1048576) : He N [.str r0, .int r1, .int r2, .int r3, .int r4, .int r5, .int r6, .int r7, .bool r8, .int r9, .int r10, .int r11, .int r12, .rows r13, .int s0, .int s1, .int s2, .int s3, .int s4, .int s5, .int s6, .int s7, .int s8, .int s9, .int s10, .int s11, .int s12, .int s13, .rows s14, .int s15, .rows s16, .rows s17, .bool s18, .rows s19, .bool s20, .int s21, .int s22, .int s23, .rows s24, .int s25, .int s26, .int s27, .bool b] = some (dp (JY (⟨r0, r1, r2, r3, r4, r5, r6, r7, r8, r9, r10, r11, r12, r13⟩ : Rul) (⟨s0, s1, s2, s3, s4, s5, s6, s7, s8, s9, s10, s11, s12, s13, s14, s15, s16, s17, s18, s19, s20, s21, s22, s23, s24, s25, s26, s27⟩ : Inn) b)) := by
 show K3 (std (Ds N) N) (xOf _) = _
 generalize hres : (some (dp (JY (⟨r0, r1, r2, r3, r4, r5, r6, r7, r8, r9, r10, r11, r12, r13⟩ : Rul) (⟨s0, s1, s2, s3, s4, s5, s6, s7, s8, s9, s10, s11, s12, s13, s14, s15, s16, s17, s18, s19, s20, s21, s22, s23, s24, s25, s26, s27⟩ : Inn) b)) : Option (List PV)) = RR
 have ha : (s16 ++ [[PV.int s15]]).length ≤ 1048576 := by simp; omega
 simp only [K3, Od, Jp, QS, Oe, std, xOf, PXb, PXc, PXn, PXm, Nat.reduceAdd, Int.reduceBEq, QM h, M0, CC hN hs, J2 hN h.bw', f9 ha (show 8 ≤ 4096 by omega)]
 subst hres; simp only [JY]
 cases hp : inR s15 s19.length with
 | false => rfl
 | true =>
  rw [JK hp h.bd]
  cases Au (⟨r0, r1, r2, r3, r4, r5, r6, r7, r8, r9, r10, r11, r12, r13⟩ : Rul) == 0 <;> try rfl
  cases Id s16 s16.length s15 <;> cases b <;> simp only [PXb, PXc, PXn, PXm, Nat.reduceAdd, Int.reduceBEq, inc]
  all_goals first | (cases iLt s11 r4 <;> rfl) | (cases iLt (IntKind.i64.wrap (s11 + 1)) r4 <;> rfl)
def Lq (r : Rul) (s : Inn) : Inn × Int :=
 cond (!(Au r == 0) || r.newball == 0 || iLt s.ballage (IntKind.i64.wrap (r.newball * r.balls))) (s, 22) ({ s with ballage := 0 }, 0)
theorem V5 {N : Nat} {r1 r2 r3 r4 r5 r6 r7 r9 r10 r11 r12 : Int} {r8 : Bool} {r0 : ByteArray} {r13 : Rows} {s0 s1 s2 s3 s4 s5 s6 s7 s8 s9 s10 s11 s12 s13 s15 s21 s22 s23 s25 s26 s27 : Int} {s18 s20 : Bool} {s14 s16 s17 s19 s24 : Rows} (h : Fit s14 s16 s17 s19 s24) (hN : 2097152 < N) (hs : r0.size ≤ 1048576) : E6 N [.str r0, .int r1, .int r2, .int r3, .int r4, .int r5, .int r6, .int r7, .bool r8, .int r9, .int r10, .int r11, .int r12, .rows r13, .int s0, .int s1, .int s2, .int s3, .int s4, .int s5, .int s6, .int s7, .int s8, .int s9, .int s10, .int s11, .int s12, .int s13, .rows s14, .int s15, .rows s16, .rows s17, .bool s18, .rows s19, .bool s20, .int s21, .int s22, .int s23, .rows s24, .int s25, .int s26, .int s27] = some (A1 (Lq (⟨r0, r1, r2, r3, r4, r5, r6, r7, r8, r9, r10, r11, r12, r13⟩ : Rul) (⟨s0, s1, s2, s3, s4, s5, s6, s7, s8, s9, s10, s11, s12, s13, s14, s15, s16, s17, s18, s19, s20, s21, s22, s23, s24, s25, s26, s27⟩ : Inn))) := by
 show HP (std (FR N) N) (xOf _) = _
 generalize hres : (some (A1 (Lq (⟨r0, r1, r2, r3, r4, r5, r6, r7, r8, r9, r10, r11, r12, r13⟩ : Rul) (⟨s0, s1, s2, s3, s4, s5, s6, s7, s8, s9, s10, s11, s12, s13, s14, s15, s16, s17, s18, s19, s20, s21, s22, s23, s24, s25, s26, s27⟩ : Inn))) : Option (List PV)) = RR
 simp only [HP, Mm, Ny, std, xOf, PXb, PXc, PXn, PXm, Nat.reduceAdd, Int.reduceBEq, QM h, CC hN hs]
 subst hres; simp only [Lq]
 cases (!(Au (⟨r0, r1, r2, r3, r4, r5, r6, r7, r8, r9, r10, r11, r12, r13⟩ : Rul) == 0) || r9 == 0 || iLt s21 (IntKind.i64.wrap (r9 * r4))) <;> rfl
end Go.Px
end
section
namespace Go.Px
set_option maxRecDepth 100000
def Ys (r : Rul) (over : Int) : Int :=
 match Bo (fun i => cond (iLe (atI r.power i 0) (inc over) && iLe (inc over) (atI r.power i 1)) (some [.int (atI r.power i 2)]) none) r.power.length 0 with
 | some x => pvI (AF x 0)
 | none => r.outside
theorem Vy {N : Nat} {r1 r2 r3 r4 r5 r6 r7 r9 r10 r11 r12 : Int} {r8 : Bool} {r0 : ByteArray} {r13 : Rows} {o : Int} (hN : 2097152 < N) (h13 : r13.length ≤ 1048576) : FD N [.str r0, .int r1, .int r2, .int r3, .int r4, .int r5, .int r6, .int r7, .bool r8, .int r9, .int r10, .int r11, .int r12, .rows r13, .int o] = some [.int (Ys (⟨r0, r1, r2, r3, r4, r5, r6, r7, r8, r9, r10, r11, r12, r13⟩ : Rul) o)] := by
 show G9 (std (NW N) N) (xOf _) = _
 simp only [G9, std, xOf, PXb, PXc, PXn, AE]
 refine Ac (Cb (len := r13.length) (fun i => cond (iLe (atI r13 i 0) (inc o) && iLe (inc o) (atI r13 i 1)) (some [.int (atI r13 i 2)]) none) ?_ ?_ r13.length 0 N (by omega) (by omega)) ?_
 ·intro self
  simp only [PXb, PXc, PXn, AE, BX]
 ·intro i self hi
  simp only [PXb, PXc, PXn, AE, Am (show i ≤ 1099511627776 by omega), BC hi, Aj hi]
  cases hq : iLe (atI r13 i 0) (inc o) && iLe (inc o) (atI r13 i 1) <;> unfold inc atI at hq <;> rw [hq] <;> rfl
 ·unfold Ys
  cases Bo (fun i => cond (iLe (atI r13 i 0) (inc o) && iLe (inc o) (atI r13 i 1)) (some [.int (atI r13 i 2)]) none) r13.length 0 <;> rfl
def OI (s : Inn) (p : Int) : Inn × Int :=
 cond (!inR p s.subs.length) (s, 3) (cond (GH s p) (s, 18) (cond (p == s.bowler || p == s.keeper) (s, 17) ({ s with keeper := p }, 0)))
theorem XA {N : Nat} {s0 s1 s2 s3 s4 s5 s6 s7 s8 s9 s10 s11 s12 s13 s15 s21 s22 s23 s25 s26 s27 : Int} {s18 s20 : Bool} {s14 s16 s17 s19 s24 : Rows} {p : Int} (h : Fit s14 s16 s17 s19 s24) : F0 N [.int s0, .int s1, .int s2, .int s3, .int s4, .int s5, .int s6, .int s7, .int s8, .int s9, .int s10, .int s11, .int s12, .int s13, .rows s14, .int s15, .rows s16, .rows s17, .bool s18, .rows s19, .bool s20, .int s21, .int s22, .int s23, .rows s24, .int s25, .int s26, .int s27, .int p] = some (A1 (OI (⟨s0, s1, s2, s3, s4, s5, s6, s7, s8, s9, s10, s11, s12, s13, s14, s15, s16, s17, s18, s19, s20, s21, s22, s23, s24, s25, s26, s27⟩ : Inn) p)) := by
 show IV (std (Dz N) N) (xOf _) = _
 generalize hres : (some (A1 (OI (⟨s0, s1, s2, s3, s4, s5, s6, s7, s8, s9, s10, s11, s12, s13, s14, s15, s16, s17, s18, s19, s20, s21, s22, s23, s24, s25, s26, s27⟩ : Inn) p)) : Option (List PV)) = RR
 simp only [IV, Ot, M6, LM, std, xOf, PXb, PXc, PXn, PXm, Nat.reduceAdd, Int.reduceBEq, P9 h, Ge, GF h.sb]
 subst hres; simp only [OI]
 cases inR p s24.length <;> cases GH (⟨s0, s1, s2, s3, s4, s5, s6, s7, s8, s9, s10, s11, s12, s13, s14, s15, s16, s17, s18, s19, s20, s21, s22, s23, s24, s25, s26, s27⟩ : Inn) p <;> cases p == s15 <;> cases p == s22 <;> rfl
def QZ (s : Inn) (p : Int) (on : Bool) : Inn × Int :=
  cond (!inR p s.subs.length) (s, 3) (cond (GH s p == on) (s, 18)
    ({ s with subs := eM s.subs p on, keeper := cond (on && s.keeper == p) 0 s.keeper, bowler := cond (on && s.bowler == p) 0 s.bowler }, 0))
theorem Ta {N : Nat} {s0 s1 s2 s3 s4 s5 s6 s7 s8 s9 s10 s11 s12 s13 s15 s21 s22 s23 s25 s26 s27 : Int} {s18 s20 : Bool} {s14 s16 s17 s19 s24 : Rows} {p : Int} {b : Bool} (h : Fit s14 s16 s17 s19 s24) : DA N [.int s0, .int s1, .int s2, .int s3, .int s4, .int s5, .int s6, .int s7, .int s8, .int s9, .int s10, .int s11, .int s12, .int s13, .rows s14, .int s15, .rows s16, .rows s17, .bool s18, .rows s19, .bool s20, .int s21, .int s22, .int s23, .rows s24, .int s25, .int s26, .int s27, .int p, .bool b] = some (A1 (QZ (⟨s0, s1, s2, s3, s4, s5, s6, s7, s8, s9, s10, s11, s12, s13, s14, s15, s16, s17, s18, s19, s20, s21, s22, s23, s24, s25, s26, s27⟩ : Inn) p b)) := by
 show Et (std (CR N) N) (xOf _) = _
 generalize hres : (some (A1 (QZ (⟨s0, s1, s2, s3, s4, s5, s6, s7, s8, s9, s10, s11, s12, s13, s14, s15, s16, s17, s18, s19, s20, s21, s22, s23, s24, s25, s26, s27⟩ : Inn) p b)) : Option (List PV)) = RR
 simp only [Et, Lu, Kk, I8, std, xOf, PXb, PXc, PXn, PXm, Nat.reduceAdd, Int.reduceBEq, P9 h, Ge, GF h.sb]
 subst hres; simp only [QZ]
 cases hp : inR p s24.length <;> try rfl
 rw [JK hp h.sb]
 cases GH (⟨s0, s1, s2, s3, s4, s5, s6, s7, s8, s9, s10, s11, s12, s13, s14, s15, s16, s17, s18, s19, s20, s21, s22, s23, s24, s25, s26, s27⟩ : Inn) p == b <;> cases b <;> cases s22 == p <;> cases s15 == p <;> rfl
def L0 (s : Inn) (n : Int) : Inn × Int :=
 cond (iLt n 0 || iLt (IntKind.i64.wrap ((s.subs.length : Int) - 2)) n) (s, 16) ({ s with outside := n }, 0)
theorem WW {N : Nat} {s0 s1 s2 s3 s4 s5 s6 s7 s8 s9 s10 s11 s12 s13 s15 s21 s22 s23 s25 s26 s27 : Int} {s18 s20 : Bool} {s14 s16 s17 s19 s24 : Rows} {n : Int} (h : Fit s14 s16 s17 s19 s24) : Eg N [.int s0, .int s1, .int s2, .int s3, .int s4, .int s5, .int s6, .int s7, .int s8, .int s9, .int s10, .int s11, .int s12, .int s13, .rows s14, .int s15, .rows s16, .rows s17, .bool s18, .rows s19, .bool s20, .int s21, .int s22, .int s23, .rows s24, .int s25, .int s26, .int s27, .int n] = some (A1 (L0 (⟨s0, s1, s2, s3, s4, s5, s6, s7, s8, s9, s10, s11, s12, s13, s14, s15, s16, s17, s18, s19, s20, s21, s22, s23, s24, s25, s26, s27⟩ : Inn) n)) := by
 show G7 (std (IZ N) N) (xOf _) = _
 generalize hres : (some (A1 (L0 (⟨s0, s1, s2, s3, s4, s5, s6, s7, s8, s9, s10, s11, s12, s13, s14, s15, s16, s17, s18, s19, s20, s21, s22, s23, s24, s25, s26, s27⟩ : Inn) n)) : Option (List PV)) = RR
 simp only [G7, N8, std, xOf, PXb, PXc, PXn, PXm, Nat.reduceAdd, Int.reduceBEq, P9 h]
 subst hres; simp only [L0]
 cases (iLt n 0 || iLt (IntKind.i64.wrap ((s24.length : Int) - 2)) n) <;> rfl
def TB (r : Rul) (s : Inn) : Int :=
 cond (!inR s.keeper s.subs.length || GH s s.keeper || s.keeper == s.bowler) 17 (cond (iLt (Ys r s.complete) s.outside) 16 0)
theorem YY {N : Nat} {r1 r2 r3 r4 r5 r6 r7 r9 r10 r11 r12 : Int} {r8 : Bool} {r0 : ByteArray} {r13 : Rows} {s0 s1 s2 s3 s4 s5 s6 s7 s8 s9 s10 s11 s12 s13 s15 s21 s22 s23 s25 s26 s27 : Int} {s18 s20 : Bool} {s14 s16 s17 s19 s24 : Rows} (h : Fit s14 s16 s17 s19 s24) (hN : 2097152 < N) (h13 : r13.length ≤ 1048576) : Gi N [.str r0, .int r1, .int r2, .int r3, .int r4, .int r5, .int r6, .int r7, .bool r8, .int r9, .int r10, .int r11, .int r12, .rows r13, .int s0, .int s1, .int s2, .int s3, .int s4, .int s5, .int s6, .int s7, .int s8, .int s9, .int s10, .int s11, .int s12, .int s13, .rows s14, .int s15, .rows s16, .rows s17, .bool s18, .rows s19, .bool s20, .int s21, .int s22, .int s23, .rows s24, .int s25, .int s26, .int s27] = some [.int (TB (⟨r0, r1, r2, r3, r4, r5, r6, r7, r8, r9, r10, r11, r12, r13⟩ : Rul) (⟨s0, s1, s2, s3, s4, s5, s6, s7, s8, s9, s10, s11, s12, s13, s14, s15, s16, s17, s18, s19, s20, s21, s22, s23, s24, s25, s26, s27⟩ : Inn))] := by
 show JR (std (Ej N) N) (xOf _) = _
 generalize hres : (some [.int (TB (⟨r0, r1, r2, r3, r4, r5, r6, r7, r8, r9, r10, r11, r12, r13⟩ : Rul) (⟨s0, s1, s2, s3, s4, s5, s6, s7, s8, s9, s10, s11, s12, s13, s14, s15, s16, s17, s18, s19, s20, s21, s22, s23, s24, s25, s26, s27⟩ : Inn))] : Option (List PV)) = RR
 simp only [JR, Nn, Lt, Mo, std, xOf, PXb, PXc, PXn, PXm, Nat.reduceAdd, Int.reduceBEq, Ge, GF h.sb, Vy hN h13]
 subst hres; simp only [TB]
 cases inR s22 s24.length <;> cases GH (⟨s0, s1, s2, s3, s4, s5, s6, s7, s8, s9, s10, s11, s12, s13, s14, s15, s16, s17, s18, s19, s20, s21, s22, s23, s24, s25, s26, s27⟩ : Inn) s22 <;> cases s22 == s15 <;> rfl
def Tc (s : Inn) (d : Del) : Int :=
  cond (iLt 0 d.fielder && !inR d.fielder s.subs.length) 3 (cond (iLt 0 d.fielder && !(d.sub == GH s d.fielder)) 18
    (cond (iLt 0 d.second && !inR d.second s.subs.length) 3 (cond (iLt 0 d.second && GH s d.second) 18
      (cond (d.how == 4 && !(cQ d.fielder == s.keeper)) 17 0))))
theorem YM {N : Nat} {s0 s1 s2 s3 s4 s5 s6 s7 s8 s9 s10 s11 s12 s13 s15 s21 s22 s23 s25 s26 s27 : Int} {s18 s20 : Bool} {s14 s16 s17 s19 s24 : Rows} {d0 d1 d2 d3 d4 d6 d7 d8 d9 d11 : Int} {d5 d10 : Bool} (h : Fit s14 s16 s17 s19 s24) : Gr N [.int s0, .int s1, .int s2, .int s3, .int s4, .int s5, .int s6, .int s7, .int s8, .int s9, .int s10, .int s11, .int s12, .int s13, .rows s14, .int s15, .rows s16, .rows s17, .bool s18, .rows s19, .bool s20, .int s21, .int s22, .int s23, .rows s24, .int s25, .int s26, .int s27, .int d0, .int d1, .int d2, .int d3, .int d4, .bool d5, .int d6, .int d7, .int d8, .int d9, .bool d10, .int d11] = some [.int (Tc (⟨s0, s1, s2, s3, s4, s5, s6, s7, s8, s9, s10, s11, s12, s13, s14, s15, s16, s17, s18, s19, s20, s21, s22, s23, s24, s25, s26, s27⟩ : Inn) (⟨d0, d1, d2, d3, d4, d5, d6, d7, d8, d9, d10, d11⟩ : Del))] := by
 show JO (std (HC N) N) (xOf _) = _
 generalize hres : (some [.int (Tc (⟨s0, s1, s2, s3, s4, s5, s6, s7, s8, s9, s10, s11, s12, s13, s14, s15, s16, s17, s18, s19, s20, s21, s22, s23, s24, s25, s26, s27⟩ : Inn) (⟨d0, d1, d2, d3, d4, d5, d6, d7, d8, d9, d10, d11⟩ : Del))] : Option (List PV)) = RR
 simp only [JO, N0, Li, std, xOf, PXb, PXc, PXn, PXm, Nat.reduceAdd, Int.reduceBEq, Ge, GF h.sb]
 subst hres; simp only [Tc, cQ, f5]
 cases iLt 0 d8 <;> cases iLt 0 d9 <;> cases inR d8 s24.length <;> cases inR d9 s24.length <;> cases d10 == GH (⟨s0, s1, s2, s3, s4, s5, s6, s7, s8, s9, s10, s11, s12, s13, s14, s15, s16, s17, s18, s19, s20, s21, s22, s23, s24, s25, s26, s27⟩ : Inn) d8 <;> cases GH (⟨s0, s1, s2, s3, s4, s5, s6, s7, s8, s9, s10, s11, s12, s13, s14, s15, s16, s17, s18, s19, s20, s21, s22, s23, s24, s25, s26, s27⟩ : Inn) d9 <;> rfl
end Go.Px
end
section
namespace Go.Px
set_option maxRecDepth 100000
structure Cre where
 batter : Int
 wides : Int
 noballs : Int
 byes : Int
 legbyes : Int
 bowler : Int
 counts : Bool
 faced : Bool
 wicket : Bool
 swap : Bool
def Cre.ls (c : Cre) : List PV := [.int c.batter, .int c.wides, .int c.noballs, .int c.byes, .int c.legbyes, .int c.bowler, .bool c.counts, .bool c.faced, .bool c.wicket, .bool c.swap]
def Tb (d : Del) : Bool :=
  cond (d.type == 2) (d.source == 0 && !(d.boundary == 6)) (cond (d.source == 0) (d.runs == 0 && d.boundary == 0)
    (cond (d.boundary == 0) (iLt 0 d.runs) (cond (d.boundary == 6) (d.source == 1 && d.runs == 0) true)))
def KZ (d : Del) : Int :=
  cond (iLt d.type 1 || iLt 3 d.type || iLt 3 d.source || iLt 10 d.how || !btw d.sector 0 8) 11
    (cond (!btw d.runs 0 7 || !btw d.short 0 d.runs || (!(d.boundary == 0) && !(d.boundary == 4) && !(d.boundary == 6))) 12
      (cond (!Tb d) 11 (cond (!(d.sector == 0) && !(d.source == 1) && !(d.how == 2)) 11 (cond (!(d.boundary == 0) && !(d.how == 0)) 11
        (cond (d.crossed && !(d.how == 6) && !(d.how == 8)) 11 0)))))
def I9 (d : Del) : Bool :=
  cond (d.type == 2) (d.source == 0 && !(d.boundary == 6)) (cond (d.source == 0) (d.runs == 0 && d.boundary == 0)
    (cond (d.source == 1) (!(d.boundary == 6) || d.runs == 0) (!(d.boundary == 6) && (iLt 0 d.runs || !(d.boundary == 0)))))
theorem SY {N : Nat} {d0 d1 d2 d3 d4 d6 d7 d8 d9 d11 : Int} {d5 d10 : Bool}  : Cg N [.int d0, .int d1, .int d2, .int d3, .int d4, .bool d5, .int d6, .int d7, .int d8, .int d9, .bool d10, .int d11] = some [.bool (I9 (⟨d0, d1, d2, d3, d4, d5, d6, d7, d8, d9, d10, d11⟩ : Del))] := by
 show EK (std (J1 N) N) (xOf _) = _
 generalize hres : (some [.bool (I9 (⟨d0, d1, d2, d3, d4, d5, d6, d7, d8, d9, d10, d11⟩ : Del))] : Option (List PV)) = RR
 simp only [EK, std, xOf, PXb, PXc, PXn, PXm, Nat.reduceAdd, Int.reduceBEq]
 subst hres; simp only [I9]
theorem gw (x a b : Int) : (!btw x a b) = (iLt x a || iLt b x) := by
 unfold btw iLe iLt
 rw [Bool.eq_iff_iff]
 simp only [Bool.not_eq_true', Bool.and_eq_false_iff, decide_eq_false_iff_not, Bool.or_eq_true, decide_eq_true_eq]
 omega
theorem fa {d : Del} (h : 0 ≤ d.runs) : (!I9 d || !d.type == 2 && d.source == 1 && d.runs == 0 && d.boundary == 0) = !Tb d := by
 unfold I9 Tb
 rw [fk h]
 cases h1 : d.source == 0 with
 | true =>
  rw [XQ h1 (c := 1) rfl]
  cases d.type == 2 <;> cases d.runs == 0 <;> cases d.boundary == 0 <;> cases d.boundary == 6 <;> rfl
 | false =>
  cases h2 : d.boundary == 0 with
  | true =>
   rw [XQ h2 (c := 6) rfl]
   cases d.type == 2 <;> cases d.source == 1 <;> cases d.runs == 0 <;> rfl
  | false => cases d.type == 2 <;> cases d.source == 1 <;> cases d.runs == 0 <;> cases d.boundary == 6 <;> rfl
theorem Of {N : Nat} {d0 d1 d2 d3 d4 d6 d7 d8 d9 d11 : Int} {d5 d10 : Bool}  : Bq N [.int d0, .int d1, .int d2, .int d3, .int d4, .bool d5, .int d6, .int d7, .int d8, .int d9, .bool d10, .int d11] = some [.int (KZ (⟨d0, d1, d2, d3, d4, d5, d6, d7, d8, d9, d10, d11⟩ : Del))] := by
 show GK (std (HV N) N) (xOf _) = _
 generalize hres : (some [.int (KZ (⟨d0, d1, d2, d3, d4, d5, d6, d7, d8, d9, d10, d11⟩ : Del))] : Option (List PV)) = RR
 simp only [GK, Ia, std, xOf, PXb, PXc, PXn, PXm, Nat.reduceAdd, Int.reduceBEq, SY]
 subst hres; simp only [KZ, gw, Bool.or_assoc]
 cases h2 : (iLt d2 0 || (iLt 7 d2 || (iLt d3 0 || (iLt d2 d3 || !d4 == 0 && !d4 == 4 && !d4 == 6)))) with
 | true => rfl
 | false =>
  have h3 : 0 ≤ d2 := by
   rw [Bool.or_eq_false_iff] at h2
   have := h2.1
   simp only [iLt, decide_eq_false_iff_not] at this
   omega
  have := fa (d := (⟨d0, d1, d2, d3, d4, d5, d6, d7, d8, d9, d10, d11⟩ : Del)) h3
  simp only at this
  rw [this]
theorem U7 {N : Nat} {a : Int} {b : Int} {c : Int} {d : Int} {e : Int} {x : Int} {p : Bool} {q : Bool} {u : Bool} {v : Bool}  : EB N [.int a, .int b, .int c, .int d, .int e, .int x, .bool p, .bool q, .bool u, .bool v] = some [.int (IntKind.i64.wrap (IntKind.i64.wrap (IntKind.i64.wrap (IntKind.i64.wrap (a + b) + c) + d) + e))] := by
 rfl
def Yu (c : Cre) : Int := IntKind.i64.wrap (IntKind.i64.wrap (IntKind.i64.wrap (IntKind.i64.wrap (c.batter + c.wides) + c.noballs) + c.byes) + c.legbyes)
def Xd (h : Int) : Bool := iLe 1 h && iLe h 5
theorem ST {N : Nat} {h : Int}  : Cj N [.int h] = some [.bool (Xd h)] := by
 show EN (std (Jz N) N) (xOf _) = _
 simp only [EN, std, xOf, PXb, PXc, PXn, PXm, Nat.reduceAdd, Int.reduceBEq, Xd]
def fA (r : Rul) (d : Del) : Cre :=
  let n := IntKind.i64.wrap (IntKind.i64.wrap (d.runs - d.short) + d.boundary)
  let b := cond (!(d.type == 2) && d.source == 1) n 0
  let w := cond (d.type == 2) (IntKind.i64.wrap (r.wide + n)) 0
  let o := cond (d.type == 3) r.noball 0
  { batter := b, wides := w, noballs := o, byes := cond (!(d.type == 2) && d.source == 2) n 0, legbyes := cond (!(d.type == 2) && d.source == 3) n 0, bowler := IntKind.i64.wrap (IntKind.i64.wrap (b + w) + o),
    counts := d.type == 1, faced := !(d.type == 2), wicket := Xd d.how, swap := !((!(d.runs.tmod 2 == 0)) == d.crossed) }
def BO (r : Rul) (d : Del) : Cre := cond (!(KZ d == 0)) ⟨0, 0, 0, 0, 0, 0, false, false, false, false⟩ (fA r d)
theorem bX {d : Del} (h : (KZ d == 0) = true) : 0 ≤ d.runs ∧ d.runs ≤ 7 := by
 unfold KZ at h
 cases h1 : (iLt d.type 1 || iLt 3 d.type || iLt 3 d.source || iLt 10 d.how || !btw d.sector 0 8) with
 | true => rw [h1] at h; cases h
 | false =>
  cases h2 : (!btw d.runs 0 7 || !btw d.short 0 d.runs || (!(d.boundary == 0) && !(d.boundary == 4) && !(d.boundary == 6))) with
  | true => rw [h1, h2] at h; cases h
  | false =>
   rw [Bool.or_eq_false_iff, Bool.or_eq_false_iff] at h2
   have := h2.1.1
   simp only [btw, iLe, Bool.not_eq_false', Bool.and_eq_true, decide_eq_true_eq] at this
   exact this
theorem fT {n : Int} (h : 0 ≤ n ∧ n ≤ 7) (b : Bool) : ((cond b (IntKind.i64.wrap (n + 1)) n).tmod 2 == 1) = !((!(n.tmod 2 == 0)) == b) := by
 obtain ⟨k, rfl⟩ : ∃ k : Nat, n = k := ⟨n.toNat, by omega⟩
 have : k = 0 ∨ k = 1 ∨ k = 2 ∨ k = 3 ∨ k = 4 ∨ k = 5 ∨ k = 6 ∨ k = 7 := by omega
 rcases this with h | h | h | h | h | h | h | h <;> subst h <;> cases b <;> rfl
theorem NY {N : Nat} {r1 r2 r3 r4 r5 r6 r7 r9 r10 r11 r12 : Int} {r8 : Bool} {r0 : ByteArray} {r13 : Rows} {d0 d1 d2 d3 d4 d6 d7 d8 d9 d11 : Int} {d5 d10 : Bool}  : Bh N [.str r0, .int r1, .int r2, .int r3, .int r4, .int r5, .int r6, .int r7, .bool r8, .int r9, .int r10, .int r11, .int r12, .rows r13, .int d0, .int d1, .int d2, .int d3, .int d4, .bool d5, .int d6, .int d7, .int d8, .int d9, .bool d10, .int d11] = some (BO (⟨r0, r1, r2, r3, r4, r5, r6, r7, r8, r9, r10, r11, r12, r13⟩ : Rul) (⟨d0, d1, d2, d3, d4, d5, d6, d7, d8, d9, d10, d11⟩ : Del)).ls := by
 show FX (std (EI N) N) (xOf _) = _
 generalize hres : (some (BO (⟨r0, r1, r2, r3, r4, r5, r6, r7, r8, r9, r10, r11, r12, r13⟩ : Rul) (⟨d0, d1, d2, d3, d4, d5, d6, d7, d8, d9, d10, d11⟩ : Del)).ls : Option (List PV)) = RR
 simp only [FX, Jj, H3, std, xOf, PXb, PXc, PXn, PXm, Nat.reduceAdd, Int.reduceBEq, Of, ST]
 subst hres; simp only [BO, fA]
 cases hl : KZ (⟨d0, d1, d2, d3, d4, d5, d6, d7, d8, d9, d10, d11⟩ : Del) == 0 with
 | false => rfl
 | true =>
  have hs := fT (bX hl) d5
  simp only at hs
  simp only [PXb, PXc, PXn, PXm, Nat.reduceAdd, Int.reduceBEq, hs]
  cases h0 : d0 == 2 <;> cases h3 : d0 == 3 <;> cases h1 : d1 == 1 <;> cases h2 : d1 == 2 <;> cases h4 : d1 == 3 <;> first
   | rfl
   | (rw [XQ h0 (c := 3) rfl] at h3; exact absurd h3 (by decide))
   | (rw [XQ h1 (c := 2) rfl] at h2; exact absurd h2 (by decide))
   | (rw [XQ h1 (c := 3) rfl] at h4; exact absurd h4 (by decide))
   | (rw [XQ h2 (c := 3) rfl] at h4; exact absurd h4 (by decide))
end Go.Px
end
section
namespace Go.Px
set_option maxRecDepth 100000
def onS (h t : Int) : Bool :=
 cond (h == 1 || h == 2 || h == 3) (t == 1) (cond (h == 4 || h == 5) (t == 1 || t == 2) (cond (h == 7) (t == 1 || t == 3) (cond (h == 6 || h == 8) (t == 1 || t == 2 || t == 3) false)))
def bm (h : Int) : Bool := h == 6 || h == 7 || h == 8
def OD (h : Int) : Bool := h == 6 || h == 8
def Vo (h : Int) : Bool := h == 2 || h == 4 || h == 6
def WO (d : Del) (free : Bool) : Int :=
  cond (d.how == 0) (cond (!(d.victim == 0)) 14 (cond (!(d.fielder == 0) || !(d.second == 0) || d.sub) 15 0))
    (cond (!onS d.how d.type || free && !bm d.how) 13 (cond (!OD d.how && (!(d.source == 0) || !(d.runs == 0))) 12
      (cond (!(d.victim == 1) && !(d.victim == 2 && OD d.how)) 14
        (cond (Vo d.how && !btw d.fielder 1 11 || !Vo d.how && !(d.fielder == 0)) 15
          (cond (!(d.second == 0) && (!(d.how == 6) || !btw d.second 1 11 || d.second == d.fielder)) 15
            (cond (d.sub && !(d.how == 2) && !(d.how == 6)) 18 0))))))
def BQ : Rows := match BK 0 [] with
 | some [.rows l] => l
 | _ => []
theorem NS {N : Nat} : BK N [] = some [.rows BQ] := rfl
theorem VW : BQ.length = 11 := rfl
theorem Sw {N : Nat} {h : Int} {n : ByteArray} {b : Bool} {c : Bool} {d : Bool} {e : Bool} {x : Bool} {t : Int}  : Cy N [.int h, .str n, .bool b, .bool c, .bool d, .bool e, .bool x, .int t] = some [.bool (t == 1 && b || t == 2 && c || t == 3 && d)] := by
 show E4 (std (Kf N) N) (xOf _) = _
 simp only [E4, std, xOf, PXb, PXc, PXn, PXm, Nat.reduceAdd, Int.reduceBEq]
theorem QO {N : Nat} {n : Int}  : B5 N [.int n] = some [.bool (btw n 1 11)] := by
 show Cs (std (Hp N) N) (xOf _) = _
 simp only [Cs, std, xOf, PXb, PXc, PXn, PXm, Nat.reduceAdd, Int.reduceBEq]
 rfl
def bg (i j : Nat) : Bool := pvB (AJ BQ i j)
def wOk (t : Int) (free : Bool) (i : Nat) : Bool :=
  (t == 1 && bg i 2 || t == 2 && bg i 3 || t == 3 && bg i 4) && (!free || atI BQ i 0 == 6 || atI BQ i 0 == 7 || atI BQ i 0 == 8)
def GR (t : Int) (free : Bool) : Nat → Rows
 | 0 => []
 | i + 1 => cond (wOk t free i) (GR t free i ++ [[.int (atI BQ i 0)]]) (GR t free i)
theorem Vc (t : Int) (free : Bool) : ∀ i, (GR t free i).length ≤ i
 | 0 => Nat.le_refl _
 | i + 1 => by
  have := Vc t free i
  unfold GR
  cases wOk t free i
  ·exact Nat.le_succ_of_le this
  ·simp; exact this
theorem VA {N : Nat} {t : Int} {f : Bool} (hN : 2097152 < N) : Dy N [.int t, .bool f] = some [.rows (GR t f 11)] := by
 show GC (std (FB N) N) (xOf _) = _
 simp only [GC, Jc, Ix, std, xOf, PXb, PXc, PXn, AE, NS, Sw]
 refine Ac (Jd (len := BQ.length) (fun i => [.rows (GR t f i), .int (i : Int)]) [.rows (GR t f 11)] ?_ ?_ N (by rw [VW]; omega)) rfl
 ·intro self
  simp only [PXb, PXc, PXn, AE, BX]
  rfl
 ·intro i self hi
  have hi2 : i < 11 := hi
  have h2 : (GR t f i ++ [[PV.int (atI BQ i 0)]]).length ≤ 4194304 := by have := Vc t f i; simp; omega
  simp only [PXb, PXc, AE, Am (show i ≤ 1099511627776 by omega), BC hi, Aj hi, CU, GR, KJ h2 (show 1 ≤ 4096 by omega)]
  unfold wOk bg
  cases ((t == 1 && pvB (AJ BQ i 2) || t == 2 && pvB (AJ BQ i 3) || t == 3 && pvB (AJ BQ i 4)) && (!f || atI BQ i 0 == 6 || atI BQ i 0 == 7 || atI BQ i 0 == 8)) <;> rfl
theorem Sr {N : Nat} {L : Rows} {v : Int} (hN : L.length < N) (hl : L.length ≤ 1048576) : C4 N [.rows L, .int v] = some [.int (M3 (fun j => v == atI L j 0) L.length)] := by
 show Eu (std (Kv N) N) (xOf _) = _
 simp only [Eu, std, xOf, PXb, PXc, PXn, AE]
 refine Ac (Cb (len := L.length) (FI fun j => v == atI L j 0) ?_ ?_ L.length 0 N (by omega) (by omega)) ?_
 ·intro self
  simp only [PXb, PXc, PXn, AE, BX]
 ·intro i self hi
  simp only [PXb, PXc, PXn, AE, Am (show i ≤ 1099511627776 by omega), BC hi, Aj hi, FI, CU]
  cases v == atI L i 0 <;> rfl
 ·unfold M3
  cases Bo (FI fun j => v == atI L j 0) L.length 0 <;> rfl
theorem Qt {N : Nat} {L : Rows} {v : Int} (hN : L.length < N) (hl : L.length ≤ 1048576) : CK N [.rows L, .int v] = some [.bool (Id L L.length v)] := by
 show DI (std (EU N) N) (xOf _) = _
 simp only [DI, G0, std, xOf, PXb, PXc, PXn, AE, Sr hN hl, IB, Id]
theorem ed (L : Rows) (v : Int) : Id L L.length v = Ib (fun x => v == x) L := rfl
theorem gE (p : Int → Bool) (b : Bool) (L : Rows) (x : Int) : Ib p (cond b (L ++ [[.int x]]) L) = (Ib p L || (b && p x)) := by
 cases b with
 | false => simp
 | true => rw [cond_true, Zh, Bool.true_and]; congr 1; rw [L7]; simp [AF, pvI]
theorem Z3 (t : Int) (free : Bool) (p : Int → Bool) : ∀ i, Ib p (GR t free i) = A6 (fun j => wOk t free j && p (atI BQ j 0)) i 0
 | 0 => rfl
 | i + 1 => by rw [Su, ← Z3 t free p i, GR, gE, Nat.zero_add]
theorem eA (t h : Int) (free : Bool) : Id (GR t free 11) (GR t free 11).length h = (onS h t && (!free || bm h)) := by
 rw [ed, Z3]
 have key : ∀ j, j < 11 → atI BQ j 0 = j := by
  intro j hj
  have : j = 0 ∨ j = 1 ∨ j = 2 ∨ j = 3 ∨ j = 4 ∨ j = 5 ∨ j = 6 ∨ j = 7 ∨ j = 8 ∨ j = 9 ∨ j = 10 := by omega
  rcases this with h | h | h | h | h | h | h | h | h | h | h <;> subst h <;> rfl
 by_cases hr : 0 ≤ h ∧ h ≤ 10
 ·obtain ⟨k, rfl⟩ : ∃ k : Nat, h = k := ⟨h.toNat, by omega⟩
  have : k = 0 ∨ k = 1 ∨ k = 2 ∨ k = 3 ∨ k = 4 ∨ k = 5 ∨ k = 6 ∨ k = 7 ∨ k = 8 ∨ k = 9 ∨ k = 10 := by omega
  rcases this with h | h | h | h | h | h | h | h | h | h | h <;> subst h <;> simp only [Bf, Ha, wOk, onS] <;> cases free <;> cases t == 1 <;> cases t == 2 <;> cases t == 3 <;> rfl
 ·rw [Ef.2 fun j _ hj => by
   rw [key j (by omega), show (h == (j : Int)) = false from beq_false_of_ne (by omega), Bool.and_false]]
  have e : ∀ n : Int, 0 ≤ n → n ≤ 10 → (h == n) = false := fun n h0 h1 => beq_false_of_ne (by omega)
  unfold onS
  rw [e 1 (by omega) (by omega), e 2 (by omega) (by omega), e 3 (by omega) (by omega), e 4 (by omega) (by omega), e 5 (by omega) (by omega), e 6 (by omega) (by omega), e 7 (by omega) (by omega), e 8 (by omega) (by omega)]
  rfl
def Rb (h : Int) : List PV := match Bo (fun i => cond (atI BQ i 0 == h) (some [.int (pvI (AJ BQ i 0)), .str (pvS (AJ BQ i 1)), .bool (pvB (AJ BQ i 2)), .bool (pvB (AJ BQ i 3)), .bool (pvB (AJ BQ i 4)), .bool (pvB (AJ BQ i 5)), .bool (pvB (AJ BQ i 6))]) none) 11 0 with
 | some r => r
 | none => [.int 0, .str ⟨#[]⟩, .bool false, .bool false, .bool false, .bool false, .bool false]
theorem Nm {ans : Nat → Option (List PV)} {r : List PV} : ∀ (k i : Nat), Bo ans k i = some r → ∃ j, i ≤ j ∧ j < i + k ∧ ans j = some r
 | 0, i, h => by cases h
 | k + 1, i, h => by
  simp only [Bo] at h
  cases ha : ans i with
  | some x => rw [ha] at h; cases h; exact ⟨i, Nat.le_refl _, by omega, ha⟩
  | none =>
   rw [ha] at h
   obtain ⟨j, h1, h2, h3⟩ := Nm k (i + 1) h
   exact ⟨j, by omega, by omega, h3⟩
theorem ee (h : Int) : ∃ a b c d e f g, Rb h = [.int a, .str b, .bool c, .bool d, .bool e, .bool f, .bool g] := by
 unfold Rb
 generalize hf : Bo _ 11 0 = o
 cases o with
 | none => exact ⟨_, _, _, _, _, _, _, rfl⟩
 | some r =>
  obtain ⟨j, _, _, h3⟩ := Nm _ _ hf
  cases hb : atI BQ j 0 == h with
  | false => rw [hb] at h3; cases h3
  | true => rw [hb] at h3; cases h3; exact ⟨_, _, _, _, _, _, _, rfl⟩
theorem Xa {N : Nat} {h : Int} (hN : 2097152 < N) : Fq N [.int h] = some (Rb h) := by
 show IP (std (Je N) N) (xOf _) = _
 simp only [IP, Ke, std, xOf, PXb, PXc, PXn, AE, NS]
 refine Ac (Cb (len := BQ.length) (fun i => cond (atI BQ i 0 == h) (some [.int (pvI (AJ BQ i 0)), .str (pvS (AJ BQ i 1)), .bool (pvB (AJ BQ i 2)), .bool (pvB (AJ BQ i 3)), .bool (pvB (AJ BQ i 4)), .bool (pvB (AJ BQ i 5)), .bool (pvB (AJ BQ i 6))]) none) ?_ ?_ BQ.length 0 N (by omega) (by rw [VW]; omega)) ?_
 ·intro self
  simp only [PXb, PXc, PXn, AE, BX]
 ·intro i self hi
  have hi2 : i < 11 := hi
  simp only [PXb, PXc, PXn, AE, Am (show i ≤ 1099511627776 by omega), BC hi, Aj hi, CU]
  cases atI BQ i 0 == h <;> rfl
 ·unfold Rb
  rw [VW]
  generalize hf : Bo _ 11 0 = o
  cases o with
  | none => rfl
  | some r =>
   obtain ⟨j, _, _, h3⟩ := Nm _ _ hf
   cases hb : atI BQ j 0 == h with
   | false => rw [hb] at h3; cases h3
   | true => rw [hb] at h3; cases h3; rfl
theorem dM (h : Int) : pvB (AF (Rb h) 5) = Vo h ∧ pvB (AF (Rb h) 6) = OD h := by
 by_cases hr : 0 ≤ h ∧ h ≤ 10
 ·obtain ⟨k, rfl⟩ : ∃ k : Nat, h = k := ⟨h.toNat, by omega⟩
  have : k = 0 ∨ k = 1 ∨ k = 2 ∨ k = 3 ∨ k = 4 ∨ k = 5 ∨ k = 6 ∨ k = 7 ∨ k = 8 ∨ k = 9 ∨ k = 10 := by omega
  rcases this with h | h | h | h | h | h | h | h | h | h | h <;> subst h <;> exact ⟨rfl, rfl⟩
 ·have e : ∀ n : Int, 0 ≤ n → n ≤ 10 → (h == n) = false := fun n h0 h1 => beq_false_of_ne (by omega)
  have key : ∀ j, j < 11 → atI BQ j 0 = j := by
   intro j hj
   have : j = 0 ∨ j = 1 ∨ j = 2 ∨ j = 3 ∨ j = 4 ∨ j = 5 ∨ j = 6 ∨ j = 7 ∨ j = 8 ∨ j = 9 ∨ j = 10 := by omega
   rcases this with h | h | h | h | h | h | h | h | h | h | h <;> subst h <;> rfl
  unfold Rb
  generalize hf : Bo _ 11 0 = o
  cases o with
  | none =>
   unfold Vo OD
   rw [e 2 (by omega) (by omega), e 4 (by omega) (by omega), e 6 (by omega) (by omega), e 8 (by omega) (by omega)]
   exact ⟨rfl, rfl⟩
  | some r =>
   obtain ⟨j, _, hj, h3⟩ := Nm _ _ hf
   rw [key j (by omega), show ((j : Int) == h) = false from beq_false_of_ne (by omega)] at h3
   cases h3
def MV (d : Del) (m : Bool) : Bool :=
 !(!(m == btw d.fielder 1 11) || !m && !(d.fielder == 0)) && (d.second == 0 || d.how == 6 && btw d.second 1 11 && !(d.second == d.fielder))
theorem RT {N : Nat} {d0 d1 d2 d3 d4 d6 d7 d8 d9 d11 : Int} {d5 d10 : Bool} {a : Int} {n : ByteArray} {b : Bool} {c : Bool} {e : Bool} {f : Bool} {g : Bool}  : CS N [.int d0, .int d1, .int d2, .int d3, .int d4, .bool d5, .int d6, .int d7, .int d8, .int d9, .bool d10, .int d11, .int a, .str n, .bool b, .bool c, .bool e, .bool f, .bool g] = some [.bool (MV (⟨d0, d1, d2, d3, d4, d5, d6, d7, d8, d9, d10, d11⟩ : Del) f)] := by
 show Dj (std (FG N) N) (xOf _) = _
 generalize hres : (some [.bool (MV (⟨d0, d1, d2, d3, d4, d5, d6, d7, d8, d9, d10, d11⟩ : Del) f)] : Option (List PV)) = RR
 simp only [Dj, F1, std, xOf, PXb, PXc, PXn, PXm, Nat.reduceAdd, Int.reduceBEq, QO]
 subst hres; simp only [MV]
 cases d9 == 0 <;> cases d6 == 6 <;> cases f <;> cases btw d8 1 11 <;> cases d8 == 0 <;> first | rfl | (cases btw d9 1 11 <;> rfl)
theorem gm {α : Type} (a b : Bool) (x y : α) : cond (a || b) x y = cond a x (cond b x y) := by cases a <;> rfl
theorem ab (d : Del) (m : Bool) : (!MV d m) = ((m && !btw d.fielder 1 11 || !m && !(d.fielder == 0)) || (!(d.second == 0) && (!(d.how == 6) || !btw d.second 1 11 || d.second == d.fielder))) := by
 unfold MV
 cases hb : btw d.fielder 1 11 <;> cases hf : d.fielder == 0
 ·cases m <;> cases d.second == 0 <;> cases d.how == 6 <;> cases btw d.second 1 11 <;> cases d.second == d.fielder <;> rfl
 ·cases m <;> cases d.second == 0 <;> cases d.how == 6 <;> cases btw d.second 1 11 <;> cases d.second == d.fielder <;> rfl
 ·cases m <;> cases d.second == 0 <;> cases d.how == 6 <;> cases btw d.second 1 11 <;> cases d.second == d.fielder <;> rfl
 ·rw [beq_iff_eq.1 hf] at hb; exact absurd hb (by decide)
theorem Rj {N : Nat} {d0 d1 d2 d3 d4 d6 d7 d8 d9 d11 : Int} {d5 d10 : Bool} {f : Bool} (hN : 2097152 < N) : CQ N [.int d0, .int d1, .int d2, .int d3, .int d4, .bool d5, .int d6, .int d7, .int d8, .int d9, .bool d10, .int d11, .bool f] = some [.int (WO (⟨d0, d1, d2, d3, d4, d5, d6, d7, d8, d9, d10, d11⟩ : Del) f)] := by
 show Dm (std (Bc N) N) (xOf _) = _
 generalize hres : (some [.int (WO (⟨d0, d1, d2, d3, d4, d5, d6, d7, d8, d9, d10, d11⟩ : Del) f)] : Option (List PV)) = RR
 have hl := Vc d0 f 11
 obtain ⟨a, b, c, d, e, m, g, hline⟩ := ee d6
 have hbits := dM d6
 rw [hline] at hbits
 have hm : m = Vo d6 := hbits.1
 have hg : g = OD d6 := hbits.2
 have h1 : (GR d0 f 11).length < N := by omega
 have h2 : (GR d0 f 11).length ≤ 1048576 := by omega
 simp only [Dm, I6, GJ, IH, Gh, std, xOf, PXb, PXc, PXn, PXm, Nat.reduceAdd, Int.reduceBEq, Xa hN, hline, VA hN, Qt h1 h2, eA, RT, ab]
 subst hres; simp only [WO, gm]
 rw [hm, hg]
 unfold OD
 cases d6 == 0 <;> cases onS d6 d0 <;> cases f <;> cases bm d6 <;> try rfl
 all_goals (cases d6 == 6 <;> cases d6 == 8 <;> cases d7 == 2 <;> rfl)
end Go.Px
end
section
namespace Go.Px
set_option maxRecDepth 100000
theorem Sh {N : Nat} {a : Int} {b : Int} {c : Int}  : C2 N [.int a, .int b, .int c] = some [.bool (btw a b c)] := by
 show Hv (std (KR N) N) (xOf _) = _
 show some [PV.bool (cond (iLe b a) (iLe a c) false)] = _
 rw [Vn]; rfl
theorem WB {N : Nat} {a : Int} {b : Int} {c : Int}  : Ew N [.int a, .int b, .int c] = some [.bool (btw a b c)] := by
 show K6 (std (NZ N) N) (xOf _) = _
 show some [PV.bool (cond (iLe b a) (iLe a c) false)] = _
 rw [Vn]; rfl
def Yd (d : Del) : Int :=
  cond (iLt d.type 1 || iLt 3 d.type || iLt 3 d.source || iLt 10 d.how) 3
    (cond (!btw d.runs 0 7 || !btw d.short 0 d.runs || (!(d.boundary == 0) && !(d.boundary == 4) && !(d.boundary == 6)) || !btw d.victim 0 2 || !btw d.fielder 0 11 || !btw d.second 0 11 || !btw d.sector 0 8) 2 0)
theorem VM {N : Nat} {d0 d1 d2 d3 d4 d6 d7 d8 d9 d11 : Int} {d5 d10 : Bool}  : Dw N [.int d0, .int d1, .int d2, .int d3, .int d4, .bool d5, .int d6, .int d7, .int d8, .int d9, .bool d10, .int d11] = some [.int (Yd (⟨d0, d1, d2, d3, d4, d5, d6, d7, d8, d9, d10, d11⟩ : Del))] := by
 show F9 (std (Hi N) N) (xOf _) = _
 generalize hres : (some [.int (Yd (⟨d0, d1, d2, d3, d4, d5, d6, d7, d8, d9, d10, d11⟩ : Del))] : Option (List PV)) = RR
 simp only [F9, Il, std, xOf, PXb, PXc, PXn, PXm, Nat.reduceAdd, Int.reduceBEq, Sh]
 subst hres; simp only [Yd]
def loS (k : Int) : Int := cond (k == 7) 0 (cond (k == 13) 1 0)
def hiS (k : Int) : Int := cond (k == 7) 11 (cond (k == 13) 99 100000)
theorem XZ {N : Nat} {k : Int}  : Fk N [.int k] = some [.int (loS k), .int (hiS k)] := by
 show H6 (std (O0 N) N) (xOf _) = _
 simp only [H6, std, xOf, PXb, PXc, PXn, PXm, Nat.reduceAdd, Int.reduceBEq]
 unfold loS hiS
 cases k == 7 <;> cases k == 13 <;> rfl
def uS (k : Int) : Bool := k == 1 || k == 12 || k == 14 || k == 11 || k == 13
def uP (k : Int) : Bool := k == 2 || k == 3 || k == 8 || k == 5 || k == 6 || k == 9
def uO (k : Int) : Bool := k == 2
def uY (k : Int) : Bool := k == 1 || k == 12 || k == 14 || k == 5 || k == 6 || k == 9
def uR (k : Int) : Bool := k == 7 || k == 13 || k == 15
def uV (k : Int) : Bool := k == 15
def uB (k : Int) : Bool := k == 4
theorem XU {k : Int} (h : (iLt k 1 || iLt 16 k) = false) : k = 1 ∨ k = 2 ∨ k = 3 ∨ k = 4 ∨ k = 5 ∨ k = 6 ∨ k = 7 ∨ k = 8 ∨ k = 9 ∨ k = 10 ∨ k = 11 ∨ k = 12 ∨ k = 13 ∨ k = 14 ∨ k = 15 ∨ k = 16 := by
 simp only [iLt, Bool.or_eq_false_iff, decide_eq_false_iff_not] at h
 omega
def bu : Rows := match EX 0 [] with
 | some [.rows l] => l
 | _ => []
theorem YZ {N : Nat} : EX N [] = some [.rows bu] := rfl
def Ce (k f : Int) : Bool := iLe 0 (Lib.indexByte (pvS (AJ bu (IntKind.u8.wrap (k - 1)).toNat 1)).data.toList f.toNat.toUInt8) || (k == 5 && f == 121)
theorem SP {N : Nat} {s : ByteArray} {f : Int}  : Ci N [.str s, .int f] = some [.int (Lib.indexByte s.data.toList f.toNat.toUInt8)] := by
 show EG (std (Fx N) N) (xOf _) = _
 simp only [EG, F2, std, xOf, PXb, PXc, PXn, PXm, Nat.reduceAdd, Int.reduceBEq, Bw, WS]
theorem TC {N : Nat} {k : Int} {f : Int} (h : (iLt k 1 || iLt 16 k) = false) : Hm N [.int k, .int f] = some [.bool (Ce k f)] := by
 show K2 (std (IC N) N) (xOf _) = _
 have hi : iIn (IntKind.u8.wrap (k - 1)) (bu.length : Int) = true := by
  rcases XU h with h | h | h | h | h | h | h | h | h | h | h | h | h | h | h | h <;> subst h <;> rfl
 simp only [K2, K7, Og, std, xOf, PXb, PXc, PXn, PXm, Nat.reduceAdd, Int.reduceBEq, YZ, SP, hi, Ce]
theorem fx {k : Int} (h : (iLt k 1 || iLt 16 k) = false) : Ce k 115 = uS k ∧ Ce k 112 = uP k ∧ Ce k 111 = uO k ∧ Ce k 121 = uY k ∧ Ce k 114 = uR k ∧ Ce k 118 = uV k ∧ Ce k 98 = uB k := by
 rcases XU h with h | h | h | h | h | h | h | h | h | h | h | h | h | h | h | h <;> subst h <;> exact ⟨rfl, rfl, rfl, rfl, rfl, rfl, rfl⟩
def bo (d : Del) : Bool := d.type == 0 && (d.source == 0 && (d.runs == 0 && (d.short == 0 && (d.boundary == 0 && (d.crossed == false && (d.how == 0 && (d.victim == 0 && (d.fielder == 0 && (d.second == 0 && (d.sub == false && d.sector == 0))))))))))
def ZP (e : Ev) : Bool := (!(e.side == 0) && !uS e.kind) || ((!(e.player == 0) && !uP e.kind) || ((!(e.other == 0) && !uO e.kind) || ((e.yes && !uY e.kind) || ((!(e.runs == 0) && !uR e.kind) || ((!(e.overs == 0) && !uV e.kind) || (!bo e.ball && !uB e.kind))))))
def Uw (e : Ev) : Bool := (!btw e.side 1 2 && uS e.kind) || ((!btw e.player 1 11 && uP e.kind) || ((!btw e.other 1 11 && uO e.kind) || ((!btw e.runs (loS e.kind) (hiS e.kind) && uR e.kind) || (!btw e.overs 0 90 && uV e.kind))))
def evS (e : Ev) : Int := cond (iLt e.kind 1 || iLt 16 e.kind) 3 (cond (ZP e) 1 (cond (Uw e) 2 (cond (e.kind == 4) (Yd e.ball) 0)))
def evT (e : Ev) : Rows := [[.int 115, .bool (e.side == 0), .bool (btw e.side 1 2)], [.int 112, .bool (e.player == 0), .bool (btw e.player 1 11)], [.int 111, .bool (e.other == 0), .bool (btw e.other 1 11)], [.int 121, .bool (!e.yes), .bool true], [.int 114, .bool (e.runs == 0), .bool (btw e.runs (loS e.kind) (hiS e.kind))], [.int 118, .bool (e.overs == 0), .bool (btw e.overs 0 90)], [.int 98, .bool (bo e.ball), .bool true]]
theorem R3 {N : Nat} {e0 e1 e2 e3 e5 e6 e7 e8 e9 e10 e11 e13 e14 e15 e16 e18 : Int} {e4 e12 e17 : Bool} (hN : 2097152 < N) : Ca N [.int e0, .int e1, .int e2, .int e3, .bool e4, .int e5, .int e6, .int e7, .int e8, .int e9, .int e10, .int e11, .bool e12, .int e13, .int e14, .int e15, .int e16, .bool e17, .int e18] = some [.int (evS (⟨e0, e1, e2, e3, e4, e5, e6, ⟨e7, e8, e9, e10, e11, e12, e13, e14, e15, e16, e17, e18⟩⟩ : Ev))] := by
 show Gp (std (DK N) N) (xOf _) = _
 generalize hres : (some [.int (evS (⟨e0, e1, e2, e3, e4, e5, e6, ⟨e7, e8, e9, e10, e11, e12, e13, e14, e15, e16, e17, e18⟩⟩ : Ev))] : Option (List PV)) = RR
 cases hk : iLt e0 1 || iLt 16 e0 with
 | true =>
  simp only [Gp, Gm, F6, HZ, Co, std, xOf, PXb, PXc, AE, hk, ← hres, evS]
 | false =>
  simp only [Gp, Gm, F6, HZ, Co, std, xOf, PXb, PXc, AE, hk, XZ, WB]
  subst hres
  obtain ⟨g1, g2, g3, g4, g5, g6, g7⟩ := fx hk
  refine Ac (FH (len := 7) (fun i => !pvB (AJ (evT (⟨e0, e1, e2, e3, e4, e5, e6, ⟨e7, e8, e9, e10, e11, e12, e13, e14, e15, e16, e17, e18⟩⟩ : Ev)) i 1) && !Ce e0 (pvI (AJ (evT (⟨e0, e1, e2, e3, e4, e5, e6, ⟨e7, e8, e9, e10, e11, e12, e13, e14, e15, e16, e17, e18⟩⟩ : Ev)) i 0))) [.int 1] ?_ ?_ N (by omega)) ?_
  ·intro self
   rfl
  ·intro i self hi
   simp only [PXb, PXc, AE, Am (show i ≤ 1099511627776 by omega), List.length_cons, List.length_nil, Nat.reduceAdd, BC hi, Aj hi, TC hk]
   change cond (!pvB (AJ (evT (⟨e0, e1, e2, e3, e4, e5, e6, ⟨e7, e8, e9, e10, e11, e12, e13, e14, e15, e16, e17, e18⟩⟩ : Ev)) i 1) && !(!pvB (AJ (evT (⟨e0, e1, e2, e3, e4, e5, e6, ⟨e7, e8, e9, e10, e11, e12, e13, e14, e15, e16, e17, e18⟩⟩ : Ev)) i 1) && Ce e0 (pvI (AJ (evT (⟨e0, e1, e2, e3, e4, e5, e6, ⟨e7, e8, e9, e10, e11, e12, e13, e14, e15, e16, e17, e18⟩⟩ : Ev)) i 0)))) _ _ = _
   cases pvB (AJ (evT (⟨e0, e1, e2, e3, e4, e5, e6, ⟨e7, e8, e9, e10, e11, e12, e13, e14, e15, e16, e17, e18⟩⟩ : Ev)) i 1) <;> rfl
  ·have a1 : A6 (fun i => !pvB (AJ (evT (⟨e0, e1, e2, e3, e4, e5, e6, ⟨e7, e8, e9, e10, e11, e12, e13, e14, e15, e16, e17, e18⟩⟩ : Ev)) i 1) && !Ce e0 (pvI (AJ (evT (⟨e0, e1, e2, e3, e4, e5, e6, ⟨e7, e8, e9, e10, e11, e12, e13, e14, e15, e16, e17, e18⟩⟩ : Ev)) i 0))) 7 0 = ZP (⟨e0, e1, e2, e3, e4, e5, e6, ⟨e7, e8, e9, e10, e11, e12, e13, e14, e15, e16, e17, e18⟩⟩ : Ev) := by
    simp only [Bf, Ha]
    change (!(e1 == 0) && !Ce e0 115 || (!(e2 == 0) && !Ce e0 112 || (!(e3 == 0) && !Ce e0 111 || (!(!e4) && !Ce e0 121 || (!(e5 == 0) && !Ce e0 114 || (!(e6 == 0) && !Ce e0 118 || (!(bo (⟨e0, e1, e2, e3, e4, e5, e6, ⟨e7, e8, e9, e10, e11, e12, e13, e14, e15, e16, e17, e18⟩⟩ : Ev).ball) && !Ce e0 98 || false))))))) = _
    rw [g1, g2, g3, g4, g5, g6, g7, Bool.not_not, Bool.or_false]
    rfl
   rw [a1]
   simp only [evS, hk, cond_false]
   cases ZP (⟨e0, e1, e2, e3, e4, e5, e6, ⟨e7, e8, e9, e10, e11, e12, e13, e14, e15, e16, e17, e18⟩⟩ : Ev) with
   | true => rfl
   | false =>
    simp only [PXb, PXc, AE]
    refine Ac (FH (len := 7) (fun i => !pvB (AJ (evT (⟨e0, e1, e2, e3, e4, e5, e6, ⟨e7, e8, e9, e10, e11, e12, e13, e14, e15, e16, e17, e18⟩⟩ : Ev)) i 2) && Ce e0 (pvI (AJ (evT (⟨e0, e1, e2, e3, e4, e5, e6, ⟨e7, e8, e9, e10, e11, e12, e13, e14, e15, e16, e17, e18⟩⟩ : Ev)) i 0))) [.int 2] ?_ ?_ N (by omega)) ?_
    ·intro self
     rfl
    ·intro i self hi
     simp only [PXb, PXc, AE, Am (show i ≤ 1099511627776 by omega), List.length_cons, List.length_nil, Nat.reduceAdd, BC hi, Aj hi, TC hk]
     rfl
    ·have a2 : A6 (fun i => !pvB (AJ (evT (⟨e0, e1, e2, e3, e4, e5, e6, ⟨e7, e8, e9, e10, e11, e12, e13, e14, e15, e16, e17, e18⟩⟩ : Ev)) i 2) && Ce e0 (pvI (AJ (evT (⟨e0, e1, e2, e3, e4, e5, e6, ⟨e7, e8, e9, e10, e11, e12, e13, e14, e15, e16, e17, e18⟩⟩ : Ev)) i 0))) 7 0 = Uw (⟨e0, e1, e2, e3, e4, e5, e6, ⟨e7, e8, e9, e10, e11, e12, e13, e14, e15, e16, e17, e18⟩⟩ : Ev) := by
      simp only [Bf, Ha]
      change (!(btw e1 1 2) && Ce e0 115 || (!(btw e2 1 11) && Ce e0 112 || (!(btw e3 1 11) && Ce e0 111 || (!true && Ce e0 121 || (!(btw e5 (loS e0) (hiS e0)) && Ce e0 114 || (!(btw e6 0 90) && Ce e0 118 || (!true && Ce e0 98 || false))))))) = _
      rw [g1, g2, g3, g4, g5, g6, g7]
      simp only [Bool.not_true, Bool.false_and, Bool.false_or, Bool.or_false]
      rfl
     rw [a2]
     cases Uw (⟨e0, e1, e2, e3, e4, e5, e6, ⟨e7, e8, e9, e10, e11, e12, e13, e14, e15, e16, e17, e18⟩⟩ : Ev) with
     | true => rfl
     | false =>
      simp only [PXb, PXc, PXn, PXm, Nat.reduceAdd, Int.reduceBEq, Co, VM]
theorem c4 {c x x' y y' : Bool} {a b d z z' : Int} (h1 : x = x') (h2 : y = y') (h3 : z = z') : (some [PV.int (cond c a (cond x b (cond y d z)))] : Option (List PV)) = some [PV.int (cond c a (cond x' b (cond y' d z')))] := by subst h1; subst h2; subst h3; rfl
end Go.Px
end
