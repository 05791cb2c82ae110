/- Part 11. -/
import Derived.Test.YtopmcbahdgfleaaGreatPart07
import Derived.Test.YtopmcbahdgfleaaGreatPart10
set_option linter.unusedVariables false
set_option linter.unusedSimpArgs false
section
namespace Go.Px
def AR (xs : List Inn) : Rows := xs.map Inn.ls
def dI : Inn := ⟨0, 0, 0, 0, 0, 0, 0, 0, 0, 0, 0, 0, 0, 0, [], 0, [], [], false, [], false, 0, 0, 0, [], 0, 0, 0⟩
def inn (xs : List Inn) (i : Nat) : Inn := xs.getD i dI
structure Mat where
 rules : Rul
 stage : Int
 first : Int
 follow : Bool
 inns : List Inn
 pen1 : Int
 pen2 : Int
 win : Int
 wside : Int
 margin : Int
def Mat.ls (m : Mat) : List PV := [.str m.rules.name, .int m.rules.side, .int m.rules.innings, .int m.rules.overs, .int m.rules.balls, .int m.rules.quota, .int m.rules.wide, .int m.rules.noball, .bool m.rules.freehit, .int m.rules.newball, .int m.rules.followon, .int m.rules.reviews, .int m.rules.outside, .rows m.rules.power, .int m.stage, .int m.first, .bool m.follow, .rows (AR m.inns), .int m.pen1, .int m.pen2, .int m.win, .int m.wside, .int m.margin]
def Kc (x : Mat × Int) : List PV := [.str x.1.rules.name, .int x.1.rules.side, .int x.1.rules.innings, .int x.1.rules.overs, .int x.1.rules.balls, .int x.1.rules.quota, .int x.1.rules.wide, .int x.1.rules.noball, .bool x.1.rules.freehit, .int x.1.rules.newball, .int x.1.rules.followon, .int x.1.rules.reviews, .int x.1.rules.outside, .rows x.1.rules.power, .int x.1.stage, .int x.1.first, .bool x.1.follow, .rows (AR x.1.inns), .int x.1.pen1, .int x.1.pen2, .int x.1.win, .int x.1.wside, .int x.1.margin, .int x.2]
theorem XS (xs : List Inn) (i : Nat) : A8 (AR xs) i = (match xs[i]? with | some s => s.ls | none => []) := by
 unfold A8 AR
 rw [List.getD_eq_getElem?_getD, List.getElem?_map]
 cases xs[i]? <;> rfl
theorem OW (xs : List Inn) (i : Nat) : inn xs i = (match xs[i]? with | some s => s | none => dI) := by
 unfold inn
 rw [List.getD_eq_getElem?_getD]
 cases xs[i]? <;> rfl
theorem VY (xs : List Inn) : (AR xs).length = xs.length := List.length_map _
theorem PXi : (∀ xs : List Inn, (AR xs).length = xs.length) ∧ (∀ (xs : List Inn) (i : Nat), pvI (AJ (AR xs) i 0) = (inn xs i).side) ∧ (∀ (xs : List Inn) (i : Nat), pvI (AJ (AR xs) i 1) = (inn xs i).target) ∧ (∀ (xs : List Inn) (i : Nat), pvI (AJ (AR xs) i 2) = (inn xs i).overs) ∧ (∀ (xs : List Inn) (i : Nat), pvI (AJ (AR xs) i 3) = (inn xs i).runs) ∧
    (∀ (xs : List Inn) (i : Nat), pvI (AJ (AR xs) i 4) = (inn xs i).wickets) ∧ (∀ (xs : List Inn) (i : Nat), pvI (AJ (AR xs) i 5) = (inn xs i).wides) ∧ (∀ (xs : List Inn) (i : Nat), pvI (AJ (AR xs) i 6) = (inn xs i).noballs) ∧ (∀ (xs : List Inn) (i : Nat), pvI (AJ (AR xs) i 7) = (inn xs i).byes) ∧ (∀ (xs : List Inn) (i : Nat), pvI (AJ (AR xs) i 8) = (inn xs i).legbyes) ∧
    (∀ (xs : List Inn) (i : Nat), pvI (AJ (AR xs) i 9) = (inn xs i).pens) ∧ (∀ (xs : List Inn) (i : Nat), pvI (AJ (AR xs) i 10) = (inn xs i).complete) ∧ (∀ (xs : List Inn) (i : Nat), pvI (AJ (AR xs) i 11) = (inn xs i).inover) ∧ (∀ (xs : List Inn) (i : Nat), pvI (AJ (AR xs) i 12) = (inn xs i).striker) ∧ (∀ (xs : List Inn) (i : Nat), pvI (AJ (AR xs) i 13) = (inn xs i).other) ∧
    (∀ (xs : List Inn) (i : Nat), pvL (AJ (AR xs) i 14) = (inn xs i).batters) ∧ (∀ (xs : List Inn) (i : Nat), pvI (AJ (AR xs) i 15) = (inn xs i).bowler) ∧ (∀ (xs : List Inn) (i : Nat), pvL (AJ (AR xs) i 16) = (inn xs i).bowlers) ∧ (∀ (xs : List Inn) (i : Nat), pvL (AJ (AR xs) i 17) = (inn xs i).before) ∧ (∀ (xs : List Inn) (i : Nat), pvB (AJ (AR xs) i 18) = (inn xs i).fresh) ∧
    (∀ (xs : List Inn) (i : Nat), pvL (AJ (AR xs) i 19) = (inn xs i).bowled) ∧ (∀ (xs : List Inn) (i : Nat), pvB (AJ (AR xs) i 20) = (inn xs i).freehit) ∧ (∀ (xs : List Inn) (i : Nat), pvI (AJ (AR xs) i 21) = (inn xs i).ballage) ∧ (∀ (xs : List Inn) (i : Nat), pvI (AJ (AR xs) i 22) = (inn xs i).keeper) ∧ (∀ (xs : List Inn) (i : Nat), pvI (AJ (AR xs) i 23) = (inn xs i).outside) ∧
    (∀ (xs : List Inn) (i : Nat), pvL (AJ (AR xs) i 24) = (inn xs i).subs) ∧ (∀ (xs : List Inn) (i : Nat), pvI (AJ (AR xs) i 25) = (inn xs i).rev1) ∧ (∀ (xs : List Inn) (i : Nat), pvI (AJ (AR xs) i 26) = (inn xs i).rev2) ∧ (∀ (xs : List Inn) (i : Nat), pvI (AJ (AR xs) i 27) = (inn xs i).ending) := by
  refine ⟨VY, ?_, ?_, ?_, ?_, ?_, ?_, ?_, ?_, ?_, ?_, ?_, ?_, ?_, ?_, ?_, ?_, ?_, ?_, ?_, ?_, ?_, ?_, ?_, ?_, ?_, ?_, ?_, ?_⟩
  all_goals (intro xs i; rw [OW]; unfold AJ; rw [XS]; cases xs[i]? <;> rfl)
theorem Mat.eta (m : Mat) : Mat.mk m.rules m.stage m.first m.follow m.inns m.pen1 m.pen2 m.win m.wside m.margin = m := rfl
theorem PXk : (∀ m : Mat, m.ls = [.str m.rules.name, .int m.rules.side, .int m.rules.innings, .int m.rules.overs, .int m.rules.balls, .int m.rules.quota, .int m.rules.wide, .int m.rules.noball, .bool m.rules.freehit, .int m.rules.newball, .int m.rules.followon, .int m.rules.reviews, .int m.rules.outside, .rows m.rules.power, .int m.stage, .int m.first, .bool m.follow, .rows (AR m.inns), .int m.pen1, .int m.pen2, .int m.win, .int m.wside, .int m.margin]) ∧
    (∀ x : Mat × Int, Kc x = [.str x.1.rules.name, .int x.1.rules.side, .int x.1.rules.innings, .int x.1.rules.overs, .int x.1.rules.balls, .int x.1.rules.quota, .int x.1.rules.wide, .int x.1.rules.noball, .bool x.1.rules.freehit, .int x.1.rules.newball, .int x.1.rules.followon, .int x.1.rules.reviews, .int x.1.rules.outside, .rows x.1.rules.power, .int x.1.stage, .int x.1.first, .bool x.1.follow, .rows (AR x.1.inns), .int x.1.pen1, .int x.1.pen2, .int x.1.win, .int x.1.wside, .int x.1.margin, .int x.2]) ∧
    (∀ m : Mat, Mat.mk m.rules m.stage m.first m.follow m.inns m.pen1 m.pen2 m.win m.wside m.margin = m) := ⟨fun _ => rfl, fun _ => rfl, fun _ => rfl⟩
theorem az : ∀ (ps r pre : List PV), r.length = ps.length → B4 (pre ++ r) pre.length ps = pre ++ ps
 | [], r, pre, h => by
  have : r = [] := List.eq_nil_of_length_eq_zero h
  subst this
  rfl
 | p :: ps, [], pre, h => by cases h
 | p :: ps, a :: r, pre, h => by
  have ih := az ps r (pre ++ [p]) (by simpa using h)
  simp only [List.length_append, List.length_cons, List.length_nil, List.append_assoc, List.cons_append, List.nil_append] at ih
  unfold B4
  rw [List.set_append_right _ _ (Nat.le_refl _), Nat.sub_self]
  exact ih
theorem f6 (a s : Inn) : B4 a.ls 0 s.ls = s.ls := az s.ls a.ls [] rfl
theorem fk (a : Inn) (e : Int) : B4 a.ls 27 [.int e] = Inn.ls { a with ending := e } := by
 show a.ls.set 27 (.int e) = _
 rfl
theorem fo {xs : List Inn} {i : Nat} (h : i < xs.length) (s : Inn) : (AR xs).set i (B4 (A8 (AR xs) i) 0 s.ls) = AR (xs.set i s) := by
 have e : A8 (AR xs) i = (xs[i]).ls := by rw [XS, List.getElem?_eq_getElem h]
 rw [e, f6]
 exact List.map_set.symm
theorem fq {xs : List Inn} {i : Nat} (h : i < xs.length) (e : Int) : (AR xs).set i (B4 (A8 (AR xs) i) 27 [.int e]) = AR (xs.set i { inn xs i with ending := e }) := by
 have e1 : A8 (AR xs) i = (inn xs i).ls := by rw [XS, OW, List.getElem?_eq_getElem h]
 rw [e1, fk]
 exact List.map_set.symm
theorem fR (xs : List Inn) (s : Inn) : AR xs ++ [s.ls] = AR (xs ++ [s]) := by
 show List.map Inn.ls xs ++ List.map Inn.ls [s] = List.map Inn.ls (xs ++ [s])
 exact List.map_append.symm
theorem fU (xs : List Inn) (i : Nat) (s : Inn) : (AR xs).set i (B4 (A8 (AR xs) i) 0 s.ls) = AR (xs.set i s) := by
 by_cases h : i < xs.length
 ·exact fo h s
 ·rw [List.set_eq_of_length_le (by rw [VY]; omega), List.set_eq_of_length_le (by omega)]
theorem aE (xs : List Inn) (i : Nat) (e : Int) : (AR xs).set i (B4 (A8 (AR xs) i) 27 [.int e]) = AR (xs.set i { inn xs i with ending := e }) := by
 by_cases h : i < xs.length
 ·exact fq h e
 ·rw [List.set_eq_of_length_le (by rw [VY]; omega), List.set_eq_of_length_le (by omega)]
theorem PXr : (∀ (xs : List Inn) (x0 x1 x2 x3 x4 x5 x6 x7 x8 x9 x10 x11 x12 x13 x15 x21 x22 x23 x25 x26 x27 : Int) (x18 x20 : Bool) (x14 x16 x17 x19 x24 : Rows), AR xs ++ [([.int x0, .int x1, .int x2, .int x3, .int x4, .int x5, .int x6, .int x7, .int x8, .int x9, .int x10, .int x11, .int x12, .int x13, .rows x14, .int x15, .rows x16, .rows x17, .bool x18, .rows x19, .bool x20, .int x21, .int x22, .int x23, .rows x24, .int x25, .int x26, .int x27] : List PV)] = AR (xs ++ [⟨x0, x1, x2, x3, x4, x5, x6, x7, x8, x9, x10, x11, x12, x13, x14, x15, x16, x17, x18, x19, x20, x21, x22, x23, x24, x25, x26, x27⟩])) ∧ (∀ (xs : List Inn) (i : Nat) (x0 x1 x2 x3 x4 x5 x6 x7 x8 x9 x10 x11 x12 x13 x15 x21 x22 x23 x25 x26 x27 : Int) (x18 x20 : Bool) (x14 x16 x17 x19 x24 : Rows), (AR xs).set i (B4 (A8 (AR xs) i) 0 [.int x0, .int x1, .int x2, .int x3, .int x4, .int x5, .int x6, .int x7, .int x8, .int x9, .int x10, .int x11, .int x12, .int x13, .rows x14, .int x15, .rows x16, .rows x17, .bool x18, .rows x19, .bool x20, .int x21, .int x22, .int x23, .rows x24, .int x25, .int x26, .int x27]) = AR (xs.set i ⟨x0, x1, x2, x3, x4, x5, x6, x7, x8, x9, x10, x11, x12, x13, x14, x15, x16, x17, x18, x19, x20, x21, x22, x23, x24, x25, x26, x27⟩)) ∧
    (∀ (xs : List Inn) (i : Nat) (e : Int), (AR xs).set i (B4 (A8 (AR xs) i) 27 [.int e]) = AR (xs.set i { inn xs i with ending := e })) :=
  ⟨fun xs x0 x1 x2 x3 x4 x5 x6 x7 x8 x9 x10 x11 x12 x13 x15 x21 x22 x23 x25 x26 x27 x18 x20 x14 x16 x17 x19 x24 => fR xs ⟨x0, x1, x2, x3, x4, x5, x6, x7, x8, x9, x10, x11, x12, x13, x14, x15, x16, x17, x18, x19, x20, x21, x22, x23, x24, x25, x26, x27⟩, fun xs i x0 x1 x2 x3 x4 x5 x6 x7 x8 x9 x10 x11 x12 x13 x15 x21 x22 x23 x25 x26 x27 x18 x20 x14 x16 x17 x19 x24 => fU xs i ⟨x0, x1, x2, x3, x4, x5, x6, x7, x8, x9, x10, x11, x12, x13, x14, x15, x16, x17, x18, x19, x20, x21, x22, x23, x24, x25, x26, x27⟩, aE⟩
end Go.Px
end
section
namespace Go.Px
set_option maxRecDepth 100000
def C1 (n : Int) : Int := IntKind.i64.wrap (3 - n)
theorem Gr {N : Nat} {n : Int}  : A0 N [.int n] = some [.int (C1 n)] := by
 show JF (std (PI N) N) (xOf _) = _
 simp only [JF, std, xOf, PXb, PXc, PXn, PXm, Nat.reduceAdd, Int.reduceBEq, C1]
def GX (m : Mat) (i : Int) : Int := cond (cond (m.follow && iLe 2 i) (i == 2) (i.tmod 2 == 1)) (C1 m.first) m.first
theorem Mp {N : Nat} {m1 m2 m3 m4 m5 m6 m7 m9 m10 m11 m12 m14 m15 m18 m19 m20 m21 m22 : Int} {m8 m16 : Bool} {m0 : ByteArray} {m13 : Rows} {m17 : List Inn} {i : Int}  : CV N [.str m0, .int m1, .int m2, .int m3, .int m4, .int m5, .int m6, .int m7, .bool m8, .int m9, .int m10, .int m11, .int m12, .rows m13, .int m14, .int m15, .bool m16, .rows (AR m17), .int m18, .int m19, .int m20, .int m21, .int m22, .int i] = some [.int (GX (⟨⟨m0, m1, m2, m3, m4, m5, m6, m7, m8, m9, m10, m11, m12, m13⟩, m14, m15, m16, m17, m18, m19, m20, m21, m22⟩ : Mat) i)] := by
 show JJ (std (K3 N) N) (xOf _) = _
 generalize hres : (some [.int (GX (⟨⟨m0, m1, m2, m3, m4, m5, m6, m7, m8, m9, m10, m11, m12, m13⟩, m14, m15, m16, m17, m18, m19, m20, m21, m22⟩ : Mat) i)] : Option (List PV)) = RR
 simp only [JJ, NY, std, xOf, PXb, PXc, PXn, PXm, Nat.reduceAdd, Int.reduceBEq, Gr]
 subst hres; simp only [GX]
def Ml (xs : List Inn) (side : Int) : Nat → Int
 | 0 => 0
 | i + 1 => cond ((inn xs i).side == side) (IntKind.i64.wrap (Ml xs side i + (inn xs i).runs)) (Ml xs side i)
def CG (m : Mat) (side : Int) : Int := Ml m.inns side m.inns.length
theorem M9 {N : Nat} {m1 m2 m3 m4 m5 m6 m7 m9 m10 m11 m12 m14 m15 m18 m19 m20 m21 m22 : Int} {m8 m16 : Bool} {m0 : ByteArray} {m13 : Rows} {m17 : List Inn} {n : Int} (hN : 2097152 < N) (hl : m17.length ≤ 1048576) : BU N [.str m0, .int m1, .int m2, .int m3, .int m4, .int m5, .int m6, .int m7, .bool m8, .int m9, .int m10, .int m11, .int m12, .rows m13, .int m14, .int m15, .bool m16, .rows (AR m17), .int m18, .int m19, .int m20, .int m21, .int m22, .int n] = some [.int (CG (⟨⟨m0, m1, m2, m3, m4, m5, m6, m7, m8, m9, m10, m11, m12, m13⟩, m14, m15, m16, m17, m18, m19, m20, m21, m22⟩ : Mat) n)] := by
 show JD (std (Pt N) N) (xOf _) = _
 generalize hres : (some [.int (CG (⟨⟨m0, m1, m2, m3, m4, m5, m6, m7, m8, m9, m10, m11, m12, m13⟩, m14, m15, m16, m17, m18, m19, m20, m21, m22⟩ : Mat) n)] : Option (List PV)) = RR
 simp only [JD, std, xOf, PXb, PXi]
 subst hres; simp only [CG]
 refine Ac (Jf (len := m17.length) (fun i => [.int (Ml m17 n i), .int (i : Int)]) [.int (Ml m17 n m17.length)] ?_ ?_ N (by omega)) rfl
 ·intro self
  simp only [PXb, PXc, PXn, AE, BV]
 ·intro i self hi
  simp only [PXb, PXc, AE, Al (show i ≤ 1099511627776 by omega), BC hi, Ag hi, PXi, Ml]
  cases (inn m17 i).side == n <;> rfl
def IK (m : Mat) (side : Int) : Int :=
 cond (iLt (IntKind.i64.wrap ((m.inns.length : Int) + 1)) (IntKind.i64.wrap (2 * m.rules.innings))) 0 (IntKind.i64.wrap (IntKind.i64.wrap (CG m (C1 side) - CG m side) + 1))
theorem Q1 {N : Nat} {m1 m2 m3 m4 m5 m6 m7 m9 m10 m11 m12 m14 m15 m18 m19 m20 m21 m22 : Int} {m8 m16 : Bool} {m0 : ByteArray} {m13 : Rows} {m17 : List Inn} {n : Int} (hN : 2097152 < N) (hl : m17.length ≤ 1048576) : FV N [.str m0, .int m1, .int m2, .int m3, .int m4, .int m5, .int m6, .int m7, .bool m8, .int m9, .int m10, .int m11, .int m12, .rows m13, .int m14, .int m15, .bool m16, .rows (AR m17), .int m18, .int m19, .int m20, .int m21, .int m22, .int n] = some [.int (IK (⟨⟨m0, m1, m2, m3, m4, m5, m6, m7, m8, m9, m10, m11, m12, m13⟩, m14, m15, m16, m17, m18, m19, m20, m21, m22⟩ : Mat) n)] := by
 show H2 (std (GK N) N) (xOf _) = _
 generalize hres : (some [.int (IK (⟨⟨m0, m1, m2, m3, m4, m5, m6, m7, m8, m9, m10, m11, m12, m13⟩, m14, m15, m16, m17, m18, m19, m20, m21, m22⟩ : Mat) n)] : Option (List PV)) = RR
 simp only [H2, M2, M1, std, xOf, PXb, PXc, PXn, PXm, Nat.reduceAdd, Int.reduceBEq, PXi, Gr, M9 hN hl]
 subst hres; simp only [IK]
def Vv (stage : Int) (xs : List Inn) (i : Nat) : Bool := !(((inn xs i).ending == 0) == (stage == 3 && ((i : Int) == IntKind.i64.wrap ((xs.length : Int) - 1))))
def Td (m : Mat) : Bool := !A6 (Vv m.stage m.inns) m.inns.length 0 && (!(m.stage == 3) || iLt 0 (m.inns.length : Int))
theorem YH {N : Nat} {m1 m2 m3 m4 m5 m6 m7 m9 m10 m11 m12 m14 m15 m18 m19 m20 m21 m22 : Int} {m8 m16 : Bool} {m0 : ByteArray} {m13 : Rows} {m17 : List Inn} (hN : 2097152 < N) (hl : m17.length ≤ 1048576) : Gk N [.str m0, .int m1, .int m2, .int m3, .int m4, .int m5, .int m6, .int m7, .bool m8, .int m9, .int m10, .int m11, .int m12, .rows m13, .int m14, .int m15, .bool m16, .rows (AR m17), .int m18, .int m19, .int m20, .int m21, .int m22] = some [.bool (Td (⟨⟨m0, m1, m2, m3, m4, m5, m6, m7, m8, m9, m10, m11, m12, m13⟩, m14, m15, m16, m17, m18, m19, m20, m21, m22⟩ : Mat))] := by
 show JS (std (PL N) N) (xOf _) = _
 generalize hres : (some [.bool (Td (⟨⟨m0, m1, m2, m3, m4, m5, m6, m7, m8, m9, m10, m11, m12, m13⟩, m14, m15, m16, m17, m18, m19, m20, m21, m22⟩ : Mat))] : Option (List PV)) = RR
 simp only [JS, std, xOf, PXb, PXi]
 subst hres; simp only [Td]
 refine Ac (FD (len := m17.length) (Vv m14 m17) [.bool false] ?_ ?_ N (by omega)) ?_
 ·intro self
  simp only [PXb, PXc, PXn, AE, BV]
 ·intro i self hi
  simp only [PXb, PXc, AE, Al (show i ≤ 1099511627776 by omega), BC hi, Ag hi, PXi, Vv]
 ·cases A6 (Vv m14 m17) m17.length 0 with
  | true => rfl
  | false => simp only [PXb, PXc, PXn, PXm, Nat.reduceAdd, Int.reduceBEq]
end Go.Px
end
section
namespace Go.Px
set_option maxRecDepth 100000
def G5 (xs : List Inn) : Prop := ∀ i, i < xs.length → (inn xs i).Fit
theorem SF {N : Nat} {r1 r2 r3 r4 r5 r6 r7 r9 r10 r11 r12 : Int} {r8 : Bool} {r0 : ByteArray} {r13 : Rows} (hl : r13.length ≤ 1048576) : Ca N [.str r0, .int r1, .int r2, .int r3, .int r4, .int r5, .int r6, .int r7, .bool r8, .int r9, .int r10, .int r11, .int r12, .rows r13] = some [.str r0, .int r1, .int r2, .int r3, .int r4, .int r5, .int r6, .int r7, .bool r8, .int r9, .int r10, .int r11, .int r12, .rows r13] := by
 show JC (std (Kq N) N) (xOf _) = _
 simp only [JC, Jc, std, xOf, PXb, PXc, PXn, PXm, Nat.reduceAdd, Int.reduceBEq, CO, BG hl (show 24 ≤ 4096 by omega)]
theorem YK {xs : List Inn} {i : Nat} (h : i < xs.length) : xs.take i ++ [inn xs i] = xs.take (i + 1) := by
 rw [List.take_add_one, OW, List.getElem?_eq_getElem h]
 rfl
theorem YT {N : Nat} {m1 m2 m3 m4 m5 m6 m7 m9 m10 m11 m12 m14 m15 m18 m19 m20 m21 m22 : Int} {m8 m16 : Bool} {m0 : ByteArray} {m13 : Rows} {m17 : List Inn} (hf : G5 m17) (hN : 2097152 < N) (hl : m17.length ≤ 1000000) (h13 : m13.length ≤ 1048576) : Gd N [.str m0, .int m1, .int m2, .int m3, .int m4, .int m5, .int m6, .int m7, .bool m8, .int m9, .int m10, .int m11, .int m12, .rows m13, .int m14, .int m15, .bool m16, .rows (AR m17), .int m18, .int m19, .int m20, .int m21, .int m22] = some [.str m0, .int m1, .int m2, .int m3, .int m4, .int m5, .int m6, .int m7, .bool m8, .int m9, .int m10, .int m11, .int m12, .rows m13, .int m14, .int m15, .bool m16, .rows (AR m17), .int m18, .int m19, .int m20, .int m21, .int m22] := by
 show JN (std (HC N) N) (xOf _) = _
 simp only [JN, F5, Nr, std, xOf, PXb, SF h13, PXi]
 refine Ac (Jf (len := m17.length) (fun i => [.rows (AR (m17.take i)), .int (i : Int)]) [.rows (AR m17)] ?_ ?_ N (by omega)) rfl
 ·intro self
  simp only [PXb, PXc, PXn, AE, BV, List.take_length]
 ·intro i self hi
  have h2 : (m17.take (i + 1)).length ≤ 1048576 := by rw [List.length_take]; omega
  have h3 : iSm ((m17.take (i + 1)).length : Int) 304 = true := Ku (by omega) (by omega)
  simp only [PXb, PXc, AE, Al (show i ≤ 1099511627776 by omega), BC hi, Ag hi, PXi, F5, Bi (hf i hi), PXr, Inn.eta, h3, YK hi, Nat.reduceAdd]
  rfl
def ga : Rul := ⟨⟨#[]⟩, 0, 0, 0, 0, 0, 0, 0, false, 0, 0, 0, 0, []⟩
def PH : Mat := ⟨ga, 0, 0, false, [], 0, 0, 0, 0, 0⟩
def B7 (r : Rul) : Mat × Int := cond (!(A9 r == 0)) (PH, A9 r) (⟨r, 1, 0, false, [], 0, 0, 0, 0, 0⟩, 0)
theorem ae {N : Nat} {r1 r2 r3 r4 r5 r6 r7 r9 r10 r11 r12 : Int} {r8 : Bool} {r0 : ByteArray} {r13 : Rows} (hN : 2097152 < N) (hs : r0.size ≤ 1048576) (h13 : r13.length ≤ 1048576) : L7 N [.str r0, .int r1, .int r2, .int r3, .int r4, .int r5, .int r6, .int r7, .bool r8, .int r9, .int r10, .int r11, .int r12, .rows r13] = some (Kc (B7 (⟨r0, r1, r2, r3, r4, r5, r6, r7, r8, r9, r10, r11, r12, r13⟩ : Rul))) := by
 show MD (std (JI N) N) (xOf _) = _
 generalize hres : (some (Kc (B7 (⟨r0, r1, r2, r3, r4, r5, r6, r7, r8, r9, r10, r11, r12, r13⟩ : Rul))) : Option (List PV)) = RR
 simp only [MD, O7, PD, std, xOf, PXb, PXc, PXn, PXm, Nat.reduceAdd, Int.reduceBEq, CB hN hs, SF h13]
 subst hres; simp only [B7]
 cases A9 (⟨r0, r1, r2, r3, r4, r5, r6, r7, r8, r9, r10, r11, r12, r13⟩ : Rul) == 0 <;> rfl
def Y0 (m : Mat) : Bool := (iLt m.pen1 0 || iLt 1000000 m.pen1) || (iLt m.pen2 0 || iLt 1000000 m.pen2)
def S4 (m : Mat) (i : Nat) : Bool := !I1 m.rules (inn m.inns i) || !((inn m.inns i).side == GX m (i : Int))
def bK (m : Mat) : Bool :=
  let n : Int := m.inns.length
  let most := IntKind.i64.wrap (2 * m.rules.innings)
  A9 m.rules == 0 && (!(iLt m.stage 1) && (!(iLt 5 m.stage) && (!Y0 m && (!(iLt m.first 0 || iLt 2 m.first || iLt most n) && (!(m.first == 0 && (iLt 0 n || (!(m.stage == 1) && !(m.stage == 5)))) &&
    (!(m.stage == 1 && !(m.first == 0)) && (!(m.stage == 2 && n == most) && (!(m.stage == 4 && (!(m.rules.innings == 2) || !(n == 2))) && !(m.follow && (!(m.rules.innings == 2) || iLt n 2))))))))))
def Gj (m : Mat) : Bool := bK m && (!A6 (S4 m) m.inns.length 0 && Td m)
set_option maxHeartbeats 4000000 in
theorem Rx {N : Nat} {m1 m2 m3 m4 m5 m6 m7 m9 m10 m11 m12 m14 m15 m18 m19 m20 m21 m22 : Int} {m8 m16 : Bool} {m0 : ByteArray} {m13 : Rows} {m17 : List Inn} (hf : G5 m17) (hN : 2097152 < N) (hl : m17.length ≤ 1000000) (hs : m0.size ≤ 1048576) : CZ N [.str m0, .int m1, .int m2, .int m3, .int m4, .int m5, .int m6, .int m7, .bool m8, .int m9, .int m10, .int m11, .int m12, .rows m13, .int m14, .int m15, .bool m16, .rows (AR m17), .int m18, .int m19, .int m20, .int m21, .int m22] = some [.bool (Gj (⟨⟨m0, m1, m2, m3, m4, m5, m6, m7, m8, m9, m10, m11, m12, m13⟩, m14, m15, m16, m17, m18, m19, m20, m21, m22⟩ : Mat))] := by
 show I8 (std (DI N) N) (xOf _) = _
 generalize hres : (some [.bool (Gj (⟨⟨m0, m1, m2, m3, m4, m5, m6, m7, m8, m9, m10, m11, m12, m13⟩, m14, m15, m16, m17, m18, m19, m20, m21, m22⟩ : Mat))] : Option (List PV)) = RR
 simp only [I8, F4, Nd, HJ, HN, std, xOf, PXb, CB hN hs, PXi]
 subst hres; simp only [Gj, bK]
 cases hc : A9 (⟨⟨m0, m1, m2, m3, m4, m5, m6, m7, m8, m9, m10, m11, m12, m13⟩, m14, m15, m16, m17, m18, m19, m20, m21, m22⟩ : Mat).rules == 0 <;> (try rfl)
 cases h1 : iLt m14 1 <;> (try rfl)
 cases h5 : iLt 5 m14 <;> (try rfl)
 simp only [PXb]
 refine Ac (FD (len := 2) (fun i => iLt (cond ((i : Int) == 1) m19 m18) 0 || iLt 1000000 (cond ((i : Int) == 1) m19 m18)) [.bool false] ?_ ?_ N (by omega)) ?_
 ·intro self
  rfl
 ·intro i self hi
  simp only [PXb, Al (show i ≤ 1099511627776 by omega), show iLt (i : Int) 2 = true from BC (len := 2) hi, show iIn (i : Int) 2 = true from Ag (len := 2) hi]
 ·have hp : A6 (fun i => iLt (cond ((i : Int) == 1) m19 m18) 0 || iLt 1000000 (cond ((i : Int) == 1) m19 m18)) 2 0 = Y0 (⟨⟨m0, m1, m2, m3, m4, m5, m6, m7, m8, m9, m10, m11, m12, m13⟩, m14, m15, m16, m17, m18, m19, m20, m21, m22⟩ : Mat) := by
   simp only [Bf, Hv, Bool.or_false]
   rfl
  rw [hp]
  cases Y0 (⟨⟨m0, m1, m2, m3, m4, m5, m6, m7, m8, m9, m10, m11, m12, m13⟩, m14, m15, m16, m17, m18, m19, m20, m21, m22⟩ : Mat)
  case true => rfl
  simp only [PXb, I2, Int.reduceBEq]
  cases iLt m15 0 <;> try rfl
  cases iLt 2 m15 <;> try rfl
  cases iLt (IntKind.i64.wrap (2 * m2)) (m17.length : Int) <;> try rfl
  cases (m15 == 0 && (iLt 0 (m17.length : Int) || (!(m14 == 1) && !(m14 == 5)))) <;> try rfl
  cases (m14 == 1 && !(m15 == 0)) <;> try rfl
  cases (m14 == 2 && (m17.length : Int) == IntKind.i64.wrap (2 * m2)) <;> try rfl
  cases (m14 == 4 && (!(m2 == 2) || !((m17.length : Int) == 2))) <;> try rfl
  cases (m16 && (!(m2 == 2) || iLt (m17.length : Int) 2)) <;> try rfl
  simp only [PXb]
  refine Ac (FD (len := m17.length) (S4 (⟨⟨m0, m1, m2, m3, m4, m5, m6, m7, m8, m9, m10, m11, m12, m13⟩, m14, m15, m16, m17, m18, m19, m20, m21, m22⟩ : Mat)) [.bool false] ?_ ?_ N (by omega)) ?_
  ·intro self
   simp only [PXb, PXc, PXn, AE, BV]
  ·intro i self hi
   simp only [PXb, PXc, PXn, PXm, Nat.reduceAdd, Int.reduceBEq, Al (show i ≤ 1099511627776 by omega), BC hi, Ag hi, PXi, F4, HJ, PP (hf i hi) hN hs, Mp, S4]
   cases I1 (⟨⟨m0, m1, m2, m3, m4, m5, m6, m7, m8, m9, m10, m11, m12, m13⟩, m14, m15, m16, m17, m18, m19, m20, m21, m22⟩ : Mat).rules (inn m17 i) <;> first | rfl | simp only [PXb, PXc, PXn, PXm, Nat.reduceAdd, Int.reduceBEq]
  ·cases A6 (S4 (⟨⟨m0, m1, m2, m3, m4, m5, m6, m7, m8, m9, m10, m11, m12, m13⟩, m14, m15, m16, m17, m18, m19, m20, m21, m22⟩ : Mat)) m17.length 0
   case true => rfl
   simp only [PXb, PXc, PXn, PXm, Nat.reduceAdd, Int.reduceBEq, HN, YH hN (show m17.length ≤ 1048576 by omega)]
end Go.Px
end
section
namespace Go.Px
set_option maxRecDepth 100000
def lnx (xs : List Inn) : Nat := (IntKind.i64.wrap ((xs.length : Int) - 1)).toNat
def Bl (m : Mat) : Inn := inn m.inns (lnx m.inns)
theorem Qj {n : Nat} (h : ((n : Int) == 0) = false) (hl : n ≤ 1000000) : iIn (IntKind.i64.wrap ((n : Int) - 1)) (n : Int) = true := by
 rw [beq_eq_false_iff_ne] at h
 rw [Ge (by omega) (by omega)]
 simp only [iIn, decide_eq_true_eq]; omega
theorem Zl {xs : List Inn} (h : ((xs.length : Int) == 0) = false) (hl : xs.length ≤ 1000000) : lnx xs < xs.length := by
 rw [beq_eq_false_iff_ne] at h
 unfold lnx
 rw [Ge (by omega) (by omega)]
 omega
def WD (r : Rul) : Int := cond (r.overs == 0) 5 6
theorem Hp {N : Nat} {r1 r2 r3 r4 r5 r6 r7 r9 r10 r11 r12 : Int} {r8 : Bool} {r0 : ByteArray} {r13 : Rows}  : BM N [.str r0, .int r1, .int r2, .int r3, .int r4, .int r5, .int r6, .int r7, .bool r8, .int r9, .int r10, .int r11, .int r12, .rows r13] = some [.int (WD (⟨r0, r1, r2, r3, r4, r5, r6, r7, r8, r9, r10, r11, r12, r13⟩ : Rul))] := by
 show Eg (std (Kp N) N) (xOf _) = _
 simp only [Eg, std, xOf, PXb, PXc, PXn, PXm, Nat.reduceAdd, Int.reduceBEq, WD]
def fA (x : Int × Int × Int) : List PV := [.int x.1, .int x.2.1, .int x.2.2]
def RF (m : Mat) : Int × Int × Int :=
  let n : Int := m.inns.length
  let most := IntKind.i64.wrap (2 * m.rules.innings)
  let x := Bl m
  cond (!Gj m || n == 0) (0, 0, 0) (cond (x.ending == 5) (WD m.rules, 0, 0) (cond (x.ending == 0) (0, 0, 0)
    (cond (n == most && iLe x.target x.runs) (2, x.side, IntKind.i64.wrap (IntKind.i64.wrap (m.rules.side - 1) - x.wickets)) (cond (n == most && x.runs == IntKind.i64.wrap (x.target - 1)) (4, 0, 0)
      (cond (n == most) (1, C1 x.side, IntKind.i64.wrap (IntKind.i64.wrap (x.target - 1) - x.runs))
        (cond (n == 3 && iLt (CG m x.side) (CG m (C1 x.side))) (3, C1 x.side, IntKind.i64.wrap (CG m (C1 x.side) - CG m x.side)) (0, 0, 0)))))))
set_option maxHeartbeats 4000000 in
theorem Wl {N : Nat} {m1 m2 m3 m4 m5 m6 m7 m9 m10 m11 m12 m14 m15 m18 m19 m20 m21 m22 : Int} {m8 m16 : Bool} {m0 : ByteArray} {m13 : Rows} {m17 : List Inn} (hf : G5 m17) (hN : 2097152 < N) (hl : m17.length ≤ 1000000) (hs : m0.size ≤ 1048576) : Ek N [.str m0, .int m1, .int m2, .int m3, .int m4, .int m5, .int m6, .int m7, .bool m8, .int m9, .int m10, .int m11, .int m12, .rows m13, .int m14, .int m15, .bool m16, .rows (AR m17), .int m18, .int m19, .int m20, .int m21, .int m22] = some (fA (RF (⟨⟨m0, m1, m2, m3, m4, m5, m6, m7, m8, m9, m10, m11, m12, m13⟩, m14, m15, m16, m17, m18, m19, m20, m21, m22⟩ : Mat))) := by
 show G8 (std (CU N) N) (xOf _) = _
 generalize hres : (some (fA (RF (⟨⟨m0, m1, m2, m3, m4, m5, m6, m7, m8, m9, m10, m11, m12, m13⟩, m14, m15, m16, m17, m18, m19, m20, m21, m22⟩ : Mat))) : Option (List PV)) = RR
 simp only [G8, MZ, MJ, MU, Jj, std, xOf, PXb, PXi, Rx hf hN hl hs, Gr, Hp, M9 hN (show m17.length ≤ 1048576 by omega)]
 subst hres; simp only [RF, Bl, lnx]
 cases hv : Gj (⟨⟨m0, m1, m2, m3, m4, m5, m6, m7, m8, m9, m10, m11, m12, m13⟩, m14, m15, m16, m17, m18, m19, m20, m21, m22⟩ : Mat)
 case false => rfl
 cases h0 : (m17.length : Int) == 0
 case true => rfl
 simp only [PXb, Qj h0 hl]
 generalize inn m17 (IntKind.i64.wrap ((m17.length : Int) - 1)).toNat = x
 cases x.ending == 5
 case true => rfl
 cases x.ending == 0
 case true => rfl
 cases (m17.length : Int) == IntKind.i64.wrap (2 * m2) <;> cases iLe x.target x.runs <;> cases x.runs == IntKind.i64.wrap (x.target - 1) <;> try rfl
 all_goals (cases (m17.length : Int) == 3 <;> try rfl)
 all_goals (simp only [PXb]; cases iLt (CG (⟨⟨m0, m1, m2, m3, m4, m5, m6, m7, m8, m9, m10, m11, m12, m13⟩, m14, m15, m16, m17, m18, m19, m20, m21, m22⟩ : Mat) x.side) (CG (⟨⟨m0, m1, m2, m3, m4, m5, m6, m7, m8, m9, m10, m11, m12, m13⟩, m14, m15, m16, m17, m18, m19, m20, m21, m22⟩ : Mat) (C1 x.side)) <;> rfl)
theorem ZU : ∀ (n k : Nat) (f : Nat → Nat), (∀ i, i < k → 1 ≤ f i ∧ f i ≤ n) → (∀ i j, i < j → j < k → f i ≠ f j) → k ≤ n
 | 0, k, f, h, _ => by
  rcases Nat.eq_zero_or_pos k with e | e
  ·omega
  ·have := h 0 e; omega
 | n + 1, 0, f, _, _ => by omega
 | n + 1, k + 1, f, h, hi => by
  by_cases he : ∃ j, j < k + 1 ∧ f j = n + 1
  ·obtain ⟨j, hj, hfj⟩ := he
   have := ZU n k (fun i => if i = j then f k else f i) (fun i hik => by
    show 1 ≤ (if i = j then f k else f i) ∧ (if i = j then f k else f i) ≤ n
    by_cases e : i = j
    ·rw [if_pos e]
     have h1 := h k (by omega)
     have : f k ≠ f j := fun e2 => hi j k (by omega) (by omega) e2.symm
     omega
    ·rw [if_neg e]
     have h1 := h i (by omega)
     have : f i ≠ f j := by
      rcases Nat.lt_or_gt_of_ne e with e2 | e2
      ·exact hi i j e2 hj
      ·exact fun e3 => hi j i e2 (by omega) e3.symm
     omega) (fun a b hab hb => by
    show (if a = j then f k else f a) ≠ (if b = j then f k else f b)
    by_cases e1 : a = j
    ·have e2 : b ≠ j := by omega
     rw [if_pos e1, if_neg e2]
     exact fun e3 => hi b k hb (by omega) e3.symm
    ·rw [if_neg e1]
     by_cases e2 : b = j
     ·rw [if_pos e2]; exact hi a k (by omega) (by omega)
     ·rw [if_neg e2]; exact hi a b hab (by omega))
   omega
  ·have := ZU n (k + 1) f (fun i hik => by
    have h1 := h i hik
    have : f i ≠ n + 1 := fun e => he ⟨i, hik, e⟩
    omega) hi
   omega
theorem Ym {L : Rows} {n : Int} (h : Iq L n = true) (hn : 0 ≤ n) : (L.length : Int) ≤ n := by
 unfold Iq at h
 rw [Bool.not_eq_true', E8] at h
 have hb : ∀ i, i < L.length → 1 ≤ atI L i 0 ∧ atI L i 0 ≤ n := fun i hi => by
  have := h i (by omega) (by omega)
  unfold N4 at this
  rw [Bool.or_eq_false_iff, Bool.not_eq_false', Tr] at this
  exact this.1
 have := ZU n.toNat L.length (fun i => (atI L i 0).toNat) (fun i hi => by have := hb i hi; show 1 ≤ (atI L i 0).toNat ∧ (atI L i 0).toNat ≤ n.toNat; omega) (fun i j hij hj => by
  show (atI L i 0).toNat ≠ (atI L j 0).toNat
  have h1 := hb i (by omega)
  have h2 := hb j hj
  have h3 := h j (by omega) (by omega)
  unfold N4 at h3
  rw [Bool.or_eq_false_iff] at h3
  have h4 := E8.1 h3.2 i (by omega) (by omega)
  rw [beq_eq_false_iff_ne] at h4
  omega)
 omega
theorem RO {r : Rul} {s : Inn} (h : I1 r s = true) : s.bowlers.length ≤ 11 ∧ s.before.length ≤ 11 ∧ s.Fit := by
 have ok := dE.1 h
 have hs := fG ok
 have h1 := Ym ok.dw (by omega)
 have h2 := Ym ok.df (by omega)
 have h3 := ok.lb
 have h4 := ok.ld
 have h5 := ok.lz
 exact ⟨by omega, by omega, by omega, by omega, by omega, by omega, by omega⟩
end Go.Px
end
section
namespace Go.Px
set_option maxRecDepth 100000
def YY (m : Mat) (e : Ev) : Mat × Int :=
  let sd := GX m (m.inns.length : Int)
  let b := DW m.rules sd (IK m sd) (cond (sd == 2) m.pen2 m.pen1)
  let t := Dh m.rules b.1 e
  cond (!(b.2 == 0)) (m, 1) (cond (!(t.2 == 0)) (m, t.2)
    ({ m with stage := 3, inns := m.inns ++ [t.1], pen1 := cond (sd == 1) 0 m.pen1, pen2 := cond (sd == 2) 0 m.pen2 }, 0))
def Pq (xs : List Inn) (sd : Int) : Nat → Option Nat
 | 0 => none
 | k + 1 => cond ((inn xs k).side == sd) (some k) (Pq xs sd k)
def KH (m : Mat) (sd : Int) : Mat := match Pq m.inns sd m.inns.length with
 | some k => { m with inns := m.inns.set k (Sw (inn m.inns k)) }
 | none => { m with pen1 := cond (sd == 1) (IntKind.i64.wrap (m.pen1 + 5)) m.pen1, pen2 := cond (sd == 2) (IntKind.i64.wrap (m.pen2 + 5)) m.pen2 }
def Yf (m : Mat) (e : Ev) : Mat × Int :=
 let t := Dh m.rules (Bl m) e
 cond (!(t.2 == 0)) (m, t.2) (cond (e.kind == 13 && !(e.side == t.1.side)) (KH { m with inns := m.inns.set (lnx m.inns) t.1 } e.side) { m with inns := m.inns.set (lnx m.inns) t.1 }, 0)
def cF (m : Mat) : Mat := { m with inns := cond (m.stage == 3) (m.inns.set (lnx m.inns) { Bl m with ending := 5 }) m.inns, stage := 5, win := WD m.rules, wside := 0, margin := 0 }
def Id (m : Mat) (e : Ev) : Mat × Int :=
  cond (e.kind == 1) (cond (!(m.stage == 1)) (m, 1) ({ m with first := cond e.yes e.side (C1 e.side), stage := 2 }, 0))
    (cond (e.kind == 2) (cond (!(m.stage == 2)) (m, 1) (YY m e))
      (cond (e.kind == 12) (cond (!(m.stage == 4)) (m, 1) (cond (!(e.side == m.first)) (m, 2) ({ m with follow := e.yes, stage := 2 }, 0)))
        (cond (e.kind == 16) (cF m, 0) (cond (!(m.stage == 3)) (m, 1) (Yf m e)))))
def Qs (m : Mat) : Mat :=
  let n : Int := m.inns.length
  let sd := (Bl m).side
  let o := RF { m with stage := 5 }
  cond (n == IntKind.i64.wrap (2 * m.rules.innings) || (n == 3 && iLt (CG m sd) (CG m (C1 sd)))) { m with stage := 5, win := o.1, wside := o.2.1, margin := o.2.2 }
    (cond (n == 2 && iLt 0 m.rules.followon && iLe m.rules.followon (IntKind.i64.wrap (CG m m.first - CG m (C1 m.first)))) { m with stage := 4 } { m with stage := 2 })
def Mk (m : Mat) : Mat := cond (m.stage == 3 && !((Bl m).ending == 0)) (Qs m) m
def DK (m : Mat) (e : Ev) : Mat × Int :=
 cond (!Gj m || !(evS e == 0)) (m, 1) (cond (m.stage == 5) (m, 26) (cond (!((Id m e).2 == 0)) (m, (Id m e).2) (Mk (Id m e).1, 0)))
theorem bind_ok {X : Option (List PV)} {r : List PV} {k : List PV → Option (List PV)} {g : Option (List PV)} (h : X = some r) (hk : k r = g) : X.bind k = g := by rw [h]; exact hk
structure MatOk (m : Mat) : Prop where
 code : A9 m.rules = 0
 len : m.inns.length ≤ 4
 innv : ∀ i, i < m.inns.length → I1 m.rules (inn m.inns i) = true ∧ (inn m.inns i).side = GX m (i : Int)
 begun : (m.stage == 3) = true → ((m.inns.length : Int) == 0) = false
 toss : (m.stage == 2) = true → m.first = 1 ∨ m.first = 2
 room : (m.stage == 2) = true → (m.inns.length : Int) < 2 * m.rules.innings
 most : IntKind.i64.wrap (2 * m.rules.innings) = 2 * m.rules.innings ∧ (m.inns.length : Int) ≤ 2 * m.rules.innings
theorem Yn {m : Mat} (h : Gj m = true) : MatOk m := by
 unfold Gj bK at h
 simp only [Bool.and_eq_true, Bool.not_eq_true'] at h
 obtain ⟨⟨h1, h2, h3, h4, h5, h6, h7, h8, h9, h10⟩, h11, h12⟩ := h
 have hc := beq_iff_eq.1 h1
 have rk := (N6 hc).innings
 have e2 : IntKind.i64.wrap (2 * m.rules.innings) = 2 * m.rules.innings := Ge (by omega) (by omega)
 rw [e2] at h5 h8
 rw [Bool.or_eq_false_iff, Bool.or_eq_false_iff] at h5
 have hn := h5.2
 have hf1 := h5.1.1
 have hf2 := h5.1.2
 simp only [iLt, decide_eq_false_iff_not] at hn hf1 hf2
 refine ⟨hc, by omega, fun i hi => ?_, fun hs => ?_, fun hs => ?_, fun hs => ?_, e2, by omega⟩
 ·have := E8.1 h11 i (by omega) (by omega)
  unfold S4 at this
  rw [Bool.or_eq_false_iff, Bool.not_eq_false', Bool.not_eq_false', beq_iff_eq] at this
  exact this
 ·unfold Td at h12
  rw [hs, Bool.and_eq_true] at h12
  have := h12.2
  simp only [iLt, Bool.not_true, Bool.false_or, decide_eq_true_eq] at this
  exact beq_false_of_ne (by omega)
 ·rw [beq_iff_eq.1 hs] at h6
  cases h0 : m.first == 0 with
  | true => rw [h0] at h6; simp at h6
  | false =>
   rw [beq_eq_false_iff_ne] at h0
   omega
 ·rw [hs, Bool.true_and, beq_eq_false_iff_ne] at h8
  omega
theorem eN {m : Mat} (h : m.first = 1 ∨ m.first = 2) (i : Int) : GX m i = 1 ∨ GX m i = 2 := by
 unfold GX
 cases cond (m.follow && iLe 2 i) (i == 2) (i.tmod 2 == 1) with
 | false => exact h
 | true => rcases h with h | h <;> rw [h] <;> decide
theorem cu {m : Mat} (h : MatOk m) : G5 m.inns := fun i hi => (RO (h.innv i hi).1).2.2
theorem Vp {F : (List Aa → Option (List PV)) → List PV → Option (List PV)} {len : Nat} (enc : Nat → List Aa) (ans : Nat → Option (List PV))
    (h0 : ∀ self, F self ((enc len).map Leaf.pv) = some [.int 1]) (h1 : ∀ i self, i < len → F self ((enc i).map Leaf.pv) = match ans i with | some r => some (.int 0 :: r) | none => self (enc (i + 1))) :
    ∀ (k i n : Nat), i + k = len → k < n → G3 F n ((enc i).map Leaf.pv) = some (T0 (Bm ans k i))
  | 0, i, n, hk, hn => by
    obtain ⟨n, rfl⟩ : ∃ m, n = m + 1 := ⟨n - 1, by omega⟩
    obtain rfl : i = len := by omega
    exact h0 _
  | k + 1, i, n, hk, hn => by
    obtain ⟨n, rfl⟩ : ∃ m, n = m + 1 := ⟨n - 1, by omega⟩
    show F _ _ = _
    rw [h1 i _ (by omega)]
    simp only [Bm]
    cases ans i with
    | some r => rfl
    | none => exact Vp enc ans h0 h1 k (i + 1) n (by omega) (by omega)
theorem aj (ys : List Inn) (sd : Int) (g : Nat → List PV) (n : Nat) : ∀ k, k ≤ n → Bm (fun j => cond ((inn ys (n - 1 - j)).side == sd) (some (g (n - 1 - j))) none) k (n - k) = (Pq ys sd k).map g
 | 0, _ => rfl
 | k + 1, h => by
  have ih := aj ys sd g n k (by omega)
  have e : n - 1 - (n - (k + 1)) = k := by omega
  have e2 : n - (k + 1) + 1 = n - k := by omega
  simp only [Bm, Pq, e, e2, ih]
  cases (inn ys k).side == sd <;> rfl
theorem fP (xs : List Inn) (k : Nat) (s : Inn) (i : Nat) (hi : i < xs.length) : inn (xs.set k s) i = (if k = i then s else inn xs i) := by
 rw [OW, OW, List.getElem?_set]
 by_cases h : k = i
 ·subst h
  rw [if_pos rfl, if_pos rfl, if_pos hi]
 ·rw [if_neg h, if_neg h]
theorem Rg {xs : List Inn} {s : Inn} (k : Nat) (h : G5 xs) (hs : s.Fit) : G5 (xs.set k s) := fun i hi => by
 rw [List.length_set] at hi
 rw [fP xs k s i hi]
 by_cases e : k = i
 ·rw [if_pos e]; exact hs
 ·rw [if_neg e]; exact h i hi
theorem dB {e : Ev} (h : (evS e == 0) = true) (hk : (e.kind == 13) = true) : e.side = 1 ∨ e.side = 2 := by
 have h0 := Xa h
 rw [beq_iff_eq] at hk
 unfold evS at h
 rw [h0] at h
 cases h1 : ZN e with
 | true => rw [h1] at h; cases h
 | false =>
  cases h2 : Uv e with
  | true => rw [h1, h2] at h; cases h
  | false =>
   unfold Uv at h2
   rw [Bool.or_eq_false_iff] at h2
   have h3 := h2.1
   rw [hk, show uS 13 = true from rfl, Bool.and_true] at h3
   simp only [btw, iLe, Bool.not_eq_false', Bool.and_eq_true, decide_eq_true_eq] at h3
   omega
theorem fE (xs : List Inn) (s : Inn) (i : Nat) (hi : i < xs.length + 1) : inn (xs ++ [s]) i = (if i < xs.length then inn xs i else s) := by
 rw [OW, OW]
 by_cases h : i < xs.length
 ·rw [if_pos h, List.getElem?_append_left h]
 ·have : i = xs.length := by omega
  subst this
  rw [if_neg h, List.getElem?_append_right (Nat.le_refl _), Nat.sub_self]
  rfl
theorem eg {xs : List Inn} {s : Inn} (h : G5 xs) (hs : s.Fit) : G5 (xs ++ [s]) := fun i hi => by
 rw [List.length_append] at hi
 rw [fE xs s i hi]
 by_cases e : i < xs.length
 ·rw [if_pos e]; exact h i e
 ·rw [if_neg e]; exact hs
theorem W5 (r : Rul) (a b c : Int) (e : Ev) : (Dh r (DW r a b c).1 e).1.Fit := by
 obtain ⟨f, h1, h2⟩ := N1 r a b c
 exact Q5 (TH r _ e) f (by rw [h1, h2]; exact Nat.zero_le _)
structure ActOk (m : Mat) (x : Mat × Int) : Prop where
 rules : x.1.rules = m.rules
 fit : G5 x.1.inns
 len : x.1.inns.length ≤ 5
 some' : (x.2 == 0) = true → (x.1.stage == 3) = true → ((x.1.inns.length : Int) == 0) = false
theorem A_c {m : Mat} (b : Bool) (x y : Mat × Int) (hx : ActOk m x) (hy : ActOk m y) : ActOk m (cond b x y) := by cases b <;> assumption
theorem dg {m : Mat} (sd : Int) (hf : G5 m.inns) : (KH m sd).rules = m.rules ∧ G5 (KH m sd).inns ∧ (KH m sd).inns.length = m.inns.length ∧ (KH m sd).stage = m.stage := by
 unfold KH
 cases h : Pq m.inns sd m.inns.length with
 | none => exact ⟨rfl, hf, rfl, rfl⟩
 | some k =>
  have hk : k < m.inns.length := by
   have : ∀ n, Pq m.inns sd n = some k → k < n := by
    intro n
    induction n with
    | zero => intro h; cases h
    | succ n ih =>
     intro h
     unfold Pq at h
     cases hq : (inn m.inns n).side == sd with
     | true => rw [hq] at h; cases h; omega
     | false => rw [hq] at h; have := ih h; omega
   exact this _ h
  exact ⟨rfl, Rg k hf (fj (hf k hk)), List.length_set, rfl⟩
theorem cm {m : Mat} (ok : MatOk m) (e : Ev) : ActOk m (Id m e) := by
 have hf := cu ok
 have hl := ok.len
 have self : ∀ n : Int, (n == 0) = false → ActOk m (m, n) := fun n hn => ⟨rfl, hf, by show m.inns.length ≤ 5; omega, fun h => by rw [hn] at h; cases h⟩
 unfold Id
 refine A_c _ _ _ (A_c _ _ _ (self 1 rfl) ⟨rfl, hf, by show m.inns.length ≤ 5; omega, fun _ h => by cases h⟩) (A_c _ _ _ ?_ (A_c _ _ _ ?_ (A_c _ _ _ ?_ ?_)))
 ·refine A_c _ _ _ (self 1 rfl) ?_
  unfold YY
  refine A_c _ _ _ (self 1 rfl) ?_
  cases hq : (Dh m.rules (DW m.rules (GX m (m.inns.length : Int)) (IK m (GX m (m.inns.length : Int))) (cond (GX m (m.inns.length : Int) == 2) m.pen2 m.pen1)).1 e).2 == 0 with
  | false =>
   simp only [Bool.not_false, cond_true]
   exact self _ hq
  | true =>
   simp only [Bool.not_true, cond_false]
   exact ⟨rfl, eg hf (W5 _ _ _ _ e), by simp; omega, fun _ _ => by
    show ((((m.inns ++ [_]).length : Nat) : Int) == 0) = false
    rw [List.length_append]
    exact beq_false_of_ne (by simp; omega)⟩
 ·exact A_c _ _ _ (self 1 rfl) (A_c _ _ _ (self 2 rfl) ⟨rfl, hf, by show m.inns.length ≤ 5; omega, fun _ h => by cases h⟩)
 ·unfold cF
  cases h3 : m.stage == 3 with
  | false => exact ⟨rfl, hf, by show m.inns.length ≤ 5; omega, fun _ h => by cases h⟩
  | true =>
   have h0 := ok.begun h3
   have fl := hf (lnx m.inns) (Zl h0 (by omega))
   exact ⟨rfl, Rg _ hf ⟨fl.bt, fl.bw, fl.bf, fl.bd, fl.sb⟩, by show (m.inns.set _ _).length ≤ 5; rw [List.length_set]; omega, fun _ h => by cases h⟩
 ·cases h3 : m.stage == 3 with
  | false => exact self 1 rfl
  | true =>
   have h0 := ok.begun h3
   have lv := RO (ok.innv (lnx m.inns) (Zl h0 (by omega))).1
   have h1 := lv.1
   have h2 := lv.2.1
   have ft := Q5 (TH m.rules (Bl m) e) lv.2.2 (show (inn m.inns (lnx m.inns)).before.length + (inn m.inns (lnx m.inns)).bowlers.length ≤ 1048575 by omega)
   simp only [Bool.not_true, cond_false, Yf]
   cases hq : (Dh m.rules (Bl m) e).2 == 0 with
   | false =>
    simp only [Bool.not_false, Bool.not_true, cond_true, cond_false]
    exact self _ hq
   | true =>
    have fs := Rg (lnx m.inns) hf ft
    have ln : (m.inns.set (lnx m.inns) (Dh m.rules (Bl m) e).1).length = m.inns.length := List.length_set
    simp only [Bool.not_true, cond_false]
    cases (e.kind == 13 && !(e.side == (Dh m.rules (Bl m) e).1.side)) with
    | false =>
     exact ⟨rfl, fs, by show (m.inns.set _ _).length ≤ 5; omega, fun _ _ => by
      show ((((m.inns.set _ _).length : Nat) : Int) == 0) = false
      rw [ln]; exact h0⟩
    | true =>
     obtain ⟨a1, a2, a3, a4⟩ := dg (m := { m with inns := m.inns.set (lnx m.inns) (Dh m.rules (Bl m) e).1 }) e.side fs
     exact ⟨a1, a2, by show (KH _ _).inns.length ≤ 5; rw [a3]; show (m.inns.set _ _).length ≤ 5; omega, fun _ _ => by
      show ((((KH _ _).inns.length : Nat) : Int) == 0) = false
      rw [a3]
      show ((((m.inns.set _ _).length : Nat) : Int) == 0) = false
      rw [ln]; exact h0⟩
end Go.Px
end
section
namespace Go.Px
set_option maxRecDepth 100000
set_option maxHeartbeats 8000000 in
theorem Tl {N : Nat} {m1 m2 m3 m4 m5 m6 m7 m9 m10 m11 m12 m14 m15 m18 m19 m20 m21 m22 : Int} {m8 m16 : Bool} {m0 : ByteArray} {m13 : Rows} {m17 : List Inn} {e0 e1 e2 e3 e5 e6 e7 e8 e9 e10 e11 e13 e14 e15 e16 e18 : Int} {e4 e12 e17 : Bool} (hN : 2097152 < N) (hf : G5 m17) (hl : m17.length ≤ 1000000) (hs : m0.size ≤ 1048576) (h13 : m13.length ≤ 1048576) : Fc N [.str m0, .int m1, .int m2, .int m3, .int m4, .int m5, .int m6, .int m7, .bool m8, .int m9, .int m10, .int m11, .int m12, .rows m13, .int m14, .int m15, .bool m16, .rows (AR m17), .int m18, .int m19, .int m20, .int m21, .int m22, .int e0, .int e1, .int e2, .int e3, .bool e4, .int e5, .int e6, .int e7, .int e8, .int e9, .int e10, .int e11, .bool e12, .int e13, .int e14, .int e15, .int e16, .bool e17, .int e18] = some (Kc (DK (⟨⟨m0, m1, m2, m3, m4, m5, m6, m7, m8, m9, m10, m11, m12, m13⟩, m14, m15, m16, m17, m18, m19, m20, m21, m22⟩ : Mat) (⟨e0, e1, e2, e3, e4, e5, e6, ⟨e7, e8, e9, e10, e11, e12, e13, e14, e15, e16, e17, e18⟩⟩ : Ev))) := by
 show KX (std (Ar N) N) (xOf _) = _
 generalize hres : (some (Kc (DK (⟨⟨m0, m1, m2, m3, m4, m5, m6, m7, m8, m9, m10, m11, m12, m13⟩, m14, m15, m16, m17, m18, m19, m20, m21, m22⟩ : Mat) (⟨e0, e1, e2, e3, e4, e5, e6, ⟨e7, e8, e9, e10, e11, e12, e13, e14, e15, e16, e17, e18⟩⟩ : Ev))) : Option (List PV)) = RR
 simp only [KX, CN, DL, Fi, Ow, Oo, O1, EB, D9, Hn, GV, Dj, Cc, std, xOf, PXb, Rx hf hN hl hs, R3 hN, YT hf hN hl h13]
 subst hres; simp only [DK]
 cases hv : Gj (⟨⟨m0, m1, m2, m3, m4, m5, m6, m7, m8, m9, m10, m11, m12, m13⟩, m14, m15, m16, m17, m18, m19, m20, m21, m22⟩ : Mat)
 case false => rfl
 cases he : evS (⟨e0, e1, e2, e3, e4, e5, e6, ⟨e7, e8, e9, e10, e11, e12, e13, e14, e15, e16, e17, e18⟩⟩ : Ev) == 0
 case false => simp only [PXb, he]; rfl
 simp only [PXb, he]
 cases h5 : m14 == 5
 case true => rfl
 simp only [PXb]
 have ok := Yn hv
 refine bind_ok (r := .int (Id (⟨⟨m0, m1, m2, m3, m4, m5, m6, m7, m8, m9, m10, m11, m12, m13⟩, m14, m15, m16, m17, m18, m19, m20, m21, m22⟩ : Mat) (⟨e0, e1, e2, e3, e4, e5, e6, ⟨e7, e8, e9, e10, e11, e12, e13, e14, e15, e16, e17, e18⟩⟩ : Ev)).2 :: (Id (⟨⟨m0, m1, m2, m3, m4, m5, m6, m7, m8, m9, m10, m11, m12, m13⟩, m14, m15, m16, m17, m18, m19, m20, m21, m22⟩ : Mat) (⟨e0, e1, e2, e3, e4, e5, e6, ⟨e7, e8, e9, e10, e11, e12, e13, e14, e15, e16, e17, e18⟩⟩ : Ev)).1.ls) ?_ ?_
 ·unfold Id
  cases hk1 : e0 == 1
  case true =>
   simp only [PXb, D9, Gr]
   cases m14 == 1 <;> cases e4 <;> rfl
  cases hk2 : e0 == 2
  case true =>
   simp only [PXb]
   cases hs2 : m14 == 2
   case false => rfl
   have hl2 : m17.length ≤ 1048576 := by omega
   have h304 : iSm ((m17.length + 1 : Nat) : Int) 304 = true := Ku (by omega) (by omega)
   have fb := fun a b c => (N1 (⟨⟨m0, m1, m2, m3, m4, m5, m6, m7, m8, m9, m10, m11, m12, m13⟩, m14, m15, m16, m17, m18, m19, m20, m21, m22⟩ : Mat).rules a b c).1
   have wb : ∀ a b c, (DW (⟨⟨m0, m1, m2, m3, m4, m5, m6, m7, m8, m9, m10, m11, m12, m13⟩, m14, m15, m16, m17, m18, m19, m20, m21, m22⟩ : Mat).rules a b c).1.before.length + (DW (⟨⟨m0, m1, m2, m3, m4, m5, m6, m7, m8, m9, m10, m11, m12, m13⟩, m14, m15, m16, m17, m18, m19, m20, m21, m22⟩ : Mat).rules a b c).1.bowlers.length ≤ 1000000 := fun a b c => by
    rw [(N1 (⟨⟨m0, m1, m2, m3, m4, m5, m6, m7, m8, m9, m10, m11, m12, m13⟩, m14, m15, m16, m17, m18, m19, m20, m21, m22⟩ : Mat).rules a b c).2.1, (N1 (⟨⟨m0, m1, m2, m3, m4, m5, m6, m7, m8, m9, m10, m11, m12, m13⟩, m14, m15, m16, m17, m18, m19, m20, m21, m22⟩ : Mat).rules a b c).2.2]
    exact Nat.zero_le _
   rcases eN (m := (⟨⟨m0, m1, m2, m3, m4, m5, m6, m7, m8, m9, m10, m11, m12, m13⟩, m14, m15, m16, m17, m18, m19, m20, m21, m22⟩ : Mat)) (ok.toss hs2) (m17.length : Int) with ho | ho
   ·simp only [PXb, PXc, I2, Y8, Nat.reduceAdd, Int.reduceBEq, PXi, PXr, Inn.eta, Az, List.length_append, List.length_cons, List.length_nil, h304, YY, EB, Dj, DL, CN, Mp, Q1 hN hl2, Pk hN hs, LU (fb _ _ _) (wb _ _ _) hN hs h13, ho, wr1, wr2, ZI, Z9]
    cases (DW (⟨⟨m0, m1, m2, m3, m4, m5, m6, m7, m8, m9, m10, m11, m12, m13⟩, m14, m15, m16, m17, m18, m19, m20, m21, m22⟩ : Mat).rules 1 (IK (⟨⟨m0, m1, m2, m3, m4, m5, m6, m7, m8, m9, m10, m11, m12, m13⟩, m14, m15, m16, m17, m18, m19, m20, m21, m22⟩ : Mat) 1) m18).2 == 0 <;> try rfl
    cases (Dh (⟨⟨m0, m1, m2, m3, m4, m5, m6, m7, m8, m9, m10, m11, m12, m13⟩, m14, m15, m16, m17, m18, m19, m20, m21, m22⟩ : Mat).rules (DW (⟨⟨m0, m1, m2, m3, m4, m5, m6, m7, m8, m9, m10, m11, m12, m13⟩, m14, m15, m16, m17, m18, m19, m20, m21, m22⟩ : Mat).rules 1 (IK (⟨⟨m0, m1, m2, m3, m4, m5, m6, m7, m8, m9, m10, m11, m12, m13⟩, m14, m15, m16, m17, m18, m19, m20, m21, m22⟩ : Mat) 1) m18).1 (⟨e0, e1, e2, e3, e4, e5, e6, ⟨e7, e8, e9, e10, e11, e12, e13, e14, e15, e16, e17, e18⟩⟩ : Ev)).2 == 0 <;> rfl
   ·simp only [PXb, PXc, I2, Y8, Nat.reduceAdd, Int.reduceBEq, PXi, PXr, Inn.eta, Az, List.length_append, List.length_cons, List.length_nil, h304, YY, EB, Dj, DL, CN, Mp, Q1 hN hl2, Pk hN hs, LU (fb _ _ _) (wb _ _ _) hN hs h13, ho, wr1, wr2, ZI, Z9]
    cases (DW (⟨⟨m0, m1, m2, m3, m4, m5, m6, m7, m8, m9, m10, m11, m12, m13⟩, m14, m15, m16, m17, m18, m19, m20, m21, m22⟩ : Mat).rules 2 (IK (⟨⟨m0, m1, m2, m3, m4, m5, m6, m7, m8, m9, m10, m11, m12, m13⟩, m14, m15, m16, m17, m18, m19, m20, m21, m22⟩ : Mat) 2) m19).2 == 0 <;> try rfl
    cases (Dh (⟨⟨m0, m1, m2, m3, m4, m5, m6, m7, m8, m9, m10, m11, m12, m13⟩, m14, m15, m16, m17, m18, m19, m20, m21, m22⟩ : Mat).rules (DW (⟨⟨m0, m1, m2, m3, m4, m5, m6, m7, m8, m9, m10, m11, m12, m13⟩, m14, m15, m16, m17, m18, m19, m20, m21, m22⟩ : Mat).rules 2 (IK (⟨⟨m0, m1, m2, m3, m4, m5, m6, m7, m8, m9, m10, m11, m12, m13⟩, m14, m15, m16, m17, m18, m19, m20, m21, m22⟩ : Mat) 2) m19).1 (⟨e0, e1, e2, e3, e4, e5, e6, ⟨e7, e8, e9, e10, e11, e12, e13, e14, e15, e16, e17, e18⟩⟩ : Ev)).2 == 0 <;> rfl
  cases hk3 : e0 == 12
  case true =>
   simp only [PXb]
   cases m14 == 4 <;> cases e1 == m15 <;> rfl
  cases hk4 : e0 == 16
  case true =>
   simp only [PXb, cF]
   cases h3 : m14 == 3
   case false => simp only [PXb, PXc, PXi, PXr, I2, Nat.reduceAdd, Cc, Hp]; rfl
   simp only [PXb, PXc, PXi, PXr, I2, Nat.reduceAdd, Qj (ok.begun h3) hl, Cc, Hp]
   rfl
  simp only [PXb]
  cases h3 : m14 == 3
  case false => rfl
  have h0 := ok.begun h3
  have lv := RO (ok.innv (lnx m17) (Zl h0 hl)).1
  have fl : (inn m17 (IntKind.i64.wrap ((m17.length : Int) - 1)).toNat).Fit := lv.2.2
  have wl : (inn m17 (IntKind.i64.wrap ((m17.length : Int) - 1)).toNat).before.length + (inn m17 (IntKind.i64.wrap ((m17.length : Int) - 1)).toNat).bowlers.length ≤ 1000000 := by
   have h1 := lv.1
   have h2 := lv.2.1
   change (inn m17 (IntKind.i64.wrap ((m17.length : Int) - 1)).toNat).bowlers.length ≤ 11 at h1
   change (inn m17 (IntKind.i64.wrap ((m17.length : Int) - 1)).toNat).before.length ≤ 11 at h2
   omega
  have f1 := Q5 (TH (⟨⟨m0, m1, m2, m3, m4, m5, m6, m7, m8, m9, m10, m11, m12, m13⟩, m14, m15, m16, m17, m18, m19, m20, m21, m22⟩ : Mat).rules (inn m17 (IntKind.i64.wrap ((m17.length : Int) - 1)).toNat) (⟨e0, e1, e2, e3, e4, e5, e6, ⟨e7, e8, e9, e10, e11, e12, e13, e14, e15, e16, e17, e18⟩⟩ : Ev)) fl (by omega)
  simp only [PXb, PXc, PXi, PXr, Az, Inn.eta, I2, Nat.reduceAdd, List.length_set, Qj h0 hl, CN, LU fl wl hN hs h13, Yf, Bl, lnx]
  generalize hX : Dh (⟨⟨m0, m1, m2, m3, m4, m5, m6, m7, m8, m9, m10, m11, m12, m13⟩, m14, m15, m16, m17, m18, m19, m20, m21, m22⟩ : Mat).rules (inn m17 (IntKind.i64.wrap ((m17.length : Int) - 1)).toNat) (⟨e0, e1, e2, e3, e4, e5, e6, ⟨e7, e8, e9, e10, e11, e12, e13, e14, e15, e16, e17, e18⟩⟩ : Ev) = X at f1
  have fy := Rg (IntKind.i64.wrap ((m17.length : Int) - 1)).toNat hf f1
  generalize hy : m17.set (IntKind.i64.wrap ((m17.length : Int) - 1)).toNat X.1 = ys at fy
  have ly : ys.length = m17.length := by rw [← hy, List.length_set]
  cases X.2 == 0 <;> try rfl
  cases h13k : e0 == 13
  case false => rfl
  cases hsd : e1 == X.1.side
  case true => rfl
  simp only [PXb, Option.bind_assoc]
  have e0w : IntKind.i64.wrap ((m17.length : Int) - 1) = (m17.length : Int) - 1 - ((0 : Nat) : Int) := by
   rw [beq_eq_false_iff_ne] at h0
   rw [Ge (by omega) (by omega)]; omega
  rw [e0w]
  have hside := dB (e := (⟨e0, e1, e2, e3, e4, e5, e6, ⟨e7, e8, e9, e10, e11, e12, e13, e14, e15, e16, e17, e18⟩⟩ : Ev)) he h13k
  simp only at hside
  refine Ac (Vp (len := m17.length) (fun j => [.int ((m17.length : Int) - 1 - (j : Int))]) (fun j => cond ((inn ys (m17.length - 1 - j)).side == e1) (some [PV.str m0, PV.int m1, PV.int m2, PV.int m3, PV.int m4, PV.int m5, PV.int m6, PV.int m7, PV.bool m8, PV.int m9, PV.int m10, PV.int m11, PV.int m12, PV.rows m13, PV.int m14, PV.int m15, PV.bool m16, PV.rows (AR (ys.set (m17.length - 1 - j) (Sw (inn ys (m17.length - 1 - j))))), PV.int m18, PV.int m19, PV.int m20, PV.int m21, PV.int m22]) none) ?_ ?_ m17.length 0 N (by omega) (by omega)) ?_
  ·intro self
   have q1 : iLe 0 ((m17.length : Int) - 1 - (m17.length : Int)) = false := by simp only [iLe, decide_eq_false_iff_not]; omega
   simp only [PXb, q1]
  ·intro i self hi
   have q1 : iLe 0 ((m17.length : Int) - 1 - (i : Int)) = true := by simp only [iLe, decide_eq_true_eq]; omega
   have q2 : iIn ((m17.length : Int) - 1 - (i : Int)) (m17.length : Int) = true := by simp only [iIn, decide_eq_true_eq]; omega
   have q3 : ((m17.length : Int) - 1 - (i : Int)).toNat = m17.length - 1 - i := by omega
   have q4 : IntKind.i64.wrap ((m17.length : Int) - 1 - (i : Int) - 1) = (m17.length : Int) - 1 - ((i + 1 : Nat) : Int) := by rw [Ge (by omega) (by omega)]; omega
   have q5 := fy (m17.length - 1 - i) (by omega)
   simp only [PXb, PXc, q1, q2, q3, q4, Fi, NG q5, PXm]
   cases (inn ys (m17.length - 1 - i)).side == e1 <;> rfl
  ·have hfa := aj ys e1 (fun k => [PV.str m0, PV.int m1, PV.int m2, PV.int m3, PV.int m4, PV.int m5, PV.int m6, PV.int m7, PV.bool m8, PV.int m9, PV.int m10, PV.int m11, PV.int m12, PV.rows m13, PV.int m14, PV.int m15, PV.bool m16, PV.rows (AR (ys.set k (Sw (inn ys k)))), PV.int m18, PV.int m19, PV.int m20, PV.int m21, PV.int m22]) m17.length m17.length (Nat.le_refl _)
   rw [Nat.sub_self] at hfa
   rw [hfa]
   unfold KH
   simp only [ly]
   cases Pq ys e1 m17.length with
   | some k => rfl
   | none =>
    rcases hside with h | h <;> subst h
    ·simp only [Option.map_none, T0, PXb, PXc, I2, Int.reduceBEq, wr1, ZI]
     rfl
    ·simp only [Option.map_none, T0, PXb, PXc, I2, Int.reduceBEq, wr2, Z9]
     rfl
 ·have ak := cm ok (⟨e0, e1, e2, e3, e4, e5, e6, ⟨e7, e8, e9, e10, e11, e12, e13, e14, e15, e16, e17, e18⟩⟩ : Ev)
  generalize Id (⟨⟨m0, m1, m2, m3, m4, m5, m6, m7, m8, m9, m10, m11, m12, m13⟩, m14, m15, m16, m17, m18, m19, m20, m21, m22⟩ : Mat) (⟨e0, e1, e2, e3, e4, e5, e6, ⟨e7, e8, e9, e10, e11, e12, e13, e14, e15, e16, e17, e18⟩⟩ : Ev) = A at ak
  obtain ⟨⟨⟨a0, a1, a2, a3, a4, a5, a6, a7, a8, a9, a10, a11, a12, a13⟩, a14, a15, a16, a17, a18, a19, a20, a21, a22⟩, l⟩ := A
  obtain ⟨k1, k2, k3, k4⟩ := ak
  simp only at k1 k2 k3 k4
  have hl5 : a17.length ≤ 1048576 := by omega
  have hs5 : a0.size ≤ 1048576 := by
   have := congrArg Rul.name k1
   simp only at this
   rw [this]; exact hs
  simp only [PXb, PXc, PXk, PXi, I2, Nat.reduceAdd]
  cases hl0 : l == 0
  case false => rfl
  simp only [PXb, Mk]
  cases h3 : a14 == 3
  case false => rfl
  have h0 := k4 hl0 h3
  have li := Qj h0 (show a17.length ≤ 1000000 by omega)
  simp only [PXb, PXc, PXi, li]
  cases he2 : (inn a17 (IntKind.i64.wrap ((a17.length : Int) - 1)).toNat).ending == 0
  case true => simp only [PXb, Bl, lnx, he2]
  simp only [PXb, PXc, PXi, Bl, lnx, he2, Hn, D9, GV, M9 hN hl5, Gr, Wl k2 hN (show a17.length ≤ 1000000 by omega) hs5]
  unfold Qs
  simp only [Bl, lnx]
  simp only [CG, Bl, lnx]
  cases hq1 : ((a17.length : Int) == IntKind.i64.wrap (2 * a2))
  case true => rfl
  cases hq2 : ((a17.length : Int) == 3)
  case true =>
   simp only [PXb]
   cases iLt (Ml a17 (inn a17 (IntKind.i64.wrap ((a17.length : Int) - 1)).toNat).side a17.length) (Ml a17 (C1 (inn a17 (IntKind.i64.wrap ((a17.length : Int) - 1)).toNat).side) a17.length)
   case true => rfl
   simp only [PXb]
   cases ((a17.length : Int) == 2) && iLt 0 a10 && iLe a10 (IntKind.i64.wrap (Ml a17 a15 a17.length - Ml a17 (C1 a15) a17.length)) <;> rfl
  simp only [PXb]
  cases ((a17.length : Int) == 2) && iLt 0 a10 && iLe a10 (IntKind.i64.wrap (Ml a17 a15 a17.length - Ml a17 (C1 a15) a17.length)) <;> rfl
end Go.Px
end
section
namespace Go.Px
set_option maxRecDepth 100000
theorem aR (m : Mat) : (Qs m).rules = m.rules ∧ (Qs m).inns = m.inns := by
 unfold Qs
 dsimp only
 cases ((m.inns.length : Int) == IntKind.i64.wrap (2 * m.rules.innings) || ((m.inns.length : Int) == 3 && iLt (CG m (Bl m).side) (CG m (C1 (Bl m).side)))) with
 | true => exact ⟨rfl, rfl⟩
 | false =>
  cases ((m.inns.length : Int) == 2 && iLt 0 m.rules.followon && iLe m.rules.followon (IntKind.i64.wrap (CG m m.first - CG m (C1 m.first)))) <;> exact ⟨rfl, rfl⟩
theorem Vo (m : Mat) : (Mk m).rules = m.rules ∧ (Mk m).inns = m.inns := by
 unfold Mk
 cases (m.stage == 3 && !((Bl m).ending == 0)) with
 | true => exact aR m
 | false => exact ⟨rfl, rfl⟩
structure StepOk (r : Rul) (m : Mat) : Prop where
 rules : m.rules = r
 fit : G5 m.inns
 len : m.inns.length ≤ 5
theorem bR {r : Rul} {m : Mat} (h : StepOk r m) (e : Ev) : StepOk r (DK m e).1 := by
 unfold DK
 cases hv : Gj m with
 | false => exact h
 | true =>
  cases he : evS e == 0 with
  | false => exact h
  | true =>
   cases h5 : m.stage == 5 with
   | true => exact h
   | false =>
    have a := cm (Yn hv) e
    cases hx : (Id m e).2 == 0 with
    | false => exact h
    | true =>
     have k := Vo (Id m e).1
     exact ⟨k.1.trans (a.rules.trans h.rules), by show G5 (Mk _).inns; rw [k.2]; exact a.fit, by show (Mk _).inns.length ≤ 5; rw [k.2]; exact a.len⟩
theorem bC (r : Rul) (h : ((B7 r).2 == 0) = true) : StepOk r (B7 r).1 := by
 unfold B7 at h ⊢
 cases hc : A9 r == 0 with
 | false => rw [hc] at h; exact absurd (show (A9 r == 0) = true from h) (by rw [hc]; decide)
 | true => exact ⟨rfl, fun i hi => absurd hi (Nat.not_lt_zero i), Nat.zero_le _⟩
theorem dy {m : Mat} {e : Ev} (h : ((DK m e).2 == 0) = true) : Gj m = true ∧ (evS e == 0) = true ∧ (m.stage == 5) = false ∧ ((Id m e).2 == 0) = true ∧ (DK m e).1 = Mk (Id m e).1 := by
 unfold DK at h ⊢
 cases hv : Gj m with
 | false => rw [hv] at h; exact absurd (show ((1 : Int) == 0) = true from h) (by decide)
 | true =>
  cases he : evS e == 0 with
  | false => rw [hv, he] at h; exact absurd (show ((1 : Int) == 0) = true from h) (by decide)
  | true =>
   cases h5 : m.stage == 5 with
   | true => rw [hv, he, h5] at h; exact absurd (show ((26 : Int) == 0) = true from h) (by decide)
   | false =>
    cases hx : (Id m e).2 == 0 with
    | false => rw [hv, he, h5, hx] at h; exact absurd (show ((Id m e).2 == 0) = true from h) (by rw [hx]; decide)
    | true => exact ⟨rfl, rfl, rfl, rfl, rfl⟩
theorem bo {m : Mat} {e : Ev} (h : ((DK m e).2 == 0) = true) (hk : (e.kind == 4) = true) : (m.stage == 3) = true ∧ ((m.inns.length : Int) == 0) = false ∧ ((Dh m.rules (Bl m) e).2 == 0) = true ∧ (DK m e).1.inns = m.inns.set (lnx m.inns) (Dh m.rules (Bl m) e).1 := by
 obtain ⟨hv, he, h5, ha, hs⟩ := dy h
 have hk4 := beq_iff_eq.1 hk
 rw [hs, (Vo _).2]
 unfold Id at ha ⊢
 simp only [hk4, Int.reduceBEq, cond_false] at ha ⊢
 cases h3 : m.stage == 3 with
 | false => rw [h3] at ha; exact absurd (show ((1 : Int) == 0) = true from ha) (by decide)
 | true =>
  rw [h3] at ha
  simp only [Bool.not_true, cond_false] at ha ⊢
  unfold Yf at ha ⊢
  cases hq : (Dh m.rules (Bl m) e).2 == 0 with
  | false => simp only [hq, Bool.not_false, cond_true] at ha; exact absurd ha Bool.false_ne_true
  | true =>
   simp only [hk4, Int.reduceBEq, Bool.false_and, hq, Bool.not_true, cond_false]
   exact ⟨trivial, (Yn hv).begun h3, trivial, trivial⟩
theorem bF (b : ByteArray) : (b.toList == b.toList) = true := beq_self_eq_true _
theorem Nn {N : Nat} {L : Rows} (hN : 2097152 < N) (h13 : L.length ≤ 1048576) : CP N [.rows L, .rows L] = some [.bool true] := by
 show Di (std (I7 N) N) (xOf _) = _
 simp only [Di, std, xOf, PXb, PXm]
 refine Ac (Jf (len := L.length) (fun i => [.int (i : Int)]) [.int 1] ?_ ?_ N (by omega)) ?_
 ·intro self
  simp only [PXb, PXc, PXn, AE, BV]
 ·intro i self hi
  simp only [PXb, PXc, PXn, PXm, Nat.reduceAdd, Int.reduceBEq, Al (show i ≤ 1099511627776 by omega), BC hi, Ag hi]
  rfl
 ·simp only [PXb, PXc, PXn, PXm, Nat.reduceAdd, Int.reduceBEq]
theorem Wo {N : Nat} {r1 r2 r3 r4 r5 r6 r7 r9 r10 r11 r12 : Int} {r8 : Bool} {r0 : ByteArray} {r13 : Rows}  : E0 N [.str r0, .int r1, .int r2, .int r3, .int r4, .int r5, .int r6, .int r7, .bool r8, .int r9, .int r10, .int r11, .int r12, .rows r13] = some [.int r1, .int r2, .int r3, .int r4, .int r5, .int r6, .int r7, .int r9, .int r10, .int r11, .int r12] := by
 show HD (std (NW N) N) (xOf _) = _
 simp only [HD, std, xOf, PXb, PXc, PXn, PXm, Nat.reduceAdd, Int.reduceBEq]
theorem UL {N : Nat} {r1 r2 r3 r4 r5 r6 r7 r9 r10 r11 r12 : Int} {r8 : Bool} {r0 : ByteArray} {r13 : Rows} (hN : 2097152 < N) (h13 : r13.length ≤ 1048576) : KO N [.str r0, .int r1, .int r2, .int r3, .int r4, .int r5, .int r6, .int r7, .bool r8, .int r9, .int r10, .int r11, .int r12, .rows r13, .str r0, .int r1, .int r2, .int r3, .int r4, .int r5, .int r6, .int r7, .bool r8, .int r9, .int r10, .int r11, .int r12, .rows r13] = some [.bool true] := by
 show KY (std (Hz N) N) (xOf _) = _
 simp only [KY, Mr, J0, std, xOf, PXb, PXc, PXn, PXm, Nat.reduceAdd, Int.reduceBEq, bF, Wo, Nn hN h13]
theorem J3 {N : Nat} {xs : List Inn} (hN : 2097152 < N) (hf : G5 xs) (hl : xs.length ≤ 1000000) : BW N [.rows (AR xs), .rows (AR xs)] = some [.bool true] := by
 show BS (std (Ax N) N) (xOf _) = _
 simp only [BS, CX, std, xOf, PXb, PXm, PXi]
 refine Ac (Jf (len := xs.length) (fun i => [.int (i : Int)]) [.int 1] ?_ ?_ N (by omega)) ?_
 ·intro self
  simp only [PXb, PXc, PXn, AE, BV]
 ·intro i self hi
  simp only [PXb, PXc, PXn, PXm, Nat.reduceAdd, Int.reduceBEq, Al (show i ≤ 1099511627776 by omega), BC hi, Ag hi, PXi, CX, XH (hf i hi) hN, cj]
  rfl
 ·simp only [PXb, PXc, PXn, PXm, Nat.reduceAdd, Int.reduceBEq]
theorem UH {N : Nat} {m1 m2 m3 m4 m5 m6 m7 m9 m10 m11 m12 m14 m15 m18 m19 m20 m21 m22 : Int} {m8 m16 : Bool} {m0 : ByteArray} {m13 : Rows} {m17 : List Inn} (hN : 2097152 < N) (hf : G5 m17) (hl : m17.length ≤ 1000000) (h13 : m13.length ≤ 1048576) : Ht N [.str m0, .int m1, .int m2, .int m3, .int m4, .int m5, .int m6, .int m7, .bool m8, .int m9, .int m10, .int m11, .int m12, .rows m13, .int m14, .int m15, .bool m16, .rows (AR m17), .int m18, .int m19, .int m20, .int m21, .int m22, .str m0, .int m1, .int m2, .int m3, .int m4, .int m5, .int m6, .int m7, .bool m8, .int m9, .int m10, .int m11, .int m12, .rows m13, .int m14, .int m15, .bool m16, .rows (AR m17), .int m18, .int m19, .int m20, .int m21, .int m22] = some [.bool true] := by
 show HZ (std (Co N) N) (xOf _) = _
 simp only [HZ, O8, HR, std, xOf, PXb, PXc, PXn, PXm, Nat.reduceAdd, Int.reduceBEq, UL hN h13, J3 hN hf hl]
end Go.Px
end
section
namespace Go.Px
set_option maxRecDepth 100000
def evR (L : Rows) (i : Nat) : Ev := ⟨atI L i 0, atI L i 1, atI L i 2, atI L i 3, atB L i 4, atI L i 5, atI L i 6, ⟨atI L i 7, atI L i 8, atI L i 9, atI L i 10, atI L i 11, atB L i 12, atI L i 13, atI L i 14, atI L i 15, atI L i 16, atB L i 17, atI L i 18⟩⟩
theorem eo (L : Rows) (i : Nat) : (⟨atI L i 0, atI L i 1, atI L i 2, atI L i 3, atB L i 4, atI L i 5, atI L i 6, ⟨atI L i 7, atI L i 8, atI L i 9, atI L i 10, atI L i 11, atB L i 12, atI L i 13, atI L i 14, atI L i 15, atI L i 16, atB L i 17, atI L i 18⟩⟩ : Ev) = evR L i := rfl
def Ak (i : Int) (m : Mat) (e : Ev) : Mat × Int := cond (iLe 4000 i) (m, 26) (DK m e)
def Bt (L : Rows) : Nat → Nat → Mat → Mat × Int × Int
 | 0, _, m => (m, -1, 0)
 | k + 1, i, m => cond (!((Ak i m (evR L i)).2 == 0)) (m, (i : Int), (Ak i m (evR L i)).2) (Bt L k (i + 1) (Ak i m (evR L i)).1)
def V1 (i : Int) (m t : Mat) (d : Del) : List PV :=
 [.int i, .int (IntKind.i64.wrap ((m.inns.length : Int) - 1)), .int (Bl m).complete, .int (Bl m).inover, .int (Bl m).bowler, .int (Bl m).striker, .int (Bl m).other, .bool (Bl m).freehit,
  .int d.type, .int d.source, .int d.runs, .int d.short, .int d.boundary, .bool d.crossed, .int d.how, .int d.victim, .int d.fielder, .int d.second, .bool d.sub, .int d.sector,
  .int (BN m.rules d).batter, .int (BN m.rules d).wides, .int (BN m.rules d).noballs, .int (BN m.rules d).byes, .int (BN m.rules d).legbyes, .int (BN m.rules d).bowler, .bool (BN m.rules d).counts, .bool (BN m.rules d).faced, .bool (BN m.rules d).wicket, .bool (BN m.rules d).swap,
  .int (inn t.inns (lnx m.inns)).runs, .int (inn t.inns (lnx m.inns)).wickets]
def Po (L : Rows) : Nat → Nat → Mat → Rows → Rows
 | 0, _, _, out => out
 | k + 1, i, m, out => cond (!((Ak i m (evR L i)).2 == 0)) out (Po L k (i + 1) (Ak i m (evR L i)).1 (cond ((evR L i).kind == 4) (out ++ [V1 i m (Ak i m (evR L i)).1 (evR L i).ball]) out))
def Yg (f : Mat × Int × Int) : List PV := [.str f.1.rules.name, .int f.1.rules.side, .int f.1.rules.innings, .int f.1.rules.overs, .int f.1.rules.balls, .int f.1.rules.quota, .int f.1.rules.wide, .int f.1.rules.noball, .bool f.1.rules.freehit, .int f.1.rules.newball, .int f.1.rules.followon, .int f.1.rules.reviews, .int f.1.rules.outside, .rows f.1.rules.power, .int f.1.stage, .int f.1.first, .bool f.1.follow, .rows (AR f.1.inns), .int f.1.pen1, .int f.1.pen2, .int f.1.win, .int f.1.wside, .int f.1.margin, .int f.2.1, .int f.2.2]
def C9 (r : Rul) (L : Rows) : Mat × Int × Int := cond (!((B7 r).2 == 0)) (PH, 0, 1) (Bt L L.length 0 (B7 r).1)
def W8 (r : Rul) (L : Rows) : Rows := cond (!((B7 r).2 == 0)) [] (Po L L.length 0 (B7 r).1 [])
theorem Yz (L : Rows) : ∀ k i m, ((Bt L k i m).2.1 == -1) = true → (Bt L k i m).2.2 = 0
 | 0, _, _, _ => rfl
 | k + 1, i, m, h => by
  unfold Bt at h ⊢
  cases hq : (Ak i m (evR L i)).2 == 0 with
  | false =>
   rw [hq] at h
   have := beq_iff_eq.1 (show ((i : Int) == -1) = true from h)
   omega
  | true => rw [hq] at h; exact Yz L k (i + 1) _ h
theorem Vc {r : Rul} {m : Mat} (h : StepOk r m) (i : Int) (e : Ev) : StepOk r (Ak i m e).1 := by
 unfold Ak
 cases iLe 4000 i with
 | true => exact h
 | false => exact bR h e
theorem gD {m : Mat} {i : Int} {e : Ev} (h : ((Ak i m e).2 == 0) = true) : Ak i m e = DK m e ∧ iLe 4000 i = false := by
 unfold Ak at h ⊢
 cases h4 : iLe 4000 i with
 | true => rw [h4] at h; exact absurd (show ((26 : Int) == 0) = true from h) (by decide)
 | false => exact ⟨rfl, rfl⟩
theorem bS {N : Nat} {m1 m2 m3 m4 m5 m6 m7 m9 m10 m11 m12 m14 m15 m18 m19 m20 m21 m22 : Int} {m8 m16 : Bool} {m0 : ByteArray} {m13 : Rows} {m17 : List Inn} {i : Int} {e0 e1 e2 e3 e5 e6 e7 e8 e9 e10 e11 e13 e14 e15 e16 e18 : Int} {e4 e12 e17 : Bool} (hN : 2097152 < N) (hf : G5 m17) (hl : m17.length ≤ 1000000) (hs : m0.size ≤ 1048576) (h13 : m13.length ≤ 1048576) : Ka N [.str m0, .int m1, .int m2, .int m3, .int m4, .int m5, .int m6, .int m7, .bool m8, .int m9, .int m10, .int m11, .int m12, .rows m13, .int m14, .int m15, .bool m16, .rows (AR m17), .int m18, .int m19, .int m20, .int m21, .int m22, .int i, .int e0, .int e1, .int e2, .int e3, .bool e4, .int e5, .int e6, .int e7, .int e8, .int e9, .int e10, .int e11, .bool e12, .int e13, .int e14, .int e15, .int e16, .bool e17, .int e18] = some (Kc (Ak i (⟨⟨m0, m1, m2, m3, m4, m5, m6, m7, m8, m9, m10, m11, m12, m13⟩, m14, m15, m16, m17, m18, m19, m20, m21, m22⟩ : Mat) (⟨e0, e1, e2, e3, e4, e5, e6, ⟨e7, e8, e9, e10, e11, e12, e13, e14, e15, e16, e17, e18⟩⟩ : Ev))) := by
 show K5 (std (F0 N) N) (xOf _) = _
 generalize hres : (some (Kc (Ak i (⟨⟨m0, m1, m2, m3, m4, m5, m6, m7, m8, m9, m10, m11, m12, m13⟩, m14, m15, m16, m17, m18, m19, m20, m21, m22⟩ : Mat) (⟨e0, e1, e2, e3, e4, e5, e6, ⟨e7, e8, e9, e10, e11, e12, e13, e14, e15, e16, e17, e18⟩⟩ : Ev))) : Option (List PV)) = RR
 simp only [K5, QY, std, xOf, PXb, Tl hN hf hl hs h13]
 subst hres; simp only [Ak]
 cases iLe 4000 i <;> rfl
theorem WR {N : Nat} {i : Int} {m1 m2 m3 m4 m5 m6 m7 m9 m10 m11 m12 m14 m15 m18 m19 m20 m21 m22 : Int} {m8 m16 : Bool} {m0 : ByteArray} {m13 : Rows} {m17 : List Inn} {t1 t2 t3 t4 t5 t6 t7 t9 t10 t11 t12 t14 t15 t18 t19 t20 t21 t22 : Int} {t8 t16 : Bool} {t0 : ByteArray} {t13 : Rows} {t17 : List Inn} {d0 d1 d2 d3 d4 d6 d7 d8 d9 d11 : Int} {d5 d10 : Bool} (h1 : iIn (IntKind.i64.wrap ((m17.length : Int) - 1)) (m17.length : Int) = true) (h2 : iIn (IntKind.i64.wrap ((m17.length : Int) - 1)) (t17.length : Int) = true) : HL N [.int i, .str m0, .int m1, .int m2, .int m3, .int m4, .int m5, .int m6, .int m7, .bool m8, .int m9, .int m10, .int m11, .int m12, .rows m13, .int m14, .int m15, .bool m16, .rows (AR m17), .int m18, .int m19, .int m20, .int m21, .int m22, .str t0, .int t1, .int t2, .int t3, .int t4, .int t5, .int t6, .int t7, .bool t8, .int t9, .int t10, .int t11, .int t12, .rows t13, .int t14, .int t15, .bool t16, .rows (AR t17), .int t18, .int t19, .int t20, .int t21, .int t22, .int d0, .int d1, .int d2, .int d3, .int d4, .bool d5, .int d6, .int d7, .int d8, .int d9, .bool d10, .int d11] = some (V1 i (⟨⟨m0, m1, m2, m3, m4, m5, m6, m7, m8, m9, m10, m11, m12, m13⟩, m14, m15, m16, m17, m18, m19, m20, m21, m22⟩ : Mat) (⟨⟨t0, t1, t2, t3, t4, t5, t6, t7, t8, t9, t10, t11, t12, t13⟩, t14, t15, t16, t17, t18, t19, t20, t21, t22⟩ : Mat) (⟨d0, d1, d2, d3, d4, d5, d6, d7, d8, d9, d10, d11⟩ : Del)) := by
 show HG (std (Ia N) N) (xOf _) = _
 simp only [HG, KB, std, xOf, PXb, PXi, h1, h2, NX]
 rfl
end Go.Px
end
section
namespace Go.Px
set_option maxRecDepth 100000
def O2 (L : Rows) (i : Nat) (s : Rows × Mat) : List PV ⊕ Rows × Mat := cond (!((Ak i s.2 (evR L i)).2 == 0)) (.inl (.int 0 :: .rows s.1 :: .int i :: .int (Ak i s.2 (evR L i)).2 :: s.2.ls)) (.inr (cond ((evR L i).kind == 4) (s.1 ++ [V1 i s.2 (Ak i s.2 (evR L i)).1 (evR L i).ball]) s.1, (Ak i s.2 (evR L i)).1))
def bv (out : Rows) (f : Mat × Int × Int) : List PV := cond (f.2.1 == -1) (.int 1 :: .rows out :: f.1.ls) (.int 0 :: .rows out :: .int f.2.1 :: .int f.2.2 :: f.1.ls)
theorem Xh (L : Rows) : ∀ k i s, WV (O2 L) (fun s => .int 1 :: .rows s.1 :: s.2.ls) k i s = bv (Po L k i s.2 s.1) (Bt L k i s.2)
 | 0, _, _ => rfl
 | k + 1, i, s => by
  simp only [WV, O2, Bt, Po]
  cases (Ak i s.2 (evR L i)).2 == 0 with
  | false =>
   simp only [Bool.not_false, cond_true, bv]
   rw [show ((i : Int) == -1) = false from beq_false_of_ne (show (i : Int) ≠ -1 by omega)]
   rfl
  | true => exact Xh L k (i + 1) _
def dY (out : Rows) (f : Mat × Int × Int) : List PV := [.rows out, .str f.1.rules.name, .int f.1.rules.side, .int f.1.rules.innings, .int f.1.rules.overs, .int f.1.rules.balls, .int f.1.rules.quota, .int f.1.rules.wide, .int f.1.rules.noball, .bool f.1.rules.freehit, .int f.1.rules.newball, .int f.1.rules.followon, .int f.1.rules.reviews, .int f.1.rules.outside, .rows f.1.rules.power, .int f.1.stage, .int f.1.first, .bool f.1.follow, .rows (AR f.1.inns), .int f.1.pen1, .int f.1.pen2, .int f.1.win, .int f.1.wside, .int f.1.margin, .int f.2.1, .int f.2.2]
theorem gG {m t : Mat} {e : Ev} (hl : m.inns.length ≤ 5) (h : ((DK m e).2 == 0) = true) (hk : (e.kind == 4) = true) (ht : (DK m e).1 = t) : iIn (IntKind.i64.wrap ((m.inns.length : Int) - 1)) (m.inns.length : Int) = true ∧ iIn (IntKind.i64.wrap ((m.inns.length : Int) - 1)) (t.inns.length : Int) = true := by
 obtain ⟨_, h2, _, h4⟩ := bo h hk
 have := Qj h2 (show m.inns.length ≤ 1000000 by omega)
 rw [← ht, h4, List.length_set]
 exact ⟨this, this⟩
set_option maxHeartbeats 8000000 in
theorem bg {N : Nat} {r1 r2 r3 r4 r5 r6 r7 r9 r10 r11 r12 : Int} {r8 : Bool} {r0 : ByteArray} {r13 : Rows} {L : Rows} (hN : 2097152 < N) (hs : r0.size ≤ 1048576) (h13 : r13.length ≤ 1048576) (hL : L.length ≤ 1048576) : IR N [.str r0, .int r1, .int r2, .int r3, .int r4, .int r5, .int r6, .int r7, .bool r8, .int r9, .int r10, .int r11, .int r12, .rows r13, .rows L] = some (dY (W8 (⟨r0, r1, r2, r3, r4, r5, r6, r7, r8, r9, r10, r11, r12, r13⟩ : Rul) L) (C9 (⟨r0, r1, r2, r3, r4, r5, r6, r7, r8, r9, r10, r11, r12, r13⟩ : Rul) L)) := by
  show Ky (std (Cy N) N) (xOf _) = _
  generalize hres : (some (dY (W8 (⟨r0, r1, r2, r3, r4, r5, r6, r7, r8, r9, r10, r11, r12, r13⟩ : Rul) L) (C9 (⟨r0, r1, r2, r3, r4, r5, r6, r7, r8, r9, r10, r11, r12, r13⟩ : Rul) L)) : Option (List PV)) = RR
  simp only [Ky, RE, LH, HV, std, xOf, PXb, ae hN hs h13]
  subst hres; simp only [W8, C9]
  have nk := bC (⟨r0, r1, r2, r3, r4, r5, r6, r7, r8, r9, r10, r11, r12, r13⟩ : Rul)
  generalize B7 (⟨r0, r1, r2, r3, r4, r5, r6, r7, r8, r9, r10, r11, r12, r13⟩ : Rul) = X at nk
  obtain ⟨⟨⟨m0, m1, m2, m3, m4, m5, m6, m7, m8, m9, m10, m11, m12, m13⟩, m14, m15, m16, m17, m18, m19, m20, m21, m22⟩, l⟩ := X
  simp only at nk
  simp only [PXb, PXc, PXk, Nat.reduceAdd]
  cases hl : l == 0
  case false => rfl
  have ok := nk hl
  simp only [PXb]
  refine Ac (Xp (St := Rows × Mat) (len := L.length) (enc := fun i s => [.rows s.1, .int (i : Int), .str s.2.rules.name, .int s.2.rules.side, .int s.2.rules.innings, .int s.2.rules.overs, .int s.2.rules.balls, .int s.2.rules.quota, .int s.2.rules.wide, .int s.2.rules.noball, .bool s.2.rules.freehit, .int s.2.rules.newball, .int s.2.rules.followon, .int s.2.rules.reviews, .int s.2.rules.outside, .rows s.2.rules.power, .int s.2.stage, .int s.2.first, .bool s.2.follow, .rows (AR s.2.inns), .int s.2.pen1, .int s.2.pen2, .int s.2.win, .int s.2.wside, .int s.2.margin])
    (body := O2 L) (fin := fun s => .int 1 :: .rows s.1 :: s.2.ls) (fun i s => StepOk (⟨r0, r1, r2, r3, r4, r5, r6, r7, r8, r9, r10, r11, r12, r13⟩ : Rul) s.2 ∧ s.1.length ≤ i) ?_ ?_ L.length 0 ([], (⟨⟨m0, m1, m2, m3, m4, m5, m6, m7, m8, m9, m10, m11, m12, m13⟩, m14, m15, m16, m17, m18, m19, m20, m21, m22⟩ : Mat)) N (by omega) (by omega) ⟨ok, Nat.zero_le _⟩) ?_
  · intro m self _
    simp only [PXb, PXc, PXn, AE, BV]
    rfl
  · intro i s self hi ok
    obtain ⟨out, ⟨⟨a0, a1, a2, a3, a4, a5, a6, a7, a8, a9, a10, a11, a12, a13⟩, a14, a15, a16, a17, a18, a19, a20, a21, a22⟩⟩ := s
    obtain ⟨ok, hout⟩ := ok
    have o1 := ok.rules
    have o2 := ok.fit
    have o3 := ok.len
    simp only at o1 o2 o3 hout
    cases o1
    have kp := Vc ok (i : Int) (evR L i)
    have acc := gD (m := (⟨⟨r0, r1, r2, r3, r4, r5, r6, r7, r8, r9, r10, r11, r12, r13⟩, a14, a15, a16, a17, a18, a19, a20, a21, a22⟩ : Mat)) (i := (i : Int)) (e := evR L i)
    refine ⟨?_, ?_⟩
    · simp only [PXb, PXc, PXn, AE, Al (show i ≤ 1099511627776 by omega), BC hi, Ag hi, LH, bS hN o2 (show a17.length ≤ 1000000 by omega) hs h13, CJ, XN, Nat.reduceAdd, PXk, PXc, eo, List.length_append, List.length_cons, List.length_nil, HV]
      unfold O2
      simp only
      generalize hT : Ak (i : Int) (⟨⟨r0, r1, r2, r3, r4, r5, r6, r7, r8, r9, r10, r11, r12, r13⟩, a14, a15, a16, a17, a18, a19, a20, a21, a22⟩ : Mat) (evR L i) = T at acc
      obtain ⟨⟨⟨b0, b1, b2, b3, b4, b5, b6, b7, b8, b9, b10, b11, b12, b13⟩, b14, b15, b16, b17, b18, b19, b20, b21, b22⟩, l2⟩ := T
      simp only at acc
      simp only
      cases hl2 : l2 == 0
      case false => rfl
      have hk0 : (evR L i).kind = atI L i 0 := rfl
      rw [hk0]
      simp only [PXb]
      cases hk : atI L i 0 == 4
      case false => rfl
      have ha := (acc hl2).1
      have hd := gG (m := (⟨⟨r0, r1, r2, r3, r4, r5, r6, r7, r8, r9, r10, r11, r12, r13⟩, a14, a15, a16, a17, a18, a19, a20, a21, a22⟩ : Mat)) (e := evR L i) o3 (by rw [← ha]; exact hl2) hk (congrArg Prod.fst ha).symm
      simp only at hd
      have h216 : iSm ((out.length + 1 : Nat) : Int) 216 = true := Ku (by omega) (by omega)
      simp only [PXb, PXc, WR hd.1 hd.2, h216]
      rfl
    · intro s' h
      unfold O2 at h
      simp only at h
      cases hq : (Ak (i : Int) (⟨⟨r0, r1, r2, r3, r4, r5, r6, r7, r8, r9, r10, r11, r12, r13⟩, a14, a15, a16, a17, a18, a19, a20, a21, a22⟩ : Mat) (evR L i)).2 == 0 with
      | false => rw [hq] at h; cases h
      | true =>
        rw [hq] at h; cases h
        refine ⟨kp, ?_⟩
        cases (evR L i).kind == 4 with
        | false => show out.length ≤ _; omega
        | true => show (out ++ [_]).length ≤ _; rw [List.length_append]; simp; omega
  · rw [Xh]
    have he := Yz L L.length 0 (⟨⟨m0, m1, m2, m3, m4, m5, m6, m7, m8, m9, m10, m11, m12, m13⟩, m14, m15, m16, m17, m18, m19, m20, m21, m22⟩ : Mat)
    simp only
    generalize Po L L.length 0 (⟨⟨m0, m1, m2, m3, m4, m5, m6, m7, m8, m9, m10, m11, m12, m13⟩, m14, m15, m16, m17, m18, m19, m20, m21, m22⟩ : Mat) [] = out
    generalize Bt L L.length 0 (⟨⟨m0, m1, m2, m3, m4, m5, m6, m7, m8, m9, m10, m11, m12, m13⟩, m14, m15, m16, m17, m18, m19, m20, m21, m22⟩ : Mat) = f at he
    obtain ⟨⟨⟨a0, a1, a2, a3, a4, a5, a6, a7, a8, a9, a10, a11, a12, a13⟩, a14, a15, a16, a17, a18, a19, a20, a21, a22⟩, b, l⟩ := f
    simp only at he
    unfold bv
    cases hb : b == -1 with
    | false => rfl
    | true =>
      rw [he hb, beq_iff_eq.1 hb]
      rfl
end Go.Px
end
section
namespace Go.Px
set_option maxRecDepth 100000
theorem Oj {N : Nat} {r1 r2 r3 r4 r5 r6 r7 r9 r10 r11 r12 : Int} {r8 : Bool} {r0 : ByteArray} {r13 : Rows} {L : Rows} (hN : 2097152 < N) (hs : r0.size ≤ 1048576) (h13 : r13.length ≤ 1048576) (hL : L.length ≤ 1048576) : Bo N [.str r0, .int r1, .int r2, .int r3, .int r4, .int r5, .int r6, .int r7, .bool r8, .int r9, .int r10, .int r11, .int r12, .rows r13, .rows L] = some (Yg (C9 (⟨r0, r1, r2, r3, r4, r5, r6, r7, r8, r9, r10, r11, r12, r13⟩ : Rul) L)) := by
 show Ho (std (Dq N) N) (xOf _) = _
 generalize hres : (some (Yg (C9 (⟨r0, r1, r2, r3, r4, r5, r6, r7, r8, r9, r10, r11, r12, r13⟩ : Rul) L)) : Option (List PV)) = RR
 simp only [Ho, Qo, std, xOf, PXb, bg hN hs h13 hL]
 subst hres
 rfl
def OQ (r : Rul) (L : Rows) : Int := cond (!(A9 r == 0)) (A9 r) (cond (iLt 4000 (L.length : Int)) 9 (cond (!((C9 r L).2.2 == 0)) 10 0))
theorem aZ {N : Nat} {r1 r2 r3 r4 r5 r6 r7 r9 r10 r11 r12 : Int} {r8 : Bool} {r0 : ByteArray} {r13 : Rows} {L : Rows} (hN : 2097152 < N) (hs : r0.size ≤ 1048576) (h13 : r13.length ≤ 1048576) (hL : L.length ≤ 1048576) : Iu N [.str r0, .int r1, .int r2, .int r3, .int r4, .int r5, .int r6, .int r7, .bool r8, .int r9, .int r10, .int r11, .int r12, .rows r13, .rows L] = some [.int (OQ (⟨r0, r1, r2, r3, r4, r5, r6, r7, r8, r9, r10, r11, r12, r13⟩ : Rul) L)] := by
 show I0 (std (DN N) N) (xOf _) = _
 generalize hres : (some [.int (OQ (⟨r0, r1, r2, r3, r4, r5, r6, r7, r8, r9, r10, r11, r12, r13⟩ : Rul) L)] : Option (List PV)) = RR
 simp only [I0, QJ, O9, std, xOf, PXb, CB hN hs, Oj hN hs h13 hL, PXm]
 subst hres; simp only [OQ]
 rfl
def Ft (L : Rows) (n : Int) : Rows := (L.take n.toNat).drop (0 : Int).toNat
theorem dZ (L : Rows) (n : Int) : (Ft L n).length ≤ L.length := by
 unfold Ft
 rw [List.length_drop, List.length_take]
 omega
theorem gA {n : Int} {k : Nat} (h : (iLt n 0 || iLt (k : Int) n) = false) : iRg 0 n (k : Int) = true := by
 rw [Bool.or_eq_false_iff] at h
 simp only [iLt, decide_eq_false_iff_not] at h
 simp only [iRg, decide_eq_true_eq]
 omega
def atS (r : Rul) (L : Rows) (n : Int) : Mat × Int := cond (!(A9 r == 0)) (PH, A9 r) (cond (iLt n 0 || iLt (L.length : Int) n) (PH, 2) (cond (!((C9 r (Ft L n)).2.2 == 0)) (PH, 10) ((C9 r (Ft L n)).1, 0)))
theorem eH {N : Nat} {r1 r2 r3 r4 r5 r6 r7 r9 r10 r11 r12 : Int} {r8 : Bool} {r0 : ByteArray} {r13 : Rows} {L : Rows} {n : Int} (hN : 2097152 < N) (hs : r0.size ≤ 1048576) (h13 : r13.length ≤ 1048576) (hL : L.length ≤ 1048576) : OI N [.str r0, .int r1, .int r2, .int r3, .int r4, .int r5, .int r6, .int r7, .bool r8, .int r9, .int r10, .int r11, .int r12, .rows r13, .rows L, .int n] = some (Kc (atS (⟨r0, r1, r2, r3, r4, r5, r6, r7, r8, r9, r10, r11, r12, r13⟩ : Rul) L n)) := by
 show OL (std (GQ N) N) (xOf _) = _
 generalize hres : (some (Kc (atS (⟨r0, r1, r2, r3, r4, r5, r6, r7, r8, r9, r10, r11, r12, r13⟩ : Rul) L n)) : Option (List PV)) = RR
 simp only [OL, LI, Rq, std, xOf, PXb, CB hN hs]
 subst hres; simp only [atS]
 cases A9 (⟨r0, r1, r2, r3, r4, r5, r6, r7, r8, r9, r10, r11, r12, r13⟩ : Rul) == 0
 case false => rfl
 cases hb : iLt n 0 || iLt (L.length : Int) n
 case true => rfl
 have hf := Nat.le_trans (dZ L n) hL
 simp only [PXb, gA hb, LI]
 change (Option.bind (Bo N [.str r0, .int r1, .int r2, .int r3, .int r4, .int r5, .int r6, .int r7, .bool r8, .int r9, .int r10, .int r11, .int r12, .rows r13, .rows (Ft L n)]) _) = _
 rw [Oj hN hs h13 hf]
 simp only [PXb, PXc, Yg]
 cases (C9 (⟨r0, r1, r2, r3, r4, r5, r6, r7, r8, r9, r10, r11, r12, r13⟩ : Rul) (Ft L n)).2.2 == 0 <;> rfl
theorem YL {N : Nat} {r1 r2 r3 r4 r5 r6 r7 r9 r10 r11 r12 : Int} {r8 : Bool} {r0 : ByteArray} {r13 : Rows}  : GW N [.str r0, .int r1, .int r2, .int r3, .int r4, .int r5, .int r6, .int r7, .bool r8, .int r9, .int r10, .int r11, .int r12, .rows r13] = some (Rk (⟨r0, r1, r2, r3, r4, r5, r6, r7, r8, r9, r10, r11, r12, r13⟩ : Rul)).ls := by
 show Gn (std (En N) N) (xOf _) = _
 simp only [Gn, std, xOf, PXb, PXc, PXn, PXm, Nat.reduceAdd, Int.reduceBEq, bZ (show (0 : Int) ≤ 20 by omega), bZ (show (0 : Int) ≤ 10 by omega)]
 rfl
theorem dC {N : Nat} {L : Rows}  : Mj N [.rows L] = some [.rows (cut L 70)] := by
 show ML (std (Iv N) N) (xOf _) = _
 simp only [ML, std, xOf, PXb, PXc, PXn, PXm, Nat.reduceAdd, Int.reduceBEq, bZ (show (0 : Int) ≤ 70 by omega)]
 rfl
structure LogOk (m : Mat) : Prop where
 fit : G5 m.inns
 len : m.inns.length ≤ 5
 name : m.rules.name.size ≤ 1048576
 power : m.rules.power.length ≤ 1048576
end Go.Px
end
section
namespace Go.Px
set_option maxRecDepth 100000
def acc (L : Rows) : Nat → Nat → Mat → Prop
 | 0, _, _ => True
 | k + 1, i, m => ((Ak i m (evR L i)).2 == 0) = true ∧ acc L k (i + 1) (Ak i m (evR L i)).1
def stM (L : Rows) : Nat → Nat → Mat → Mat
 | 0, _, m => m
 | k + 1, i, m => stM L k (i + 1) (Ak i m (evR L i)).1
def em (L : Rows) : Nat → Nat → Mat → Rows → Rows
 | 0, _, _, out => out
 | k + 1, i, m, out => em L k (i + 1) (Ak i m (evR L i)).1 (cond ((evR L i).kind == 4) (out ++ [V1 i m (Ak i m (evR L i)).1 (evR L i).ball]) out)
theorem Rb {L : Rows} : ∀ k j i m, acc L k i m → Bt L (k + j) i m = Bt L j (i + k) (stM L k i m)
 | 0, j, i, m, _ => by rw [Nat.zero_add]; rfl
 | k + 1, j, i, m, h => by
  have ih := Rb k j (i + 1) _ h.2
  rw [show k + 1 + j = (k + j) + 1 by omega, show i + (k + 1) = i + 1 + k by omega]
  simp only [Bt, h.1, Bool.not_true, cond_false]
  exact ih
theorem Y3 (L : Rows) : ∀ K i m, ∃ k, k ≤ K ∧ acc L k i m ∧ (∀ out, Po L K i m out = em L k i m out) ∧
    ((k = K ∧ Bt L K i m = (stM L k i m, -1, 0)) ∨ (k < K ∧ ((Ak ((i + k : Nat) : Int) (stM L k i m) (evR L (i + k))).2 == 0) = false ∧ Bt L K i m = (stM L k i m, ((i + k : Nat) : Int), (Ak ((i + k : Nat) : Int) (stM L k i m) (evR L (i + k))).2)))
  | 0, i, m => ⟨0, Nat.le_refl _, trivial, fun _ => rfl, Or.inl ⟨rfl, rfl⟩⟩
  | K + 1, i, m => by
    cases hq : (Ak i m (evR L i)).2 == 0 with
    | false =>
      refine ⟨0, Nat.zero_le _, trivial, fun out => ?_, Or.inr ⟨Nat.succ_pos _, hq, ?_⟩⟩
      · simp only [Po, hq, Bool.not_false, cond_true]; rfl
      · simp only [Bt, hq, Bool.not_false, cond_true]; rfl
    | true =>
      obtain ⟨k, h1, h2, h3, h4⟩ := Y3 L K (i + 1) (Ak i m (evR L i)).1
      refine ⟨k + 1, Nat.succ_le_succ h1, ⟨hq, h2⟩, fun out => ?_, ?_⟩
      · simp only [Po, hq, Bool.not_true, cond_false]
        exact h3 _
      · have e : Bt L (K + 1) i m = Bt L K (i + 1) (Ak i m (evR L i)).1 := by simp only [Bt, hq, Bool.not_true, cond_false]
        rw [e, show i + (k + 1) = i + 1 + k by omega]
        rcases h4 with ⟨h5, h6⟩ | ⟨h5, h6⟩
        · exact Or.inl ⟨by omega, h6⟩
        · exact Or.inr ⟨by omega, h6⟩
theorem ee {L : Rows} {k i : Nat} {m : Mat} (h : acc L k i m) : Bt L k i m = (stM L k i m, -1, 0) := Rb k 0 i m h
theorem eR {L : Rows} {n : Int} {i : Nat} (h : (i : Int) < n) : evR (Ft L n) i = evR L i := by
 have e : ∀ j, AJ (Ft L n) i j = AJ L i j := fun j => by
  unfold AJ A8 Ft
  rw [List.getD_eq_getElem?_getD, List.getD_eq_getElem?_getD, List.getElem?_drop, List.getElem?_take, if_pos (by omega)]
  simp
 unfold evR atI atB
 simp only [e]
theorem cD {L : Rows} {n : Nat} (h : n ≤ L.length) : (Ft L (n : Int)).length = n := by
 unfold Ft
 rw [List.length_drop, List.length_take]
 omega
theorem Wb {L : Rows} {n : Int} : ∀ k i m, ((i + k : Nat) : Int) ≤ n → Bt (Ft L n) k i m = Bt L k i m
 | 0, _, _, _ => rfl
 | k + 1, i, m, h => by
  simp only [Bt]
  rw [eR (show (i : Int) < n by omega), Wb k (i + 1) _ (by omega)]
theorem ZL {r : Rul} {L : Rows} {n : Nat} (hc : ((B7 r).2 == 0) = true) (h : n ≤ L.length) : C9 r (Ft L (n : Int)) = Bt L n 0 (B7 r).1 := by
 unfold C9
 rw [hc, cD h]
 exact Wb n 0 _ (by omega)
theorem Rl (r : Rul) : ((B7 r).2 == 0) = (A9 r == 0) := by
 unfold B7
 cases h : A9 r == 0 with
 | false => exact h
 | true => rfl
theorem eu {r : Rul} {L : Rows} : ∀ k i m, StepOk r m → StepOk r (stM L k i m)
 | 0, _, _, h => h
 | k + 1, i, m, h => eu k (i + 1) _ (Vc h _ _)
theorem gR {n : Int} {k : Nat} (h0 : 0 ≤ n) (h : 0 < k) (hk : k ≤ 1000000) : ∃ j : Nat, j < k ∧ n.tmod (k : Int) = (j : Int) := by
 have h1 := Int.tmod_nonneg (k : Int) h0
 have h2 := Int.tmod_lt_of_pos n (show (0 : Int) < (k : Int) by omega)
 exact ⟨(n.tmod (k : Int)).toNat, by omega, by omega⟩
theorem ay {L : Rows} : ∀ k i m, acc L k i m → ((Ak ((i + k : Nat) : Int) (stM L k i m) (evR L (i + k))).2 == 0) = true → acc L (k + 1) i m
 | 0, i, m, _, h => ⟨h, trivial⟩
 | k + 1, i, m, ha, h => by
  refine ⟨ha.1, ay k (i + 1) _ ha.2 ?_⟩
  rw [show i + 1 + k = i + (k + 1) by omega]
  exact h
theorem Y6 {L : Rows} : ∀ k i m, stM L (k + 1) i m = (Ak ((i + k : Nat) : Int) (stM L k i m) (evR L (i + k))).1
 | 0, i, m => rfl
 | k + 1, i, m => by
  show stM L (k + 1) (i + 1) _ = _
  rw [Y6 k (i + 1), show i + 1 + k = i + (k + 1) by omega]
  rfl
theorem Th {L : Rows} {k K : Nat} {m : Mat} (ha : acc L k 0 m) (hk : k < K) (h : ((Ak (k : Int) (stM L k 0 m) (evR L k)).2 == 0) = false) : Bt L K 0 m = (stM L k 0 m, (k : Int), (Ak (k : Int) (stM L k 0 m) (evR L k)).2) := by
 obtain ⟨j, rfl⟩ : ∃ j, K = k + (j + 1) := ⟨K - k - 1, by omega⟩
 rw [Rb k (j + 1) 0 m ha, Nat.zero_add]
 simp only [Bt, h, Bool.not_false, cond_true]
theorem f8 {n : Nat} {l : Nat} (h : n ≤ l) : (iLt (n : Int) 0 || iLt (l : Int) (n : Int)) = false := by
 simp only [iLt, Bool.or_eq_false_iff, decide_eq_false_iff_not]
 omega
theorem VN {r : Rul} {L : Rows} {n : Nat} (hc : (A9 r == 0) = true) (h : n ≤ L.length) : atS r L (n : Int) = cond (!((Bt L n 0 (B7 r).1).2.2 == 0)) (PH, 10) ((Bt L n 0 (B7 r).1).1, 0) := by
 unfold atS
 rw [hc, f8 h, ZL ((Rl r).trans hc) h]
 rfl
theorem ZQ {r : Rul} {L : Rows} {n : Nat} (hc : (A9 r == 0) = true) (h : n ≤ L.length) (ha : acc L n 0 (B7 r).1) : atS r L (n : Int) = (stM L n 0 (B7 r).1, 0) := by
 rw [VN hc h, ee ha]
 rfl
set_option maxHeartbeats 2000000 in
theorem XR {N : Nat} {r1 r2 r3 r4 r5 r6 r7 r9 r10 r11 r12 : Int} {r8 : Bool} {r0 : ByteArray} {r13 : Rows} {L : Rows} {k : Int} (ha : Gw N [] = some [.bool true]) (hN : 2097152 < N) (hs : r0.size ≤ 1048576) (hk : 0 ≤ k ∧ k ≤ 255) : Fb N [.str r0, .int r1, .int r2, .int r3, .int r4, .int r5, .int r6, .int r7, .bool r8, .int r9, .int r10, .int r11, .int r12, .rows r13, .rows L, .int k] = some [.bool true] := by
 show Fk (std (Aq N) N) (xOf _) = _
 have nn := ZH (⟨r0, r1, r2, r3, r4, r5, r6, r7, r8, r9, r10, r11, r12, r13⟩ : Rul) hs
 have p := YV (⟨r0, r1, r2, r3, r4, r5, r6, r7, r8, r9, r10, r11, r12, r13⟩ : Rul)
 have l : (cut L 70).length ≤ 1048576 := Nat.le_trans (ZV L 70) (show 70 ≤ 1048576 by omega)
 have l70 : (cut L 70).length ≤ 70 := ZV L 70
 simp only [Fk, Ob, M4, QF, Nq, On, Qy, Ns, NZ, std, xOf, PXb, PXc, PXn, PXm, Nat.reduceAdd, Int.reduceBEq, ha, YL, dC, Rul.ls, aZ (L := []) hN nn p (Nat.zero_le _), eH hN nn p l, Kc, PXc]
 generalize Rk (⟨r0, r1, r2, r3, r4, r5, r6, r7, r8, r9, r10, r11, r12, r13⟩ : Rul) = R at *
 generalize cut L 70 = X at *
 cases h0 : (X.length : Int) == 0
 case true => simp only [h0, PXb, Bool.true_or, Bool.true_and]
 cases hc : A9 R == 0
 case false =>
  have ck : (OQ R [] == 0) = false := by unfold OQ; rw [hc]; exact hc
  simp only [h0, ck, PXb, Bool.false_or, Bool.not_false, Bool.and_self]
 have ck : (OQ R [] == 0) = true := by unfold OQ C9; rw [hc, Rl, hc]; rfl
 have hpos : 0 < X.length := by
  rw [beq_eq_false_iff_ne] at h0
  omega
 obtain ⟨n, hn, hk'⟩ := gR (k := X.length) hk.1 hpos (by omega)
 have wk : IntKind.i64.wrap k = k := Ge (by omega) (by omega)
 have rn : iIn (n : Int) (X.length : Int) = true := Ag hn
 have wn : IntKind.i64.wrap ((n : Int) + 1) = ((n + 1 : Nat) : Int) := Ge (by omega) (by omega)
 have tn : ((n : Int)).toNat = n := Int.toNat_natCast n
 simp only [h0, ck, wk, hk', rn, wn, tn, Bool.false_or, Bool.not_false, Bool.not_true, Bool.and_false, cond_false, cond_true]
 obtain ⟨j, h1, h2, _, h4⟩ := Y3 X n 0 (B7 R).1
 rcases h4 with ⟨h5, h6⟩ | ⟨h5, h6, h7⟩
 case inr =>
  have a1 : atS R X (n : Int) = (PH, 10) := by
   rw [VN hc (show n ≤ X.length by omega), h7]
   simp only [h6, Bool.not_false, cond_true]
  rw [a1]
  rfl
 subst h5
 rw [ZQ hc (show j ≤ X.length by omega) h2]
 have ok := eu (r := R) (L := X) j 0 _ (bC R ((Rl R).trans hc))
 have o1 := ok.rules
 have hs1 : (stM X j 0 (B7 R).1).rules.name.size ≤ 1048576 := by rw [o1]; exact nn
 have hp1 : (stM X j 0 (B7 R).1).rules.power.length ≤ 1048576 := by rw [o1]; exact p
 have hst : Ak (j : Int) (stM X j 0 (B7 R).1) (evR X j) = DK (stM X j 0 (B7 R).1) (evR X j) := by
  have : iLe 4000 (j : Int) = false := by simp only [iLe, decide_eq_false_iff_not]; omega
  unfold Ak
  rw [this]
  rfl
 have kp := Vc ok (j : Int) (evR X j)
 simp only [PXb, CJ, XN, Tl hN ok.fit (Nat.le_trans ok.len (show 5 ≤ 1000000 by omega)) hs1 hp1, Kc, PXc, eo]
 rw [hst] at kp
 cases hq : (DK (stM X j 0 (B7 R).1) (evR X j)).2 == 0
 case false =>
  have hq' : ((Ak (j : Int) (stM X j 0 (B7 R).1) (evR X j)).2 == 0) = false := by rw [hst]; exact hq
  have e1 := Th h2 (Nat.lt_succ_self j) hq'
  have e2 := Th h2 hn hq'
  have hrep : C9 R X = Bt X X.length 0 (B7 R).1 := by unfold C9; rw [Rl, hc]; rfl
  have a2 : atS R X ((j + 1 : Nat) : Int) = (PH, 10) := by
   rw [VN hc (show j + 1 ≤ X.length by omega), e1]
   simp only [hq', Bool.not_false, cond_true]
  simp only [hq, a2, Oj hN nn p l, hrep, e2, hst, Bool.not_false, PXb, Yg, PXc]
  show some [PV.bool ((10 : Int) == 10 && (j : Int) == (j : Int) && (DK (stM X j 0 (B7 R).1) (evR X j)).2 == (DK (stM X j 0 (B7 R).1) (evR X j)).2)] = _
  simp only [beq_self_eq_true, Bool.and_self]
 case true =>
  have hq' : ((Ak ((0 + j : Nat) : Int) (stM X j 0 (B7 R).1) (evR X (0 + j))).2 == 0) = true := by rw [Nat.zero_add, hst]; exact hq
  have a2 := ZQ hc (show j + 1 ≤ X.length by omega) (ay j 0 _ h2 hq')
  rw [Y6 j 0, Nat.zero_add, hst] at a2
  have hs2 : (DK (stM X j 0 (B7 R).1) (evR X j)).1.rules.name.size ≤ 1048576 := by rw [kp.rules]; exact nn
  have hp2 : (DK (stM X j 0 (B7 R).1) (evR X j)).1.rules.power.length ≤ 1048576 := by rw [kp.rules]; exact p
  simp only [hq, a2, Bool.not_true, PXb, PXc, UH hN kp.fit (Nat.le_trans kp.len (show 5 ≤ 1000000 by omega)) hp2]
  rfl
end Go.Px
end
