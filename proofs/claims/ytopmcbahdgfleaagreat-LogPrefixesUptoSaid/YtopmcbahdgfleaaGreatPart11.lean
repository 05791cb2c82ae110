/- Part 11. -/
import Derived.Test.YtopmcbahdgfleaaGreatPart07
import Derived.Test.YtopmcbahdgfleaaGreatPart10
set_option linter.unusedVariables false
set_option linter.unusedSimpArgs false
section
namespace Go.Px
def AS (xs : List Inn) : Rows := xs.map Inn.ls
def dI : Inn := ⟨0, 0, 0, 0, 0, 0, 0, 0, 0, 0, 0, 0, 0, 0, [], 0, [], [], false, [], false, 0, 0, 0, [], 0, 0, 0⟩
def inn (xs : List Inn) (i : Nat) : Inn := xs.getD i dI
structure Mat where
 rules : Rul
 stage : Int
 first : Int
 follow : Bool
 inns : List Inn
 pen1 : Int
 pen2 : Int
 win : Int
 wside : Int
 margin : Int
def Mat.ls (m : Mat) : List PV := [.str m.rules.name, .int m.rules.side, .int m.rules.innings, .int m.rules.overs, .int m.rules.balls, .int m.rules.quota, .int m.rules.wide, .int m.rules.noball, .bool m.rules.freehit, .int m.rules.newball, .int m.rules.followon, .int m.rules.reviews, .int m.rules.outside, .rows m.rules.power, .int m.stage, .int m.first, .bool m.follow, .rows (AS m.inns), .int m.pen1, .int m.pen2, .int m.win, .int m.wside, .int m.margin]
def MO (x : Mat × Int) : List PV := [.str x.1.rules.name, .int x.1.rules.side, .int x.1.rules.innings, .int x.1.rules.overs, .int x.1.rules.balls, .int x.1.rules.quota, .int x.1.rules.wide, .int x.1.rules.noball, .bool x.1.rules.freehit, .int x.1.rules.newball, .int x.1.rules.followon, .int x.1.rules.reviews, .int x.1.rules.outside, .rows x.1.rules.power, .int x.1.stage, .int x.1.first, .bool x.1.follow, .rows (AS x.1.inns), .int x.1.pen1, .int x.1.pen2, .int x.1.win, .int x.1.wside, .int x.1.margin, .int x.2]
theorem Xb (xs : List Inn) (i : Nat) : A8 (AS xs) i = (match xs[i]? with | some s => s.ls | none => []) := by
 unfold A8 AS
 rw [List.getD_eq_getElem?_getD, List.getElem?_map]
 cases xs[i]? <;> rfl
theorem OY (xs : List Inn) (i : Nat) : inn xs i = (match xs[i]? with | some s => s | none => dI) := by
 unfold inn
 rw [List.getD_eq_getElem?_getD]
 cases xs[i]? <;> rfl
theorem Vb (xs : List Inn) : (AS xs).length = xs.length := List.length_map _
theorem PXi : (∀ xs : List Inn, (AS xs).length = xs.length) ∧ (∀ (xs : List Inn) (i : Nat), pvI (AJ (AS xs) i 0) = (inn xs i).side) ∧ (∀ (xs : List Inn) (i : Nat), pvI (AJ (AS xs) i 1) = (inn xs i).target) ∧ (∀ (xs : List Inn) (i : Nat), pvI (AJ (AS xs) i 2) = (inn xs i).overs) ∧ (∀ (xs : List Inn) (i : Nat), pvI (AJ (AS xs) i 3) = (inn xs i).runs) ∧
    (∀ (xs : List Inn) (i : Nat), pvI (AJ (AS xs) i 4) = (inn xs i).wickets) ∧ (∀ (xs : List Inn) (i : Nat), pvI (AJ (AS xs) i 5) = (inn xs i).wides) ∧ (∀ (xs : List Inn) (i : Nat), pvI (AJ (AS xs) i 6) = (inn xs i).noballs) ∧ (∀ (xs : List Inn) (i : Nat), pvI (AJ (AS xs) i 7) = (inn xs i).byes) ∧ (∀ (xs : List Inn) (i : Nat), pvI (AJ (AS xs) i 8) = (inn xs i).legbyes) ∧
    (∀ (xs : List Inn) (i : Nat), pvI (AJ (AS xs) i 9) = (inn xs i).pens) ∧ (∀ (xs : List Inn) (i : Nat), pvI (AJ (AS xs) i 10) = (inn xs i).complete) ∧ (∀ (xs : List Inn) (i : Nat), pvI (AJ (AS xs) i 11) = (inn xs i).inover) ∧ (∀ (xs : List Inn) (i : Nat), pvI (AJ (AS xs) i 12) = (inn xs i).striker) ∧ (∀ (xs : List Inn) (i : Nat), pvI (AJ (AS xs) i 13) = (inn xs i).other) ∧
    (∀ (xs : List Inn) (i : Nat), pvL (AJ (AS xs) i 14) = (inn xs i).batters) ∧ (∀ (xs : List Inn) (i : Nat), pvI (AJ (AS xs) i 15) = (inn xs i).bowler) ∧ (∀ (xs : List Inn) (i : Nat), pvL (AJ (AS xs) i 16) = (inn xs i).bowlers) ∧ (∀ (xs : List Inn) (i : Nat), pvL (AJ (AS xs) i 17) = (inn xs i).before) ∧ (∀ (xs : List Inn) (i : Nat), pvB (AJ (AS xs) i 18) = (inn xs i).fresh) ∧
    (∀ (xs : List Inn) (i : Nat), pvL (AJ (AS xs) i 19) = (inn xs i).bowled) ∧ (∀ (xs : List Inn) (i : Nat), pvB (AJ (AS xs) i 20) = (inn xs i).freehit) ∧ (∀ (xs : List Inn) (i : Nat), pvI (AJ (AS xs) i 21) = (inn xs i).ballage) ∧ (∀ (xs : List Inn) (i : Nat), pvI (AJ (AS xs) i 22) = (inn xs i).keeper) ∧ (∀ (xs : List Inn) (i : Nat), pvI (AJ (AS xs) i 23) = (inn xs i).outside) ∧
    (∀ (xs : List Inn) (i : Nat), pvL (AJ (AS xs) i 24) = (inn xs i).subs) ∧ (∀ (xs : List Inn) (i : Nat), pvI (AJ (AS xs) i 25) = (inn xs i).rev1) ∧ (∀ (xs : List Inn) (i : Nat), pvI (AJ (AS xs) i 26) = (inn xs i).rev2) ∧ (∀ (xs : List Inn) (i : Nat), pvI (AJ (AS xs) i 27) = (inn xs i).ending) := by
  refine ⟨Vb, ?_, ?_, ?_, ?_, ?_, ?_, ?_, ?_, ?_, ?_, ?_, ?_, ?_, ?_, ?_, ?_, ?_, ?_, ?_, ?_, ?_, ?_, ?_, ?_, ?_, ?_, ?_, ?_⟩
  all_goals (intro xs i; rw [OY]; unfold AJ; rw [Xb]; cases xs[i]? <;> rfl)
theorem Mat.eta (m : Mat) : Mat.mk m.rules m.stage m.first m.follow m.inns m.pen1 m.pen2 m.win m.wside m.margin = m := rfl
theorem PXk : (∀ m : Mat, m.ls = [.str m.rules.name, .int m.rules.side, .int m.rules.innings, .int m.rules.overs, .int m.rules.balls, .int m.rules.quota, .int m.rules.wide, .int m.rules.noball, .bool m.rules.freehit, .int m.rules.newball, .int m.rules.followon, .int m.rules.reviews, .int m.rules.outside, .rows m.rules.power, .int m.stage, .int m.first, .bool m.follow, .rows (AS m.inns), .int m.pen1, .int m.pen2, .int m.win, .int m.wside, .int m.margin]) ∧
    (∀ x : Mat × Int, MO x = [.str x.1.rules.name, .int x.1.rules.side, .int x.1.rules.innings, .int x.1.rules.overs, .int x.1.rules.balls, .int x.1.rules.quota, .int x.1.rules.wide, .int x.1.rules.noball, .bool x.1.rules.freehit, .int x.1.rules.newball, .int x.1.rules.followon, .int x.1.rules.reviews, .int x.1.rules.outside, .rows x.1.rules.power, .int x.1.stage, .int x.1.first, .bool x.1.follow, .rows (AS x.1.inns), .int x.1.pen1, .int x.1.pen2, .int x.1.win, .int x.1.wside, .int x.1.margin, .int x.2]) ∧
    (∀ m : Mat, Mat.mk m.rules m.stage m.first m.follow m.inns m.pen1 m.pen2 m.win m.wside m.margin = m) := ⟨fun _ => rfl, fun _ => rfl, fun _ => rfl⟩
theorem bE : ∀ (ps r pre : List PV), r.length = ps.length → B4 (pre ++ r) pre.length ps = pre ++ ps
 | [], r, pre, h => by
  have : r = [] := List.eq_nil_of_length_eq_zero h
  subst this
  rfl
 | p :: ps, [], pre, h => by cases h
 | p :: ps, a :: r, pre, h => by
  have ih := bE ps r (pre ++ [p]) (by simpa using h)
  simp only [List.length_append, List.length_cons, List.length_nil, List.append_assoc, List.cons_append, List.nil_append] at ih
  unfold B4
  rw [List.set_append_right _ _ (Nat.le_refl _), Nat.sub_self]
  exact ih
theorem gO (a s : Inn) : B4 a.ls 0 s.ls = s.ls := bE s.ls a.ls [] rfl
theorem fX (a : Inn) (e : Int) : B4 a.ls 27 [.int e] = Inn.ls { a with ending := e } := by
 show a.ls.set 27 (.int e) = _
 rfl
theorem fq {xs : List Inn} {i : Nat} (h : i < xs.length) (s : Inn) : (AS xs).set i (B4 (A8 (AS xs) i) 0 s.ls) = AS (xs.set i s) := by
 have e : A8 (AS xs) i = (xs[i]).ls := by rw [Xb, List.getElem?_eq_getElem h]
 rw [e, gO]
 exact List.map_set.symm
theorem fV {xs : List Inn} {i : Nat} (h : i < xs.length) (e : Int) : (AS xs).set i (B4 (A8 (AS xs) i) 27 [.int e]) = AS (xs.set i { inn xs i with ending := e }) := by
 have e1 : A8 (AS xs) i = (inn xs i).ls := by rw [Xb, OY, List.getElem?_eq_getElem h]
 rw [e1, fX]
 exact List.map_set.symm
theorem fM (xs : List Inn) (s : Inn) : AS xs ++ [s.ls] = AS (xs ++ [s]) := by
 show List.map Inn.ls xs ++ List.map Inn.ls [s] = List.map Inn.ls (xs ++ [s])
 exact List.map_append.symm
theorem fi (xs : List Inn) (i : Nat) (s : Inn) : (AS xs).set i (B4 (A8 (AS xs) i) 0 s.ls) = AS (xs.set i s) := by
 by_cases h : i < xs.length
 ·exact fq h s
 ·rw [List.set_eq_of_length_le (by rw [Vb]; omega), List.set_eq_of_length_le (by omega)]
theorem aM (xs : List Inn) (i : Nat) (e : Int) : (AS xs).set i (B4 (A8 (AS xs) i) 27 [.int e]) = AS (xs.set i { inn xs i with ending := e }) := by
 by_cases h : i < xs.length
 ·exact fV h e
 ·rw [List.set_eq_of_length_le (by rw [Vb]; omega), List.set_eq_of_length_le (by omega)]
theorem PXr : (∀ (xs : List Inn) (x0 x1 x2 x3 x4 x5 x6 x7 x8 x9 x10 x11 x12 x13 x15 x21 x22 x23 x25 x26 x27 : Int) (x18 x20 : Bool) (x14 x16 x17 x19 x24 : Rows), AS xs ++ [([.int x0, .int x1, .int x2, .int x3, .int x4, .int x5, .int x6, .int x7, .int x8, .int x9, .int x10, .int x11, .int x12, .int x13, .rows x14, .int x15, .rows x16, .rows x17, .bool x18, .rows x19, .bool x20, .int x21, .int x22, .int x23, .rows x24, .int x25, .int x26, .int x27] : List PV)] = AS (xs ++ [⟨x0, x1, x2, x3, x4, x5, x6, x7, x8, x9, x10, x11, x12, x13, x14, x15, x16, x17, x18, x19, x20, x21, x22, x23, x24, x25, x26, x27⟩])) ∧ (∀ (xs : List Inn) (i : Nat) (x0 x1 x2 x3 x4 x5 x6 x7 x8 x9 x10 x11 x12 x13 x15 x21 x22 x23 x25 x26 x27 : Int) (x18 x20 : Bool) (x14 x16 x17 x19 x24 : Rows), (AS xs).set i (B4 (A8 (AS xs) i) 0 [.int x0, .int x1, .int x2, .int x3, .int x4, .int x5, .int x6, .int x7, .int x8, .int x9, .int x10, .int x11, .int x12, .int x13, .rows x14, .int x15, .rows x16, .rows x17, .bool x18, .rows x19, .bool x20, .int x21, .int x22, .int x23, .rows x24, .int x25, .int x26, .int x27]) = AS (xs.set i ⟨x0, x1, x2, x3, x4, x5, x6, x7, x8, x9, x10, x11, x12, x13, x14, x15, x16, x17, x18, x19, x20, x21, x22, x23, x24, x25, x26, x27⟩)) ∧
    (∀ (xs : List Inn) (i : Nat) (e : Int), (AS xs).set i (B4 (A8 (AS xs) i) 27 [.int e]) = AS (xs.set i { inn xs i with ending := e })) :=
  ⟨fun xs x0 x1 x2 x3 x4 x5 x6 x7 x8 x9 x10 x11 x12 x13 x15 x21 x22 x23 x25 x26 x27 x18 x20 x14 x16 x17 x19 x24 => fM xs ⟨x0, x1, x2, x3, x4, x5, x6, x7, x8, x9, x10, x11, x12, x13, x14, x15, x16, x17, x18, x19, x20, x21, x22, x23, x24, x25, x26, x27⟩, fun xs i x0 x1 x2 x3 x4 x5 x6 x7 x8 x9 x10 x11 x12 x13 x15 x21 x22 x23 x25 x26 x27 x18 x20 x14 x16 x17 x19 x24 => fi xs i ⟨x0, x1, x2, x3, x4, x5, x6, x7, x8, x9, x10, x11, x12, x13, x14, x15, x16, x17, x18, x19, x20, x21, x22, x23, x24, x25, x26, x27⟩, aM⟩
end Go.Px
end
section
namespace Go.Px
set_option maxRecDepth 100000
def C3 (n : Int) : Int := IntKind.i64.wrap (3 - n)
theorem GS {N : Nat} {n : Int}  : A3 N [.int n] = some [.int (C3 n)] := by
 show JJ (std (P3 N) N) (xOf _) = _
 simp only [JJ, std, xOf, PXb, PXc, PXn, PXm, Nat.reduceAdd, Int.reduceBEq, C3]
def GW (m : Mat) (i : Int) : Int := cond (cond (m.follow && iLe 2 i) (i == 2) (i.tmod 2 == 1)) (C3 m.first) m.first
theorem Mw {N : Nat} {m1 m2 m3 m4 m5 m6 m7 m9 m10 m11 m12 m14 m15 m18 m19 m20 m21 m22 : Int} {m8 m16 : Bool} {m0 : ByteArray} {m13 : Rows} {m17 : List Inn} {i : Int}  : CW N [.str m0, .int m1, .int m2, .int m3, .int m4, .int m5, .int m6, .int m7, .bool m8, .int m9, .int m10, .int m11, .int m12, .rows m13, .int m14, .int m15, .bool m16, .rows (AS m17), .int m18, .int m19, .int m20, .int m21, .int m22, .int i] = some [.int (GW (⟨⟨m0, m1, m2, m3, m4, m5, m6, m7, m8, m9, m10, m11, m12, m13⟩, m14, m15, m16, m17, m18, m19, m20, m21, m22⟩ : Mat) i)] := by
 show JC (std (Kj N) N) (xOf _) = _
 generalize hres : (some [.int (GW (⟨⟨m0, m1, m2, m3, m4, m5, m6, m7, m8, m9, m10, m11, m12, m13⟩, m14, m15, m16, m17, m18, m19, m20, m21, m22⟩ : Mat) i)] : Option (List PV)) = RR
 simp only [JC, N6, std, xOf, PXb, PXc, PXn, PXm, Nat.reduceAdd, Int.reduceBEq, GS]
 subst hres; simp only [GW]
def M1 (xs : List Inn) (side : Int) : Nat → Int
 | 0 => 0
 | i + 1 => cond ((inn xs i).side == side) (IntKind.i64.wrap (M1 xs side i + (inn xs i).runs)) (M1 xs side i)
def CH (m : Mat) (side : Int) : Int := M1 m.inns side m.inns.length
theorem M2 {N : Nat} {m1 m2 m3 m4 m5 m6 m7 m9 m10 m11 m12 m14 m15 m18 m19 m20 m21 m22 : Int} {m8 m16 : Bool} {m0 : ByteArray} {m13 : Rows} {m17 : List Inn} {n : Int} (hN : 2097152 < N) (hl : m17.length ≤ 1048576) : BU N [.str m0, .int m1, .int m2, .int m3, .int m4, .int m5, .int m6, .int m7, .bool m8, .int m9, .int m10, .int m11, .int m12, .rows m13, .int m14, .int m15, .bool m16, .rows (AS m17), .int m18, .int m19, .int m20, .int m21, .int m22, .int n] = some [.int (CH (⟨⟨m0, m1, m2, m3, m4, m5, m6, m7, m8, m9, m10, m11, m12, m13⟩, m14, m15, m16, m17, m18, m19, m20, m21, m22⟩ : Mat) n)] := by
 show JD (std (P4 N) N) (xOf _) = _
 generalize hres : (some [.int (CH (⟨⟨m0, m1, m2, m3, m4, m5, m6, m7, m8, m9, m10, m11, m12, m13⟩, m14, m15, m16, m17, m18, m19, m20, m21, m22⟩ : Mat) n)] : Option (List PV)) = RR
 simp only [JD, std, xOf, PXb, PXi]
 subst hres; simp only [CH]
 refine Ac (Jd (len := m17.length) (fun i => [.int (M1 m17 n i), .int (i : Int)]) [.int (M1 m17 n m17.length)] ?_ ?_ N (by omega)) rfl
 ·intro self
  simp only [PXb, PXc, PXn, AE, BX]
 ·intro i self hi
  simp only [PXb, PXc, AE, Am (show i ≤ 1099511627776 by omega), BC hi, Aj hi, PXi, M1]
  cases (inn m17 i).side == n <;> rfl
def H7 (m : Mat) (side : Int) : Int :=
 cond (iLt (IntKind.i64.wrap ((m.inns.length : Int) + 1)) (IntKind.i64.wrap (2 * m.rules.innings))) 0 (IntKind.i64.wrap (IntKind.i64.wrap (CH m (C3 side) - CH m side) + 1))
theorem Qz {N : Nat} {m1 m2 m3 m4 m5 m6 m7 m9 m10 m11 m12 m14 m15 m18 m19 m20 m21 m22 : Int} {m8 m16 : Bool} {m0 : ByteArray} {m13 : Rows} {m17 : List Inn} {n : Int} (hN : 2097152 < N) (hl : m17.length ≤ 1048576) : Fh N [.str m0, .int m1, .int m2, .int m3, .int m4, .int m5, .int m6, .int m7, .bool m8, .int m9, .int m10, .int m11, .int m12, .rows m13, .int m14, .int m15, .bool m16, .rows (AS m17), .int m18, .int m19, .int m20, .int m21, .int m22, .int n] = some [.int (H7 (⟨⟨m0, m1, m2, m3, m4, m5, m6, m7, m8, m9, m10, m11, m12, m13⟩, m14, m15, m16, m17, m18, m19, m20, m21, m22⟩ : Mat) n)] := by
 show H0 (std (GN N) N) (xOf _) = _
 generalize hres : (some [.int (H7 (⟨⟨m0, m1, m2, m3, m4, m5, m6, m7, m8, m9, m10, m11, m12, m13⟩, m14, m15, m16, m17, m18, m19, m20, m21, m22⟩ : Mat) n)] : Option (List PV)) = RR
 simp only [H0, My, M9, std, xOf, PXb, PXc, PXn, PXm, Nat.reduceAdd, Int.reduceBEq, PXi, GS, M2 hN hl]
 subst hres; simp only [H7]
def Vv (stage : Int) (xs : List Inn) (i : Nat) : Bool := !(((inn xs i).ending == 0) == (stage == 3 && ((i : Int) == IntKind.i64.wrap ((xs.length : Int) - 1))))
def TN (m : Mat) : Bool := !A6 (Vv m.stage m.inns) m.inns.length 0 && (!(m.stage == 3) || iLt 0 (m.inns.length : Int))
theorem YK {N : Nat} {m1 m2 m3 m4 m5 m6 m7 m9 m10 m11 m12 m14 m15 m18 m19 m20 m21 m22 : Int} {m8 m16 : Bool} {m0 : ByteArray} {m13 : Rows} {m17 : List Inn} (hN : 2097152 < N) (hl : m17.length ≤ 1048576) : GX N [.str m0, .int m1, .int m2, .int m3, .int m4, .int m5, .int m6, .int m7, .bool m8, .int m9, .int m10, .int m11, .int m12, .rows m13, .int m14, .int m15, .bool m16, .rows (AS m17), .int m18, .int m19, .int m20, .int m21, .int m22] = some [.bool (TN (⟨⟨m0, m1, m2, m3, m4, m5, m6, m7, m8, m9, m10, m11, m12, m13⟩, m14, m15, m16, m17, m18, m19, m20, m21, m22⟩ : Mat))] := by
 show JP (std (PU N) N) (xOf _) = _
 generalize hres : (some [.bool (TN (⟨⟨m0, m1, m2, m3, m4, m5, m6, m7, m8, m9, m10, m11, m12, m13⟩, m14, m15, m16, m17, m18, m19, m20, m21, m22⟩ : Mat))] : Option (List PV)) = RR
 simp only [JP, std, xOf, PXb, PXi]
 subst hres; simp only [TN]
 refine Ac (FH (len := m17.length) (Vv m14 m17) [.bool false] ?_ ?_ N (by omega)) ?_
 ·intro self
  simp only [PXb, PXc, PXn, AE, BX]
 ·intro i self hi
  simp only [PXb, PXc, AE, Am (show i ≤ 1099511627776 by omega), BC hi, Aj hi, PXi, Vv]
 ·cases A6 (Vv m14 m17) m17.length 0 with
  | true => rfl
  | false => simp only [PXb, PXc, PXn, PXm, Nat.reduceAdd, Int.reduceBEq]
end Go.Px
end
section
namespace Go.Px
set_option maxRecDepth 100000
def G4 (xs : List Inn) : Prop := ∀ i, i < xs.length → (inn xs i).Fit
theorem R6 {N : Nat} {r1 r2 r3 r4 r5 r6 r7 r9 r10 r11 r12 : Int} {r8 : Bool} {r0 : ByteArray} {r13 : Rows} (hl : r13.length ≤ 1048576) : CZ N [.str r0, .int r1, .int r2, .int r3, .int r4, .int r5, .int r6, .int r7, .bool r8, .int r9, .int r10, .int r11, .int r12, .rows r13] = some [.str r0, .int r1, .int r2, .int r3, .int r4, .int r5, .int r6, .int r7, .bool r8, .int r9, .int r10, .int r11, .int r12, .rows r13] := by
 show JE (std (KU N) N) (xOf _) = _
 simp only [JE, Jb, std, xOf, PXb, PXc, PXn, PXm, Nat.reduceAdd, Int.reduceBEq, CT, BF hl (show 24 ≤ 4096 by omega)]
theorem YD {xs : List Inn} {i : Nat} (h : i < xs.length) : xs.take i ++ [inn xs i] = xs.take (i + 1) := by
 rw [List.take_add_one, OY, List.getElem?_eq_getElem h]
 rfl
theorem YN {N : Nat} {m1 m2 m3 m4 m5 m6 m7 m9 m10 m11 m12 m14 m15 m18 m19 m20 m21 m22 : Int} {m8 m16 : Bool} {m0 : ByteArray} {m13 : Rows} {m17 : List Inn} (hf : G4 m17) (hN : 2097152 < N) (hl : m17.length ≤ 1000000) (h13 : m13.length ≤ 1048576) : Gg N [.str m0, .int m1, .int m2, .int m3, .int m4, .int m5, .int m6, .int m7, .bool m8, .int m9, .int m10, .int m11, .int m12, .rows m13, .int m14, .int m15, .bool m16, .rows (AS m17), .int m18, .int m19, .int m20, .int m21, .int m22] = some [.str m0, .int m1, .int m2, .int m3, .int m4, .int m5, .int m6, .int m7, .bool m8, .int m9, .int m10, .int m11, .int m12, .rows m13, .int m14, .int m15, .bool m16, .rows (AS m17), .int m18, .int m19, .int m20, .int m21, .int m22] := by
 show JG (std (HQ N) N) (xOf _) = _
 simp only [JG, F5, Nr, std, xOf, PXb, R6 h13, PXi]
 refine Ac (Jd (len := m17.length) (fun i => [.rows (AS (m17.take i)), .int (i : Int)]) [.rows (AS m17)] ?_ ?_ N (by omega)) rfl
 ·intro self
  simp only [PXb, PXc, PXn, AE, BX, List.take_length]
 ·intro i self hi
  have h2 : (m17.take (i + 1)).length ≤ 1048576 := by rw [List.length_take]; omega
  have h3 : iSm ((m17.take (i + 1)).length : Int) 304 = true := KJ (by omega) (by omega)
  simp only [PXb, PXc, AE, Am (show i ≤ 1099511627776 by omega), BC hi, Aj hi, PXi, F5, Bl (hf i hi), PXr, Inn.eta, h3, YD hi, Nat.reduceAdd]
  rfl
def gZ : Rul := ⟨⟨#[]⟩, 0, 0, 0, 0, 0, 0, 0, false, 0, 0, 0, 0, []⟩
def Pv : Mat := ⟨gZ, 0, 0, false, [], 0, 0, 0, 0, 0⟩
def C6 (r : Rul) : Mat × Int := cond (!(Au r == 0)) (Pv, Au r) (⟨r, 1, 0, false, [], 0, 0, 0, 0, 0⟩, 0)
theorem aW {N : Nat} {r1 r2 r3 r4 r5 r6 r7 r9 r10 r11 r12 : Int} {r8 : Bool} {r0 : ByteArray} {r13 : Rows} (hN : 2097152 < N) (hs : r0.size ≤ 1048576) (h13 : r13.length ≤ 1048576) : MK N [.str r0, .int r1, .int r2, .int r3, .int r4, .int r5, .int r6, .int r7, .bool r8, .int r9, .int r10, .int r11, .int r12, .rows r13] = some (MO (C6 (⟨r0, r1, r2, r3, r4, r5, r6, r7, r8, r9, r10, r11, r12, r13⟩ : Rul))) := by
 show MD (std (JV N) N) (xOf _) = _
 generalize hres : (some (MO (C6 (⟨r0, r1, r2, r3, r4, r5, r6, r7, r8, r9, r10, r11, r12, r13⟩ : Rul))) : Option (List PV)) = RR
 simp only [MD, PE, PD, std, xOf, PXb, PXc, PXn, PXm, Nat.reduceAdd, Int.reduceBEq, CC hN hs, R6 h13]
 subst hres; simp only [C6]
 cases Au (⟨r0, r1, r2, r3, r4, r5, r6, r7, r8, r9, r10, r11, r12, r13⟩ : Rul) == 0 <;> rfl
def aE (m : Mat) : Bool := (iLt m.pen1 0 || iLt 1000000 m.pen1) || (iLt m.pen2 0 || iLt 1000000 m.pen2)
def S5 (m : Mat) (i : Nat) : Bool := !I0 m.rules (inn m.inns i) || !((inn m.inns i).side == GW m (i : Int))
def bU (m : Mat) : Bool :=
  let n : Int := m.inns.length
  let most := IntKind.i64.wrap (2 * m.rules.innings)
  Au m.rules == 0 && (!(iLt m.stage 1) && (!(iLt 5 m.stage) && (!aE m && (!(iLt m.first 0 || iLt 2 m.first || iLt most n) && (!(m.first == 0 && (iLt 0 n || (!(m.stage == 1) && !(m.stage == 5)))) &&
    (!(m.stage == 1 && !(m.first == 0)) && (!(m.stage == 2 && n == most) && (!(m.stage == 4 && (!(m.rules.innings == 2) || !(n == 2))) && !(m.follow && (!(m.rules.innings == 2) || iLt n 2))))))))))
def Gb (m : Mat) : Bool := bU m && (!A6 (S5 m) m.inns.length 0 && TN m)
set_option maxHeartbeats 4000000 in
theorem SC {N : Nat} {m1 m2 m3 m4 m5 m6 m7 m9 m10 m11 m12 m14 m15 m18 m19 m20 m21 m22 : Int} {m8 m16 : Bool} {m0 : ByteArray} {m13 : Rows} {m17 : List Inn} (hf : G4 m17) (hN : 2097152 < N) (hl : m17.length ≤ 1000000) (hs : m0.size ≤ 1048576) : CX N [.str m0, .int m1, .int m2, .int m3, .int m4, .int m5, .int m6, .int m7, .bool m8, .int m9, .int m10, .int m11, .int m12, .rows m13, .int m14, .int m15, .bool m16, .rows (AS m17), .int m18, .int m19, .int m20, .int m21, .int m22] = some [.bool (Gb (⟨⟨m0, m1, m2, m3, m4, m5, m6, m7, m8, m9, m10, m11, m12, m13⟩, m14, m15, m16, m17, m18, m19, m20, m21, m22⟩ : Mat))] := by
 show JI (std (DG N) N) (xOf _) = _
 generalize hres : (some [.bool (Gb (⟨⟨m0, m1, m2, m3, m4, m5, m6, m7, m8, m9, m10, m11, m12, m13⟩, m14, m15, m16, m17, m18, m19, m20, m21, m22⟩ : Mat))] : Option (List PV)) = RR
 simp only [JI, F7, Ni, HH, HK, std, xOf, PXb, CC hN hs, PXi]
 subst hres; simp only [Gb, bU]
 cases hc : Au (⟨⟨m0, m1, m2, m3, m4, m5, m6, m7, m8, m9, m10, m11, m12, m13⟩, m14, m15, m16, m17, m18, m19, m20, m21, m22⟩ : Mat).rules == 0 <;> (try rfl)
 cases h1 : iLt m14 1 <;> (try rfl)
 cases h5 : iLt 5 m14 <;> (try rfl)
 simp only [PXb]
 refine Ac (FH (len := 2) (fun i => iLt (cond ((i : Int) == 1) m19 m18) 0 || iLt 1000000 (cond ((i : Int) == 1) m19 m18)) [.bool false] ?_ ?_ N (by omega)) ?_
 ·intro self
  rfl
 ·intro i self hi
  simp only [PXb, Am (show i ≤ 1099511627776 by omega), show iLt (i : Int) 2 = true from BC (len := 2) hi, show iIn (i : Int) 2 = true from Aj (len := 2) hi]
 ·have hp : A6 (fun i => iLt (cond ((i : Int) == 1) m19 m18) 0 || iLt 1000000 (cond ((i : Int) == 1) m19 m18)) 2 0 = aE (⟨⟨m0, m1, m2, m3, m4, m5, m6, m7, m8, m9, m10, m11, m12, m13⟩, m14, m15, m16, m17, m18, m19, m20, m21, m22⟩ : Mat) := by
   simp only [Bf, Ha, Bool.or_false]
   rfl
  rw [hp]
  cases aE (⟨⟨m0, m1, m2, m3, m4, m5, m6, m7, m8, m9, m10, m11, m12, m13⟩, m14, m15, m16, m17, m18, m19, m20, m21, m22⟩ : Mat)
  case true => rfl
  simp only [PXb, I2, Int.reduceBEq]
  cases iLt m15 0 <;> try rfl
  cases iLt 2 m15 <;> try rfl
  cases iLt (IntKind.i64.wrap (2 * m2)) (m17.length : Int) <;> try rfl
  cases (m15 == 0 && (iLt 0 (m17.length : Int) || (!(m14 == 1) && !(m14 == 5)))) <;> try rfl
  cases (m14 == 1 && !(m15 == 0)) <;> try rfl
  cases (m14 == 2 && (m17.length : Int) == IntKind.i64.wrap (2 * m2)) <;> try rfl
  cases (m14 == 4 && (!(m2 == 2) || !((m17.length : Int) == 2))) <;> try rfl
  cases (m16 && (!(m2 == 2) || iLt (m17.length : Int) 2)) <;> try rfl
  simp only [PXb]
  refine Ac (FH (len := m17.length) (S5 (⟨⟨m0, m1, m2, m3, m4, m5, m6, m7, m8, m9, m10, m11, m12, m13⟩, m14, m15, m16, m17, m18, m19, m20, m21, m22⟩ : Mat)) [.bool false] ?_ ?_ N (by omega)) ?_
  ·intro self
   simp only [PXb, PXc, PXn, AE, BX]
  ·intro i self hi
   simp only [PXb, PXc, PXn, PXm, Nat.reduceAdd, Int.reduceBEq, Am (show i ≤ 1099511627776 by omega), BC hi, Aj hi, PXi, F7, HH, Pf (hf i hi) hN hs, Mw, S5]
   cases I0 (⟨⟨m0, m1, m2, m3, m4, m5, m6, m7, m8, m9, m10, m11, m12, m13⟩, m14, m15, m16, m17, m18, m19, m20, m21, m22⟩ : Mat).rules (inn m17 i) <;> first | rfl | simp only [PXb, PXc, PXn, PXm, Nat.reduceAdd, Int.reduceBEq]
  ·cases A6 (S5 (⟨⟨m0, m1, m2, m3, m4, m5, m6, m7, m8, m9, m10, m11, m12, m13⟩, m14, m15, m16, m17, m18, m19, m20, m21, m22⟩ : Mat)) m17.length 0
   case true => rfl
   simp only [PXb, PXc, PXn, PXm, Nat.reduceAdd, Int.reduceBEq, HK, YK hN (show m17.length ≤ 1048576 by omega)]
end Go.Px
end
section
namespace Go.Px
set_option maxRecDepth 100000
def lnx (xs : List Inn) : Nat := (IntKind.i64.wrap ((xs.length : Int) - 1)).toNat
def Bn (m : Mat) : Inn := inn m.inns (lnx m.inns)
theorem Qc {n : Nat} (h : ((n : Int) == 0) = false) (hl : n ≤ 1000000) : iIn (IntKind.i64.wrap ((n : Int) - 1)) (n : Int) = true := by
 rw [beq_eq_false_iff_ne] at h
 rw [Ga (by omega) (by omega)]
 simp only [iIn, decide_eq_true_eq]; omega
theorem Z1 {xs : List Inn} (h : ((xs.length : Int) == 0) = false) (hl : xs.length ≤ 1000000) : lnx xs < xs.length := by
 rw [beq_eq_false_iff_ne] at h
 unfold lnx
 rw [Ga (by omega) (by omega)]
 omega
def V8 (r : Rul) : Int := cond (r.overs == 0) 5 6
theorem Ht {N : Nat} {r1 r2 r3 r4 r5 r6 r7 r9 r10 r11 r12 : Int} {r8 : Bool} {r0 : ByteArray} {r13 : Rows}  : BM N [.str r0, .int r1, .int r2, .int r3, .int r4, .int r5, .int r6, .int r7, .bool r8, .int r9, .int r10, .int r11, .int r12, .rows r13] = some [.int (V8 (⟨r0, r1, r2, r3, r4, r5, r6, r7, r8, r9, r10, r11, r12, r13⟩ : Rul))] := by
 show Ek (std (LB N) N) (xOf _) = _
 simp only [Ek, std, xOf, PXb, PXc, PXn, PXm, Nat.reduceAdd, Int.reduceBEq, V8]
def em (x : Int × Int × Int) : List PV := [.int x.1, .int x.2.1, .int x.2.2]
def RY (m : Mat) : Int × Int × Int :=
  let n : Int := m.inns.length
  let most := IntKind.i64.wrap (2 * m.rules.innings)
  let x := Bn m
  cond (!Gb m || n == 0) (0, 0, 0) (cond (x.ending == 5) (V8 m.rules, 0, 0) (cond (x.ending == 0) (0, 0, 0)
    (cond (n == most && iLe x.target x.runs) (2, x.side, IntKind.i64.wrap (IntKind.i64.wrap (m.rules.side - 1) - x.wickets)) (cond (n == most && x.runs == IntKind.i64.wrap (x.target - 1)) (4, 0, 0)
      (cond (n == most) (1, C3 x.side, IntKind.i64.wrap (IntKind.i64.wrap (x.target - 1) - x.runs))
        (cond (n == 3 && iLt (CH m x.side) (CH m (C3 x.side))) (3, C3 x.side, IntKind.i64.wrap (CH m (C3 x.side) - CH m x.side)) (0, 0, 0)))))))
set_option maxHeartbeats 4000000 in
theorem Wo {N : Nat} {m1 m2 m3 m4 m5 m6 m7 m9 m10 m11 m12 m14 m15 m18 m19 m20 m21 m22 : Int} {m8 m16 : Bool} {m0 : ByteArray} {m13 : Rows} {m17 : List Inn} (hf : G4 m17) (hN : 2097152 < N) (hl : m17.length ≤ 1000000) (hs : m0.size ≤ 1048576) : FF N [.str m0, .int m1, .int m2, .int m3, .int m4, .int m5, .int m6, .int m7, .bool m8, .int m9, .int m10, .int m11, .int m12, .rows m13, .int m14, .int m15, .bool m16, .rows (AS m17), .int m18, .int m19, .int m20, .int m21, .int m22] = some (em (RY (⟨⟨m0, m1, m2, m3, m4, m5, m6, m7, m8, m9, m10, m11, m12, m13⟩, m14, m15, m16, m17, m18, m19, m20, m21, m22⟩ : Mat))) := by
 show HM (std (CV N) N) (xOf _) = _
 generalize hres : (some (em (RY (⟨⟨m0, m1, m2, m3, m4, m5, m6, m7, m8, m9, m10, m11, m12, m13⟩, m14, m15, m16, m17, m18, m19, m20, m21, m22⟩ : Mat))) : Option (List PV)) = RR
 simp only [HM, Mt, MS, MT, Ji, std, xOf, PXb, PXi, SC hf hN hl hs, GS, Ht, M2 hN (show m17.length ≤ 1048576 by omega)]
 subst hres; simp only [RY, Bn, lnx]
 cases hv : Gb (⟨⟨m0, m1, m2, m3, m4, m5, m6, m7, m8, m9, m10, m11, m12, m13⟩, m14, m15, m16, m17, m18, m19, m20, m21, m22⟩ : Mat)
 case false => rfl
 cases h0 : (m17.length : Int) == 0
 case true => rfl
 simp only [PXb, Qc h0 hl]
 generalize inn m17 (IntKind.i64.wrap ((m17.length : Int) - 1)).toNat = x
 cases x.ending == 5
 case true => rfl
 cases x.ending == 0
 case true => rfl
 cases (m17.length : Int) == IntKind.i64.wrap (2 * m2) <;> cases iLe x.target x.runs <;> cases x.runs == IntKind.i64.wrap (x.target - 1) <;> try rfl
 all_goals (cases (m17.length : Int) == 3 <;> try rfl)
 all_goals (simp only [PXb]; cases iLt (CH (⟨⟨m0, m1, m2, m3, m4, m5, m6, m7, m8, m9, m10, m11, m12, m13⟩, m14, m15, m16, m17, m18, m19, m20, m21, m22⟩ : Mat) x.side) (CH (⟨⟨m0, m1, m2, m3, m4, m5, m6, m7, m8, m9, m10, m11, m12, m13⟩, m14, m15, m16, m17, m18, m19, m20, m21, m22⟩ : Mat) (C3 x.side)) <;> rfl)
theorem Zl : ∀ (n k : Nat) (f : Nat → Nat), (∀ i, i < k → 1 ≤ f i ∧ f i ≤ n) → (∀ i j, i < j → j < k → f i ≠ f j) → k ≤ n
 | 0, k, f, h, _ => by
  rcases Nat.eq_zero_or_pos k with e | e
  ·omega
  ·have := h 0 e; omega
 | n + 1, 0, f, _, _ => by omega
 | n + 1, k + 1, f, h, hi => by
  by_cases he : ∃ j, j < k + 1 ∧ f j = n + 1
  ·obtain ⟨j, hj, hfj⟩ := he
   have := Zl n k (fun i => if i = j then f k else f i) (fun i hik => by
    show 1 ≤ (if i = j then f k else f i) ∧ (if i = j then f k else f i) ≤ n
    by_cases e : i = j
    ·rw [if_pos e]
     have h1 := h k (by omega)
     have : f k ≠ f j := fun e2 => hi j k (by omega) (by omega) e2.symm
     omega
    ·rw [if_neg e]
     have h1 := h i (by omega)
     have : f i ≠ f j := by
      rcases Nat.lt_or_gt_of_ne e with e2 | e2
      ·exact hi i j e2 hj
      ·exact fun e3 => hi j i e2 (by omega) e3.symm
     omega) (fun a b hab hb => by
    show (if a = j then f k else f a) ≠ (if b = j then f k else f b)
    by_cases e1 : a = j
    ·have e2 : b ≠ j := by omega
     rw [if_pos e1, if_neg e2]
     exact fun e3 => hi b k hb (by omega) e3.symm
    ·rw [if_neg e1]
     by_cases e2 : b = j
     ·rw [if_pos e2]; exact hi a k (by omega) (by omega)
     ·rw [if_neg e2]; exact hi a b hab (by omega))
   omega
  ·have := Zl n (k + 1) f (fun i hik => by
    have h1 := h i hik
    have : f i ≠ n + 1 := fun e => he ⟨i, hik, e⟩
    omega) hi
   omega
theorem Yv {L : Rows} {n : Int} (h : Im L n = true) (hn : 0 ≤ n) : (L.length : Int) ≤ n := by
 unfold Im at h
 rw [Bool.not_eq_true', Ef] at h
 have hb : ∀ i, i < L.length → 1 ≤ atI L i 0 ∧ atI L i 0 ≤ n := fun i hi => by
  have := h i (by omega) (by omega)
  unfold OE at this
  rw [Bool.or_eq_false_iff, Bool.not_eq_false', Ty] at this
  exact this.1
 have := Zl n.toNat L.length (fun i => (atI L i 0).toNat) (fun i hi => by have := hb i hi; show 1 ≤ (atI L i 0).toNat ∧ (atI L i 0).toNat ≤ n.toNat; omega) (fun i j hij hj => by
  show (atI L i 0).toNat ≠ (atI L j 0).toNat
  have h1 := hb i (by omega)
  have h2 := hb j hj
  have h3 := h j (by omega) (by omega)
  unfold OE at h3
  rw [Bool.or_eq_false_iff] at h3
  have h4 := Ef.1 h3.2 i (by omega) (by omega)
  rw [beq_eq_false_iff_ne] at h4
  omega)
 omega
theorem RE {r : Rul} {s : Inn} (h : I0 r s = true) : s.bowlers.length ≤ 11 ∧ s.before.length ≤ 11 ∧ s.Fit := by
 have ok := cY.1 h
 have hs := fH ok
 have h1 := Yv ok.dw (by omega)
 have h2 := Yv ok.df (by omega)
 have h3 := ok.lb
 have h4 := ok.ld
 have h5 := ok.lz
 exact ⟨by omega, by omega, by omega, by omega, by omega, by omega, by omega⟩
end Go.Px
end
section
namespace Go.Px
set_option maxRecDepth 100000
def Yi (m : Mat) (e : Ev) : Mat × Int :=
  let sd := GW m (m.inns.length : Int)
  let b := DS m.rules sd (H7 m sd) (cond (sd == 2) m.pen2 m.pen1)
  let t := Dh m.rules b.1 e
  cond (!(b.2 == 0)) (m, 1) (cond (!(t.2 == 0)) (m, t.2)
    ({ m with stage := 3, inns := m.inns ++ [t.1], pen1 := cond (sd == 1) 0 m.pen1, pen2 := cond (sd == 2) 0 m.pen2 }, 0))
def Pm (xs : List Inn) (sd : Int) : Nat → Option Nat
 | 0 => none
 | k + 1 => cond ((inn xs k).side == sd) (some k) (Pm xs sd k)
def Kc (m : Mat) (sd : Int) : Mat := match Pm m.inns sd m.inns.length with
 | some k => { m with inns := m.inns.set k (Tj (inn m.inns k)) }
 | none => { m with pen1 := cond (sd == 1) (IntKind.i64.wrap (m.pen1 + 5)) m.pen1, pen2 := cond (sd == 2) (IntKind.i64.wrap (m.pen2 + 5)) m.pen2 }
def Yh (m : Mat) (e : Ev) : Mat × Int :=
 let t := Dh m.rules (Bn m) e
 cond (!(t.2 == 0)) (m, t.2) (cond (e.kind == 13 && !(e.side == t.1.side)) (Kc { m with inns := m.inns.set (lnx m.inns) t.1 } e.side) { m with inns := m.inns.set (lnx m.inns) t.1 }, 0)
def bz (m : Mat) : Mat := { m with inns := cond (m.stage == 3) (m.inns.set (lnx m.inns) { Bn m with ending := 5 }) m.inns, stage := 5, win := V8 m.rules, wside := 0, margin := 0 }
def Ic (m : Mat) (e : Ev) : Mat × Int :=
  cond (e.kind == 1) (cond (!(m.stage == 1)) (m, 1) ({ m with first := cond e.yes e.side (C3 e.side), stage := 2 }, 0))
    (cond (e.kind == 2) (cond (!(m.stage == 2)) (m, 1) (Yi m e))
      (cond (e.kind == 12) (cond (!(m.stage == 4)) (m, 1) (cond (!(e.side == m.first)) (m, 2) ({ m with follow := e.yes, stage := 2 }, 0)))
        (cond (e.kind == 16) (bz m, 0) (cond (!(m.stage == 3)) (m, 1) (Yh m e)))))
def RA (m : Mat) : Mat :=
  let n : Int := m.inns.length
  let sd := (Bn m).side
  let o := RY { m with stage := 5 }
  cond (n == IntKind.i64.wrap (2 * m.rules.innings) || (n == 3 && iLt (CH m sd) (CH m (C3 sd)))) { m with stage := 5, win := o.1, wside := o.2.1, margin := o.2.2 }
    (cond (n == 2 && iLt 0 m.rules.followon && iLe m.rules.followon (IntKind.i64.wrap (CH m m.first - CH m (C3 m.first)))) { m with stage := 4 } { m with stage := 2 })
def MQ (m : Mat) : Mat := cond (m.stage == 3 && !((Bn m).ending == 0)) (RA m) m
def HF (m : Mat) (e : Ev) : Mat × Int :=
 cond (!Gb m || !(evS e == 0)) (m, 1) (cond (m.stage == 5) (m, 26) (cond (!((Ic m e).2 == 0)) (m, (Ic m e).2) (MQ (Ic m e).1, 0)))
theorem bind_ok {X : Option (List PV)} {r : List PV} {k : List PV → Option (List PV)} {g : Option (List PV)} (h : X = some r) (hk : k r = g) : X.bind k = g := by rw [h]; exact hk
structure MatOk (m : Mat) : Prop where
 code : Au m.rules = 0
 len : m.inns.length ≤ 4
 innv : ∀ i, i < m.inns.length → I0 m.rules (inn m.inns i) = true ∧ (inn m.inns i).side = GW m (i : Int)
 begun : (m.stage == 3) = true → ((m.inns.length : Int) == 0) = false
 toss : (m.stage == 2) = true → m.first = 1 ∨ m.first = 2
 room : (m.stage == 2) = true → (m.inns.length : Int) < 2 * m.rules.innings
 most : IntKind.i64.wrap (2 * m.rules.innings) = 2 * m.rules.innings ∧ (m.inns.length : Int) ≤ 2 * m.rules.innings
theorem aA {m : Mat} (h : Gb m = true) : MatOk m := by
 unfold Gb bU at h
 simp only [Bool.and_eq_true, Bool.not_eq_true'] at h
 obtain ⟨⟨h1, h2, h3, h4, h5, h6, h7, h8, h9, h10⟩, h11, h12⟩ := h
 have hc := beq_iff_eq.1 h1
 have rk := (OG hc).innings
 have e2 : IntKind.i64.wrap (2 * m.rules.innings) = 2 * m.rules.innings := Ga (by omega) (by omega)
 rw [e2] at h5 h8
 rw [Bool.or_eq_false_iff, Bool.or_eq_false_iff] at h5
 have hn := h5.2
 have hf1 := h5.1.1
 have hf2 := h5.1.2
 simp only [iLt, decide_eq_false_iff_not] at hn hf1 hf2
 refine ⟨hc, by omega, fun i hi => ?_, fun hs => ?_, fun hs => ?_, fun hs => ?_, e2, by omega⟩
 ·have := Ef.1 h11 i (by omega) (by omega)
  unfold S5 at this
  rw [Bool.or_eq_false_iff, Bool.not_eq_false', Bool.not_eq_false', beq_iff_eq] at this
  exact this
 ·unfold TN at h12
  rw [hs, Bool.and_eq_true] at h12
  have := h12.2
  simp only [iLt, Bool.not_true, Bool.false_or, decide_eq_true_eq] at this
  exact beq_false_of_ne (by omega)
 ·rw [beq_iff_eq.1 hs] at h6
  cases h0 : m.first == 0 with
  | true => rw [h0] at h6; simp at h6
  | false =>
   rw [beq_eq_false_iff_ne] at h0
   omega
 ·rw [hs, Bool.true_and, beq_eq_false_iff_ne] at h8
  omega
theorem ec {m : Mat} (h : m.first = 1 ∨ m.first = 2) (i : Int) : GW m i = 1 ∨ GW m i = 2 := by
 unfold GW
 cases cond (m.follow && iLe 2 i) (i == 2) (i.tmod 2 == 1) with
 | false => exact h
 | true => rcases h with h | h <;> rw [h] <;> decide
theorem cR {m : Mat} (h : MatOk m) : G4 m.inns := fun i hi => (RE (h.innv i hi).1).2.2
theorem Wd {F : (List Aa → Option (List PV)) → List PV → Option (List PV)} {len : Nat} (enc : Nat → List Aa) (ans : Nat → Option (List PV))
    (h0 : ∀ self, F self ((enc len).map Leaf.pv) = some [.int 1]) (h1 : ∀ i self, i < len → F self ((enc i).map Leaf.pv) = match ans i with | some r => some (.int 0 :: r) | none => self (enc (i + 1))) :
    ∀ (k i n : Nat), i + k = len → k < n → G1 F n ((enc i).map Leaf.pv) = some (T0 (Bo ans k i))
  | 0, i, n, hk, hn => by
    obtain ⟨n, rfl⟩ : ∃ m, n = m + 1 := ⟨n - 1, by omega⟩
    obtain rfl : i = len := by omega
    exact h0 _
  | k + 1, i, n, hk, hn => by
    obtain ⟨n, rfl⟩ : ∃ m, n = m + 1 := ⟨n - 1, by omega⟩
    show F _ _ = _
    rw [h1 i _ (by omega)]
    simp only [Bo]
    cases ans i with
    | some r => rfl
    | none => exact Wd enc ans h0 h1 k (i + 1) n (by omega) (by omega)
theorem bA (ys : List Inn) (sd : Int) (g : Nat → List PV) (n : Nat) : ∀ k, k ≤ n → Bo (fun j => cond ((inn ys (n - 1 - j)).side == sd) (some (g (n - 1 - j))) none) k (n - k) = (Pm ys sd k).map g
 | 0, _ => rfl
 | k + 1, h => by
  have ih := bA ys sd g n k (by omega)
  have e : n - 1 - (n - (k + 1)) = k := by omega
  have e2 : n - (k + 1) + 1 = n - k := by omega
  simp only [Bo, Pm, e, e2, ih]
  cases (inn ys k).side == sd <;> rfl
theorem fG (xs : List Inn) (k : Nat) (s : Inn) (i : Nat) (hi : i < xs.length) : inn (xs.set k s) i = (if k = i then s else inn xs i) := by
 rw [OY, OY, List.getElem?_set]
 by_cases h : k = i
 ·subst h
  rw [if_pos rfl, if_pos rfl, if_pos hi]
 ·rw [if_neg h, if_neg h]
theorem RU {xs : List Inn} {s : Inn} (k : Nat) (h : G4 xs) (hs : s.Fit) : G4 (xs.set k s) := fun i hi => by
 rw [List.length_set] at hi
 rw [fG xs k s i hi]
 by_cases e : k = i
 ·rw [if_pos e]; exact hs
 ·rw [if_neg e]; exact h i hi
theorem dP {e : Ev} (h : (evS e == 0) = true) (hk : (e.kind == 13) = true) : e.side = 1 ∨ e.side = 2 := by
 have h0 := XX h
 rw [beq_iff_eq] at hk
 unfold evS at h
 rw [h0] at h
 cases h1 : ZP e with
 | true => rw [h1] at h; cases h
 | false =>
  cases h2 : Uw e with
  | true => rw [h1, h2] at h; cases h
  | false =>
   unfold Uw at h2
   rw [Bool.or_eq_false_iff] at h2
   have h3 := h2.1
   rw [hk, show uS 13 = true from rfl, Bool.and_true] at h3
   simp only [btw, iLe, Bool.not_eq_false', Bool.and_eq_true, decide_eq_true_eq] at h3
   omega
theorem fJ (xs : List Inn) (s : Inn) (i : Nat) (hi : i < xs.length + 1) : inn (xs ++ [s]) i = (if i < xs.length then inn xs i else s) := by
 rw [OY, OY]
 by_cases h : i < xs.length
 ·rw [if_pos h, List.getElem?_append_left h]
 ·have : i = xs.length := by omega
  subst this
  rw [if_neg h, List.getElem?_append_right (Nat.le_refl _), Nat.sub_self]
  rfl
theorem eU {xs : List Inn} {s : Inn} (h : G4 xs) (hs : s.Fit) : G4 (xs ++ [s]) := fun i hi => by
 rw [List.length_append] at hi
 rw [fJ xs s i hi]
 by_cases e : i < xs.length
 ·rw [if_pos e]; exact h i e
 ·rw [if_neg e]; exact hs
theorem XG (r : Rul) (a b c : Int) (e : Ev) : (Dh r (DS r a b c).1 e).1.Fit := by
 obtain ⟨f, h1, h2⟩ := Nw r a b c
 exact Qo (TA r _ e) f (by rw [h1, h2]; exact Nat.zero_le _)
structure ActOk (m : Mat) (x : Mat × Int) : Prop where
 rules : x.1.rules = m.rules
 fit : G4 x.1.inns
 len : x.1.inns.length ≤ 5
 some' : (x.2 == 0) = true → (x.1.stage == 3) = true → ((x.1.inns.length : Int) == 0) = false
theorem A_c {m : Mat} (b : Bool) (x y : Mat × Int) (hx : ActOk m x) (hy : ActOk m y) : ActOk m (cond b x y) := by cases b <;> assumption
theorem eY {m : Mat} (sd : Int) (hf : G4 m.inns) : (Kc m sd).rules = m.rules ∧ G4 (Kc m sd).inns ∧ (Kc m sd).inns.length = m.inns.length ∧ (Kc m sd).stage = m.stage := by
 unfold Kc
 cases h : Pm m.inns sd m.inns.length with
 | none => exact ⟨rfl, hf, rfl, rfl⟩
 | some k =>
  have hk : k < m.inns.length := by
   have : ∀ n, Pm m.inns sd n = some k → k < n := by
    intro n
    induction n with
    | zero => intro h; cases h
    | succ n ih =>
     intro h
     unfold Pm at h
     cases hq : (inn m.inns n).side == sd with
     | true => rw [hq] at h; cases h; omega
     | false => rw [hq] at h; have := ih h; omega
   exact this _ h
  exact ⟨rfl, RU k hf (fw (hf k hk)), List.length_set, rfl⟩
theorem cn {m : Mat} (ok : MatOk m) (e : Ev) : ActOk m (Ic m e) := by
 have hf := cR ok
 have hl := ok.len
 have self : ∀ n : Int, (n == 0) = false → ActOk m (m, n) := fun n hn => ⟨rfl, hf, by show m.inns.length ≤ 5; omega, fun h => by rw [hn] at h; cases h⟩
 unfold Ic
 refine A_c _ _ _ (A_c _ _ _ (self 1 rfl) ⟨rfl, hf, by show m.inns.length ≤ 5; omega, fun _ h => by cases h⟩) (A_c _ _ _ ?_ (A_c _ _ _ ?_ (A_c _ _ _ ?_ ?_)))
 ·refine A_c _ _ _ (self 1 rfl) ?_
  unfold Yi
  refine A_c _ _ _ (self 1 rfl) ?_
  cases hq : (Dh m.rules (DS m.rules (GW m (m.inns.length : Int)) (H7 m (GW m (m.inns.length : Int))) (cond (GW m (m.inns.length : Int) == 2) m.pen2 m.pen1)).1 e).2 == 0 with
  | false =>
   simp only [Bool.not_false, cond_true]
   exact self _ hq
  | true =>
   simp only [Bool.not_true, cond_false]
   exact ⟨rfl, eU hf (XG _ _ _ _ e), by simp; omega, fun _ _ => by
    show ((((m.inns ++ [_]).length : Nat) : Int) == 0) = false
    rw [List.length_append]
    exact beq_false_of_ne (by simp; omega)⟩
 ·exact A_c _ _ _ (self 1 rfl) (A_c _ _ _ (self 2 rfl) ⟨rfl, hf, by show m.inns.length ≤ 5; omega, fun _ h => by cases h⟩)
 ·unfold bz
  cases h3 : m.stage == 3 with
  | false => exact ⟨rfl, hf, by show m.inns.length ≤ 5; omega, fun _ h => by cases h⟩
  | true =>
   have h0 := ok.begun h3
   have fl := hf (lnx m.inns) (Z1 h0 (by omega))
   exact ⟨rfl, RU _ hf ⟨fl.bt, fl.bw, fl.bf, fl.bd, fl.sb⟩, by show (m.inns.set _ _).length ≤ 5; rw [List.length_set]; omega, fun _ h => by cases h⟩
 ·cases h3 : m.stage == 3 with
  | false => exact self 1 rfl
  | true =>
   have h0 := ok.begun h3
   have lv := RE (ok.innv (lnx m.inns) (Z1 h0 (by omega))).1
   have h1 := lv.1
   have h2 := lv.2.1
   have ft := Qo (TA m.rules (Bn m) e) lv.2.2 (show (inn m.inns (lnx m.inns)).before.length + (inn m.inns (lnx m.inns)).bowlers.length ≤ 1048575 by omega)
   simp only [Bool.not_true, cond_false, Yh]
   cases hq : (Dh m.rules (Bn m) e).2 == 0 with
   | false =>
    simp only [Bool.not_false, Bool.not_true, cond_true, cond_false]
    exact self _ hq
   | true =>
    have fs := RU (lnx m.inns) hf ft
    have ln : (m.inns.set (lnx m.inns) (Dh m.rules (Bn m) e).1).length = m.inns.length := List.length_set
    simp only [Bool.not_true, cond_false]
    cases (e.kind == 13 && !(e.side == (Dh m.rules (Bn m) e).1.side)) with
    | false =>
     exact ⟨rfl, fs, by show (m.inns.set _ _).length ≤ 5; omega, fun _ _ => by
      show ((((m.inns.set _ _).length : Nat) : Int) == 0) = false
      rw [ln]; exact h0⟩
    | true =>
     obtain ⟨a1, a2, a3, a4⟩ := eY (m := { m with inns := m.inns.set (lnx m.inns) (Dh m.rules (Bn m) e).1 }) e.side fs
     exact ⟨a1, a2, by show (Kc _ _).inns.length ≤ 5; rw [a3]; show (m.inns.set _ _).length ≤ 5; omega, fun _ _ => by
      show ((((Kc _ _).inns.length : Nat) : Int) == 0) = false
      rw [a3]
      show ((((m.inns.set _ _).length : Nat) : Int) == 0) = false
      rw [ln]; exact h0⟩
end Go.Px
end
section
namespace Go.Px
set_option maxRecDepth 100000
set_option maxHeartbeats 8000000 in
theorem Y6 {N : Nat} {m1 m2 m3 m4 m5 m6 m7 m9 m10 m11 m12 m14 m15 m18 m19 m20 m21 m22 : Int} {m8 m16 : Bool} {m0 : ByteArray} {m13 : Rows} {m17 : List Inn} {e0 e1 e2 e3 e5 e6 e7 e8 e9 e10 e11 e13 e14 e15 e16 e18 : Int} {e4 e12 e17 : Bool} (hN : 2097152 < N) (hf : G4 m17) (hl : m17.length ≤ 1000000) (hs : m0.size ≤ 1048576) (h13 : m13.length ≤ 1048576) : Ko N [.str m0, .int m1, .int m2, .int m3, .int m4, .int m5, .int m6, .int m7, .bool m8, .int m9, .int m10, .int m11, .int m12, .rows m13, .int m14, .int m15, .bool m16, .rows (AS m17), .int m18, .int m19, .int m20, .int m21, .int m22, .int e0, .int e1, .int e2, .int e3, .bool e4, .int e5, .int e6, .int e7, .int e8, .int e9, .int e10, .int e11, .bool e12, .int e13, .int e14, .int e15, .int e16, .bool e17, .int e18] = some (MO (HF (⟨⟨m0, m1, m2, m3, m4, m5, m6, m7, m8, m9, m10, m11, m12, m13⟩, m14, m15, m16, m17, m18, m19, m20, m21, m22⟩ : Mat) (⟨e0, e1, e2, e3, e4, e5, e6, ⟨e7, e8, e9, e10, e11, e12, e13, e14, e15, e16, e17, e18⟩⟩ : Ev))) := by
 show KY (std (Aq N) N) (xOf _) = _
 generalize hres : (some (MO (HF (⟨⟨m0, m1, m2, m3, m4, m5, m6, m7, m8, m9, m10, m11, m12, m13⟩, m14, m15, m16, m17, m18, m19, m20, m21, m22⟩ : Mat) (⟨e0, e1, e2, e3, e4, e5, e6, ⟨e7, e8, e9, e10, e11, e12, e13, e14, e15, e16, e17, e18⟩⟩ : Ev))) : Option (List PV)) = RR
 simp only [KY, CN, DP, Fb, O6, Oq, O5, EA, D5, Hh, Gk, Dk, Cd, std, xOf, PXb, SC hf hN hl hs, R3 hN, YN hf hN hl h13]
 subst hres; simp only [HF]
 cases hv : Gb (⟨⟨m0, m1, m2, m3, m4, m5, m6, m7, m8, m9, m10, m11, m12, m13⟩, m14, m15, m16, m17, m18, m19, m20, m21, m22⟩ : Mat)
 case false => rfl
 cases he : evS (⟨e0, e1, e2, e3, e4, e5, e6, ⟨e7, e8, e9, e10, e11, e12, e13, e14, e15, e16, e17, e18⟩⟩ : Ev) == 0
 case false => simp only [PXb, he]; rfl
 simp only [PXb, he]
 cases h5 : m14 == 5
 case true => rfl
 simp only [PXb]
 have ok := aA hv
 refine bind_ok (r := .int (Ic (⟨⟨m0, m1, m2, m3, m4, m5, m6, m7, m8, m9, m10, m11, m12, m13⟩, m14, m15, m16, m17, m18, m19, m20, m21, m22⟩ : Mat) (⟨e0, e1, e2, e3, e4, e5, e6, ⟨e7, e8, e9, e10, e11, e12, e13, e14, e15, e16, e17, e18⟩⟩ : Ev)).2 :: (Ic (⟨⟨m0, m1, m2, m3, m4, m5, m6, m7, m8, m9, m10, m11, m12, m13⟩, m14, m15, m16, m17, m18, m19, m20, m21, m22⟩ : Mat) (⟨e0, e1, e2, e3, e4, e5, e6, ⟨e7, e8, e9, e10, e11, e12, e13, e14, e15, e16, e17, e18⟩⟩ : Ev)).1.ls) ?_ ?_
 ·unfold Ic
  cases hk1 : e0 == 1
  case true =>
   simp only [PXb, D5, GS]
   cases m14 == 1 <;> cases e4 <;> rfl
  cases hk2 : e0 == 2
  case true =>
   simp only [PXb]
   cases hs2 : m14 == 2
   case false => rfl
   have hl2 : m17.length ≤ 1048576 := by omega
   have h304 : iSm ((m17.length + 1 : Nat) : Int) 304 = true := KJ (by omega) (by omega)
   have fb := fun a b c => (Nw (⟨⟨m0, m1, m2, m3, m4, m5, m6, m7, m8, m9, m10, m11, m12, m13⟩, m14, m15, m16, m17, m18, m19, m20, m21, m22⟩ : Mat).rules a b c).1
   have wb : ∀ a b c, (DS (⟨⟨m0, m1, m2, m3, m4, m5, m6, m7, m8, m9, m10, m11, m12, m13⟩, m14, m15, m16, m17, m18, m19, m20, m21, m22⟩ : Mat).rules a b c).1.before.length + (DS (⟨⟨m0, m1, m2, m3, m4, m5, m6, m7, m8, m9, m10, m11, m12, m13⟩, m14, m15, m16, m17, m18, m19, m20, m21, m22⟩ : Mat).rules a b c).1.bowlers.length ≤ 1000000 := fun a b c => by
    rw [(Nw (⟨⟨m0, m1, m2, m3, m4, m5, m6, m7, m8, m9, m10, m11, m12, m13⟩, m14, m15, m16, m17, m18, m19, m20, m21, m22⟩ : Mat).rules a b c).2.1, (Nw (⟨⟨m0, m1, m2, m3, m4, m5, m6, m7, m8, m9, m10, m11, m12, m13⟩, m14, m15, m16, m17, m18, m19, m20, m21, m22⟩ : Mat).rules a b c).2.2]
    exact Nat.zero_le _
   rcases ec (m := (⟨⟨m0, m1, m2, m3, m4, m5, m6, m7, m8, m9, m10, m11, m12, m13⟩, m14, m15, m16, m17, m18, m19, m20, m21, m22⟩ : Mat)) (ok.toss hs2) (m17.length : Int) with ho | ho
   ·simp only [PXb, PXc, I2, Z7, Nat.reduceAdd, Int.reduceBEq, PXi, PXr, Inn.eta, A1, List.length_append, List.length_cons, List.length_nil, h304, Yi, EA, Dk, DP, CN, Mw, Qz hN hl2, PN hN hs, Lz (fb _ _ _) (wb _ _ _) hN hs h13, ho, wr1, wr2, ZX, Yw]
    cases (DS (⟨⟨m0, m1, m2, m3, m4, m5, m6, m7, m8, m9, m10, m11, m12, m13⟩, m14, m15, m16, m17, m18, m19, m20, m21, m22⟩ : Mat).rules 1 (H7 (⟨⟨m0, m1, m2, m3, m4, m5, m6, m7, m8, m9, m10, m11, m12, m13⟩, m14, m15, m16, m17, m18, m19, m20, m21, m22⟩ : Mat) 1) m18).2 == 0 <;> try rfl
    cases (Dh (⟨⟨m0, m1, m2, m3, m4, m5, m6, m7, m8, m9, m10, m11, m12, m13⟩, m14, m15, m16, m17, m18, m19, m20, m21, m22⟩ : Mat).rules (DS (⟨⟨m0, m1, m2, m3, m4, m5, m6, m7, m8, m9, m10, m11, m12, m13⟩, m14, m15, m16, m17, m18, m19, m20, m21, m22⟩ : Mat).rules 1 (H7 (⟨⟨m0, m1, m2, m3, m4, m5, m6, m7, m8, m9, m10, m11, m12, m13⟩, m14, m15, m16, m17, m18, m19, m20, m21, m22⟩ : Mat) 1) m18).1 (⟨e0, e1, e2, e3, e4, e5, e6, ⟨e7, e8, e9, e10, e11, e12, e13, e14, e15, e16, e17, e18⟩⟩ : Ev)).2 == 0 <;> rfl
   ·simp only [PXb, PXc, I2, Z7, Nat.reduceAdd, Int.reduceBEq, PXi, PXr, Inn.eta, A1, List.length_append, List.length_cons, List.length_nil, h304, Yi, EA, Dk, DP, CN, Mw, Qz hN hl2, PN hN hs, Lz (fb _ _ _) (wb _ _ _) hN hs h13, ho, wr1, wr2, ZX, Yw]
    cases (DS (⟨⟨m0, m1, m2, m3, m4, m5, m6, m7, m8, m9, m10, m11, m12, m13⟩, m14, m15, m16, m17, m18, m19, m20, m21, m22⟩ : Mat).rules 2 (H7 (⟨⟨m0, m1, m2, m3, m4, m5, m6, m7, m8, m9, m10, m11, m12, m13⟩, m14, m15, m16, m17, m18, m19, m20, m21, m22⟩ : Mat) 2) m19).2 == 0 <;> try rfl
    cases (Dh (⟨⟨m0, m1, m2, m3, m4, m5, m6, m7, m8, m9, m10, m11, m12, m13⟩, m14, m15, m16, m17, m18, m19, m20, m21, m22⟩ : Mat).rules (DS (⟨⟨m0, m1, m2, m3, m4, m5, m6, m7, m8, m9, m10, m11, m12, m13⟩, m14, m15, m16, m17, m18, m19, m20, m21, m22⟩ : Mat).rules 2 (H7 (⟨⟨m0, m1, m2, m3, m4, m5, m6, m7, m8, m9, m10, m11, m12, m13⟩, m14, m15, m16, m17, m18, m19, m20, m21, m22⟩ : Mat) 2) m19).1 (⟨e0, e1, e2, e3, e4, e5, e6, ⟨e7, e8, e9, e10, e11, e12, e13, e14, e15, e16, e17, e18⟩⟩ : Ev)).2 == 0 <;> rfl
  cases hk3 : e0 == 12
  case true =>
   simp only [PXb]
   cases m14 == 4 <;> cases e1 == m15 <;> rfl
  cases hk4 : e0 == 16
  case true =>
   simp only [PXb, bz]
   cases h3 : m14 == 3
   case false => simp only [PXb, PXc, PXi, PXr, I2, Nat.reduceAdd, Cd, Ht]; rfl
   simp only [PXb, PXc, PXi, PXr, I2, Nat.reduceAdd, Qc (ok.begun h3) hl, Cd, Ht]
   rfl
  simp only [PXb]
  cases h3 : m14 == 3
  case false => rfl
  have h0 := ok.begun h3
  have lv := RE (ok.innv (lnx m17) (Z1 h0 hl)).1
  have fl : (inn m17 (IntKind.i64.wrap ((m17.length : Int) - 1)).toNat).Fit := lv.2.2
  have wl : (inn m17 (IntKind.i64.wrap ((m17.length : Int) - 1)).toNat).before.length + (inn m17 (IntKind.i64.wrap ((m17.length : Int) - 1)).toNat).bowlers.length ≤ 1000000 := by
   have h1 := lv.1
   have h2 := lv.2.1
   change (inn m17 (IntKind.i64.wrap ((m17.length : Int) - 1)).toNat).bowlers.length ≤ 11 at h1
   change (inn m17 (IntKind.i64.wrap ((m17.length : Int) - 1)).toNat).before.length ≤ 11 at h2
   omega
  have f1 := Qo (TA (⟨⟨m0, m1, m2, m3, m4, m5, m6, m7, m8, m9, m10, m11, m12, m13⟩, m14, m15, m16, m17, m18, m19, m20, m21, m22⟩ : Mat).rules (inn m17 (IntKind.i64.wrap ((m17.length : Int) - 1)).toNat) (⟨e0, e1, e2, e3, e4, e5, e6, ⟨e7, e8, e9, e10, e11, e12, e13, e14, e15, e16, e17, e18⟩⟩ : Ev)) fl (by omega)
  simp only [PXb, PXc, PXi, PXr, A1, Inn.eta, I2, Nat.reduceAdd, List.length_set, Qc h0 hl, CN, Lz fl wl hN hs h13, Yh, Bn, lnx]
  generalize hX : Dh (⟨⟨m0, m1, m2, m3, m4, m5, m6, m7, m8, m9, m10, m11, m12, m13⟩, m14, m15, m16, m17, m18, m19, m20, m21, m22⟩ : Mat).rules (inn m17 (IntKind.i64.wrap ((m17.length : Int) - 1)).toNat) (⟨e0, e1, e2, e3, e4, e5, e6, ⟨e7, e8, e9, e10, e11, e12, e13, e14, e15, e16, e17, e18⟩⟩ : Ev) = X at f1
  have fy := RU (IntKind.i64.wrap ((m17.length : Int) - 1)).toNat hf f1
  generalize hy : m17.set (IntKind.i64.wrap ((m17.length : Int) - 1)).toNat X.1 = ys at fy
  have ly : ys.length = m17.length := by rw [← hy, List.length_set]
  cases X.2 == 0 <;> try rfl
  cases h13k : e0 == 13
  case false => rfl
  cases hsd : e1 == X.1.side
  case true => rfl
  simp only [PXb, Option.bind_assoc]
  have e0w : IntKind.i64.wrap ((m17.length : Int) - 1) = (m17.length : Int) - 1 - ((0 : Nat) : Int) := by
   rw [beq_eq_false_iff_ne] at h0
   rw [Ga (by omega) (by omega)]; omega
  rw [e0w]
  have hside := dP (e := (⟨e0, e1, e2, e3, e4, e5, e6, ⟨e7, e8, e9, e10, e11, e12, e13, e14, e15, e16, e17, e18⟩⟩ : Ev)) he h13k
  simp only at hside
  refine Ac (Wd (len := m17.length) (fun j => [.int ((m17.length : Int) - 1 - (j : Int))]) (fun j => cond ((inn ys (m17.length - 1 - j)).side == e1) (some [PV.str m0, PV.int m1, PV.int m2, PV.int m3, PV.int m4, PV.int m5, PV.int m6, PV.int m7, PV.bool m8, PV.int m9, PV.int m10, PV.int m11, PV.int m12, PV.rows m13, PV.int m14, PV.int m15, PV.bool m16, PV.rows (AS (ys.set (m17.length - 1 - j) (Tj (inn ys (m17.length - 1 - j))))), PV.int m18, PV.int m19, PV.int m20, PV.int m21, PV.int m22]) none) ?_ ?_ m17.length 0 N (by omega) (by omega)) ?_
  ·intro self
   have q1 : iLe 0 ((m17.length : Int) - 1 - (m17.length : Int)) = false := by simp only [iLe, decide_eq_false_iff_not]; omega
   simp only [PXb, q1]
  ·intro i self hi
   have q1 : iLe 0 ((m17.length : Int) - 1 - (i : Int)) = true := by simp only [iLe, decide_eq_true_eq]; omega
   have q2 : iIn ((m17.length : Int) - 1 - (i : Int)) (m17.length : Int) = true := by simp only [iIn, decide_eq_true_eq]; omega
   have q3 : ((m17.length : Int) - 1 - (i : Int)).toNat = m17.length - 1 - i := by omega
   have q4 : IntKind.i64.wrap ((m17.length : Int) - 1 - (i : Int) - 1) = (m17.length : Int) - 1 - ((i + 1 : Nat) : Int) := by rw [Ga (by omega) (by omega)]; omega
   have q5 := fy (m17.length - 1 - i) (by omega)
   simp only [PXb, PXc, q1, q2, q3, q4, Fb, Ng q5, PXm]
   cases (inn ys (m17.length - 1 - i)).side == e1 <;> rfl
  ·have hfa := bA ys e1 (fun k => [PV.str m0, PV.int m1, PV.int m2, PV.int m3, PV.int m4, PV.int m5, PV.int m6, PV.int m7, PV.bool m8, PV.int m9, PV.int m10, PV.int m11, PV.int m12, PV.rows m13, PV.int m14, PV.int m15, PV.bool m16, PV.rows (AS (ys.set k (Tj (inn ys k)))), PV.int m18, PV.int m19, PV.int m20, PV.int m21, PV.int m22]) m17.length m17.length (Nat.le_refl _)
   rw [Nat.sub_self] at hfa
   rw [hfa]
   unfold Kc
   simp only [ly]
   cases Pm ys e1 m17.length with
   | some k => rfl
   | none =>
    rcases hside with h | h <;> subst h
    ·simp only [Option.map_none, T0, PXb, PXc, I2, Int.reduceBEq, wr1, ZX]
     rfl
    ·simp only [Option.map_none, T0, PXb, PXc, I2, Int.reduceBEq, wr2, Yw]
     rfl
 ·have ak := cn ok (⟨e0, e1, e2, e3, e4, e5, e6, ⟨e7, e8, e9, e10, e11, e12, e13, e14, e15, e16, e17, e18⟩⟩ : Ev)
  generalize Ic (⟨⟨m0, m1, m2, m3, m4, m5, m6, m7, m8, m9, m10, m11, m12, m13⟩, m14, m15, m16, m17, m18, m19, m20, m21, m22⟩ : Mat) (⟨e0, e1, e2, e3, e4, e5, e6, ⟨e7, e8, e9, e10, e11, e12, e13, e14, e15, e16, e17, e18⟩⟩ : Ev) = A at ak
  obtain ⟨⟨⟨a0, a1, a2, a3, a4, a5, a6, a7, a8, a9, a10, a11, a12, a13⟩, a14, a15, a16, a17, a18, a19, a20, a21, a22⟩, l⟩ := A
  obtain ⟨k1, k2, k3, k4⟩ := ak
  simp only at k1 k2 k3 k4
  have hl5 : a17.length ≤ 1048576 := by omega
  have hs5 : a0.size ≤ 1048576 := by
   have := congrArg Rul.name k1
   simp only at this
   rw [this]; exact hs
  simp only [PXb, PXc, PXk, PXi, I2, Nat.reduceAdd]
  cases hl0 : l == 0
  case false => rfl
  simp only [PXb, MQ]
  cases h3 : a14 == 3
  case false => rfl
  have h0 := k4 hl0 h3
  have li := Qc h0 (show a17.length ≤ 1000000 by omega)
  simp only [PXb, PXc, PXi, li]
  cases he2 : (inn a17 (IntKind.i64.wrap ((a17.length : Int) - 1)).toNat).ending == 0
  case true => simp only [PXb, Bn, lnx, he2]
  simp only [PXb, PXc, PXi, Bn, lnx, he2, Hh, D5, Gk, M2 hN hl5, GS, Wo k2 hN (show a17.length ≤ 1000000 by omega) hs5]
  unfold RA
  simp only [Bn, lnx]
  simp only [CH, Bn, lnx]
  cases hq1 : ((a17.length : Int) == IntKind.i64.wrap (2 * a2))
  case true => rfl
  cases hq2 : ((a17.length : Int) == 3)
  case true =>
   simp only [PXb]
   cases iLt (M1 a17 (inn a17 (IntKind.i64.wrap ((a17.length : Int) - 1)).toNat).side a17.length) (M1 a17 (C3 (inn a17 (IntKind.i64.wrap ((a17.length : Int) - 1)).toNat).side) a17.length)
   case true => rfl
   simp only [PXb]
   cases ((a17.length : Int) == 2) && iLt 0 a10 && iLe a10 (IntKind.i64.wrap (M1 a17 a15 a17.length - M1 a17 (C3 a15) a17.length)) <;> rfl
  simp only [PXb]
  cases ((a17.length : Int) == 2) && iLt 0 a10 && iLe a10 (IntKind.i64.wrap (M1 a17 a15 a17.length - M1 a17 (C3 a15) a17.length)) <;> rfl
end Go.Px
end
section
namespace Go.Px
set_option maxRecDepth 100000
theorem ai (m : Mat) : (RA m).rules = m.rules ∧ (RA m).inns = m.inns := by
 unfold RA
 dsimp only
 cases ((m.inns.length : Int) == IntKind.i64.wrap (2 * m.rules.innings) || ((m.inns.length : Int) == 3 && iLt (CH m (Bn m).side) (CH m (C3 (Bn m).side)))) with
 | true => exact ⟨rfl, rfl⟩
 | false =>
  cases ((m.inns.length : Int) == 2 && iLt 0 m.rules.followon && iLe m.rules.followon (IntKind.i64.wrap (CH m m.first - CH m (C3 m.first)))) <;> exact ⟨rfl, rfl⟩
theorem Wm (m : Mat) : (MQ m).rules = m.rules ∧ (MQ m).inns = m.inns := by
 unfold MQ
 cases (m.stage == 3 && !((Bn m).ending == 0)) with
 | true => exact ai m
 | false => exact ⟨rfl, rfl⟩
structure StepOk (r : Rul) (m : Mat) : Prop where
 rules : m.rules = r
 fit : G4 m.inns
 len : m.inns.length ≤ 5
theorem bq {r : Rul} {m : Mat} (h : StepOk r m) (e : Ev) : StepOk r (HF m e).1 := by
 unfold HF
 cases hv : Gb m with
 | false => exact h
 | true =>
  cases he : evS e == 0 with
  | false => exact h
  | true =>
   cases h5 : m.stage == 5 with
   | true => exact h
   | false =>
    have a := cn (aA hv) e
    cases hx : (Ic m e).2 == 0 with
    | false => exact h
    | true =>
     have k := Wm (Ic m e).1
     exact ⟨k.1.trans (a.rules.trans h.rules), by show G4 (MQ _).inns; rw [k.2]; exact a.fit, by show (MQ _).inns.length ≤ 5; rw [k.2]; exact a.len⟩
theorem bH (r : Rul) (h : ((C6 r).2 == 0) = true) : StepOk r (C6 r).1 := by
 unfold C6 at h ⊢
 cases hc : Au r == 0 with
 | false => rw [hc] at h; exact absurd (show (Au r == 0) = true from h) (by rw [hc]; decide)
 | true => exact ⟨rfl, fun i hi => absurd hi (Nat.not_lt_zero i), Nat.zero_le _⟩
theorem eC {m : Mat} {e : Ev} (h : ((HF m e).2 == 0) = true) : Gb m = true ∧ (evS e == 0) = true ∧ (m.stage == 5) = false ∧ ((Ic m e).2 == 0) = true ∧ (HF m e).1 = MQ (Ic m e).1 := by
 unfold HF at h ⊢
 cases hv : Gb m with
 | false => rw [hv] at h; exact absurd (show ((1 : Int) == 0) = true from h) (by decide)
 | true =>
  cases he : evS e == 0 with
  | false => rw [hv, he] at h; exact absurd (show ((1 : Int) == 0) = true from h) (by decide)
  | true =>
   cases h5 : m.stage == 5 with
   | true => rw [hv, he, h5] at h; exact absurd (show ((26 : Int) == 0) = true from h) (by decide)
   | false =>
    cases hx : (Ic m e).2 == 0 with
    | false => rw [hv, he, h5, hx] at h; exact absurd (show ((Ic m e).2 == 0) = true from h) (by rw [hx]; decide)
    | true => exact ⟨rfl, rfl, rfl, rfl, rfl⟩
theorem bM {m : Mat} {e : Ev} (h : ((HF m e).2 == 0) = true) (hk : (e.kind == 4) = true) : (m.stage == 3) = true ∧ ((m.inns.length : Int) == 0) = false ∧ ((Dh m.rules (Bn m) e).2 == 0) = true ∧ (HF m e).1.inns = m.inns.set (lnx m.inns) (Dh m.rules (Bn m) e).1 := by
 obtain ⟨hv, he, h5, ha, hs⟩ := eC h
 have hk4 := beq_iff_eq.1 hk
 rw [hs, (Wm _).2]
 unfold Ic at ha ⊢
 simp only [hk4, Int.reduceBEq, cond_false] at ha ⊢
 cases h3 : m.stage == 3 with
 | false => rw [h3] at ha; exact absurd (show ((1 : Int) == 0) = true from ha) (by decide)
 | true =>
  rw [h3] at ha
  simp only [Bool.not_true, cond_false] at ha ⊢
  unfold Yh at ha ⊢
  cases hq : (Dh m.rules (Bn m) e).2 == 0 with
  | false => simp only [hq, Bool.not_false, cond_true] at ha; exact absurd ha Bool.false_ne_true
  | true =>
   simp only [hk4, Int.reduceBEq, Bool.false_and, hq, Bool.not_true, cond_false]
   exact ⟨trivial, (aA hv).begun h3, trivial, trivial⟩
theorem bL (b : ByteArray) : (b.toList == b.toList) = true := beq_self_eq_true _
theorem Nl {N : Nat} {L : Rows} (hN : 2097152 < N) (h13 : L.length ≤ 1048576) : CO N [.rows L, .rows L] = some [.bool true] := by
 show Dl (std (I3 N) N) (xOf _) = _
 simp only [Dl, std, xOf, PXb, PXm]
 refine Ac (Jd (len := L.length) (fun i => [.int (i : Int)]) [.int 1] ?_ ?_ N (by omega)) ?_
 ·intro self
  simp only [PXb, PXc, PXn, AE, BX]
 ·intro i self hi
  simp only [PXb, PXc, PXn, PXm, Nat.reduceAdd, Int.reduceBEq, Am (show i ≤ 1099511627776 by omega), BC hi, Aj hi]
  rfl
 ·simp only [PXb, PXc, PXn, PXm, Nat.reduceAdd, Int.reduceBEq]
theorem WR {N : Nat} {r1 r2 r3 r4 r5 r6 r7 r9 r10 r11 r12 : Int} {r8 : Bool} {r0 : ByteArray} {r13 : Rows}  : Ep N [.str r0, .int r1, .int r2, .int r3, .int r4, .int r5, .int r6, .int r7, .bool r8, .int r9, .int r10, .int r11, .int r12, .rows r13] = some [.int r1, .int r2, .int r3, .int r4, .int r5, .int r6, .int r7, .int r9, .int r10, .int r11, .int r12] := by
 show G8 (std (NU N) N) (xOf _) = _
 simp only [G8, std, xOf, PXb, PXc, PXn, PXm, Nat.reduceAdd, Int.reduceBEq]
theorem UN {N : Nat} {r1 r2 r3 r4 r5 r6 r7 r9 r10 r11 r12 : Int} {r8 : Bool} {r0 : ByteArray} {r13 : Rows} (hN : 2097152 < N) (h13 : r13.length ≤ 1048576) : Kh N [.str r0, .int r1, .int r2, .int r3, .int r4, .int r5, .int r6, .int r7, .bool r8, .int r9, .int r10, .int r11, .int r12, .rows r13, .str r0, .int r1, .int r2, .int r3, .int r4, .int r5, .int r6, .int r7, .bool r8, .int r9, .int r10, .int r11, .int r12, .rows r13] = some [.bool true] := by
 show K1 (std (H9 N) N) (xOf _) = _
 simp only [K1, M7, KF, std, xOf, PXb, PXc, PXn, PXm, Nat.reduceAdd, Int.reduceBEq, bL, WR, Nl hN h13]
theorem J6 {N : Nat} {xs : List Inn} (hN : 2097152 < N) (hf : G4 xs) (hl : xs.length ≤ 1000000) : BV N [.rows (AS xs), .rows (AS xs)] = some [.bool true] := by
 show BW (std (Ax N) N) (xOf _) = _
 simp only [BW, Cc, std, xOf, PXb, PXm, PXi]
 refine Ac (Jd (len := xs.length) (fun i => [.int (i : Int)]) [.int 1] ?_ ?_ N (by omega)) ?_
 ·intro self
  simp only [PXb, PXc, PXn, AE, BX]
 ·intro i self hi
  simp only [PXb, PXc, PXn, PXm, Nat.reduceAdd, Int.reduceBEq, Am (show i ≤ 1099511627776 by omega), BC hi, Aj hi, PXi, Cc, W7 (hf i hi) hN, dG]
  rfl
 ·simp only [PXb, PXc, PXn, PXm, Nat.reduceAdd, Int.reduceBEq]
theorem Ig {N : Nat} {m1 m2 m3 m4 m5 m6 m7 m9 m10 m11 m12 m14 m15 m18 m19 m20 m21 m22 : Int} {m8 m16 : Bool} {m0 : ByteArray} {m13 : Rows} {m17 : List Inn} (hN : 2097152 < N) (hf : G4 m17) (hl : m17.length ≤ 1000000) (h13 : m13.length ≤ 1048576) : Hb N [.str m0, .int m1, .int m2, .int m3, .int m4, .int m5, .int m6, .int m7, .bool m8, .int m9, .int m10, .int m11, .int m12, .rows m13, .int m14, .int m15, .bool m16, .rows (AS m17), .int m18, .int m19, .int m20, .int m21, .int m22, .str m0, .int m1, .int m2, .int m3, .int m4, .int m5, .int m6, .int m7, .bool m8, .int m9, .int m10, .int m11, .int m12, .rows m13, .int m14, .int m15, .bool m16, .rows (AS m17), .int m18, .int m19, .int m20, .int m21, .int m22] = some [.bool true] := by
 show Hg (std (Cq N) N) (xOf _) = _
 simp only [Hg, PJ, HR, std, xOf, PXb, PXc, PXn, PXm, Nat.reduceAdd, Int.reduceBEq, UN hN h13, J6 hN hf hl]
end Go.Px
end
section
namespace Go.Px
set_option maxRecDepth 100000
def evR (L : Rows) (i : Nat) : Ev := ⟨atI L i 0, atI L i 1, atI L i 2, atI L i 3, atB L i 4, atI L i 5, atI L i 6, ⟨atI L i 7, atI L i 8, atI L i 9, atI L i 10, atI L i 11, atB L i 12, atI L i 13, atI L i 14, atI L i 15, atI L i 16, atB L i 17, atI L i 18⟩⟩
theorem gl (L : Rows) (i : Nat) : (⟨atI L i 0, atI L i 1, atI L i 2, atI L i 3, atB L i 4, atI L i 5, atI L i 6, ⟨atI L i 7, atI L i 8, atI L i 9, atI L i 10, atI L i 11, atB L i 12, atI L i 13, atI L i 14, atI L i 15, atI L i 16, atB L i 17, atI L i 18⟩⟩ : Ev) = evR L i := rfl
def As (i : Int) (m : Mat) (e : Ev) : Mat × Int := cond (iLe 4000 i) (m, 26) (HF m e)
def Bk (L : Rows) : Nat → Nat → Mat → Mat × Int × Int
 | 0, _, m => (m, -1, 0)
 | k + 1, i, m => cond (!((As i m (evR L i)).2 == 0)) (m, (i : Int), (As i m (evR L i)).2) (Bk L k (i + 1) (As i m (evR L i)).1)
def V9 (i : Int) (m t : Mat) (d : Del) : List PV :=
 [.int i, .int (IntKind.i64.wrap ((m.inns.length : Int) - 1)), .int (Bn m).complete, .int (Bn m).inover, .int (Bn m).bowler, .int (Bn m).striker, .int (Bn m).other, .bool (Bn m).freehit,
  .int d.type, .int d.source, .int d.runs, .int d.short, .int d.boundary, .bool d.crossed, .int d.how, .int d.victim, .int d.fielder, .int d.second, .bool d.sub, .int d.sector,
  .int (BO m.rules d).batter, .int (BO m.rules d).wides, .int (BO m.rules d).noballs, .int (BO m.rules d).byes, .int (BO m.rules d).legbyes, .int (BO m.rules d).bowler, .bool (BO m.rules d).counts, .bool (BO m.rules d).faced, .bool (BO m.rules d).wicket, .bool (BO m.rules d).swap,
  .int (inn t.inns (lnx m.inns)).runs, .int (inn t.inns (lnx m.inns)).wickets]
def Pi (L : Rows) : Nat → Nat → Mat → Rows → Rows
 | 0, _, _, out => out
 | k + 1, i, m, out => cond (!((As i m (evR L i)).2 == 0)) out (Pi L k (i + 1) (As i m (evR L i)).1 (cond ((evR L i).kind == 4) (out ++ [V9 i m (As i m (evR L i)).1 (evR L i).ball]) out))
def T4 (f : Mat × Int × Int) : List PV := [.str f.1.rules.name, .int f.1.rules.side, .int f.1.rules.innings, .int f.1.rules.overs, .int f.1.rules.balls, .int f.1.rules.quota, .int f.1.rules.wide, .int f.1.rules.noball, .bool f.1.rules.freehit, .int f.1.rules.newball, .int f.1.rules.followon, .int f.1.rules.reviews, .int f.1.rules.outside, .rows f.1.rules.power, .int f.1.stage, .int f.1.first, .bool f.1.follow, .rows (AS f.1.inns), .int f.1.pen1, .int f.1.pen2, .int f.1.win, .int f.1.wside, .int f.1.margin, .int f.2.1, .int f.2.2]
def BN (r : Rul) (L : Rows) : Mat × Int × Int := cond (!((C6 r).2 == 0)) (Pv, 0, 1) (Bk L L.length 0 (C6 r).1)
def XC (r : Rul) (L : Rows) : Rows := cond (!((C6 r).2 == 0)) [] (Pi L L.length 0 (C6 r).1 [])
theorem Z5 (L : Rows) : ∀ k i m, ((Bk L k i m).2.1 == -1) = true → (Bk L k i m).2.2 = 0
 | 0, _, _, _ => rfl
 | k + 1, i, m, h => by
  unfold Bk at h ⊢
  cases hq : (As i m (evR L i)).2 == 0 with
  | false =>
   rw [hq] at h
   have := beq_iff_eq.1 (show ((i : Int) == -1) = true from h)
   omega
  | true => rw [hq] at h; exact Z5 L k (i + 1) _ h
theorem Zq {r : Rul} {m : Mat} (h : StepOk r m) (i : Int) (e : Ev) : StepOk r (As i m e).1 := by
 unfold As
 cases iLe 4000 i with
 | true => exact h
 | false => exact bq h e
theorem f6 {m : Mat} {i : Int} {e : Ev} (h : ((As i m e).2 == 0) = true) : As i m e = HF m e ∧ iLe 4000 i = false := by
 unfold As at h ⊢
 cases h4 : iLe 4000 i with
 | true => rw [h4] at h; exact absurd (show ((26 : Int) == 0) = true from h) (by decide)
 | false => exact ⟨rfl, rfl⟩
theorem cE {N : Nat} {m1 m2 m3 m4 m5 m6 m7 m9 m10 m11 m12 m14 m15 m18 m19 m20 m21 m22 : Int} {m8 m16 : Bool} {m0 : ByteArray} {m13 : Rows} {m17 : List Inn} {i : Int} {e0 e1 e2 e3 e5 e6 e7 e8 e9 e10 e11 e13 e14 e15 e16 e18 : Int} {e4 e12 e17 : Bool} (hN : 2097152 < N) (hf : G4 m17) (hl : m17.length ≤ 1000000) (hs : m0.size ≤ 1048576) (h13 : m13.length ≤ 1048576) : Km N [.str m0, .int m1, .int m2, .int m3, .int m4, .int m5, .int m6, .int m7, .bool m8, .int m9, .int m10, .int m11, .int m12, .rows m13, .int m14, .int m15, .bool m16, .rows (AS m17), .int m18, .int m19, .int m20, .int m21, .int m22, .int i, .int e0, .int e1, .int e2, .int e3, .bool e4, .int e5, .int e6, .int e7, .int e8, .int e9, .int e10, .int e11, .bool e12, .int e13, .int e14, .int e15, .int e16, .bool e17, .int e18] = some (MO (As i (⟨⟨m0, m1, m2, m3, m4, m5, m6, m7, m8, m9, m10, m11, m12, m13⟩, m14, m15, m16, m17, m18, m19, m20, m21, m22⟩ : Mat) (⟨e0, e1, e2, e3, e4, e5, e6, ⟨e7, e8, e9, e10, e11, e12, e13, e14, e15, e16, e17, e18⟩⟩ : Ev))) := by
 show Kw (std (Fr N) N) (xOf _) = _
 generalize hres : (some (MO (As i (⟨⟨m0, m1, m2, m3, m4, m5, m6, m7, m8, m9, m10, m11, m12, m13⟩, m14, m15, m16, m17, m18, m19, m20, m21, m22⟩ : Mat) (⟨e0, e1, e2, e3, e4, e5, e6, ⟨e7, e8, e9, e10, e11, e12, e13, e14, e15, e16, e17, e18⟩⟩ : Ev))) : Option (List PV)) = RR
 simp only [Kw, QX, std, xOf, PXb, Y6 hN hf hl hs h13]
 subst hres; simp only [As]
 cases iLe 4000 i <;> rfl
theorem Wt {N : Nat} {i : Int} {m1 m2 m3 m4 m5 m6 m7 m9 m10 m11 m12 m14 m15 m18 m19 m20 m21 m22 : Int} {m8 m16 : Bool} {m0 : ByteArray} {m13 : Rows} {m17 : List Inn} {t1 t2 t3 t4 t5 t6 t7 t9 t10 t11 t12 t14 t15 t18 t19 t20 t21 t22 : Int} {t8 t16 : Bool} {t0 : ByteArray} {t13 : Rows} {t17 : List Inn} {d0 d1 d2 d3 d4 d6 d7 d8 d9 d11 : Int} {d5 d10 : Bool} (h1 : iIn (IntKind.i64.wrap ((m17.length : Int) - 1)) (m17.length : Int) = true) (h2 : iIn (IntKind.i64.wrap ((m17.length : Int) - 1)) (t17.length : Int) = true) : HB N [.int i, .str m0, .int m1, .int m2, .int m3, .int m4, .int m5, .int m6, .int m7, .bool m8, .int m9, .int m10, .int m11, .int m12, .rows m13, .int m14, .int m15, .bool m16, .rows (AS m17), .int m18, .int m19, .int m20, .int m21, .int m22, .str t0, .int t1, .int t2, .int t3, .int t4, .int t5, .int t6, .int t7, .bool t8, .int t9, .int t10, .int t11, .int t12, .rows t13, .int t14, .int t15, .bool t16, .rows (AS t17), .int t18, .int t19, .int t20, .int t21, .int t22, .int d0, .int d1, .int d2, .int d3, .int d4, .bool d5, .int d6, .int d7, .int d8, .int d9, .bool d10, .int d11] = some (V9 i (⟨⟨m0, m1, m2, m3, m4, m5, m6, m7, m8, m9, m10, m11, m12, m13⟩, m14, m15, m16, m17, m18, m19, m20, m21, m22⟩ : Mat) (⟨⟨t0, t1, t2, t3, t4, t5, t6, t7, t8, t9, t10, t11, t12, t13⟩, t14, t15, t16, t17, t18, t19, t20, t21, t22⟩ : Mat) (⟨d0, d1, d2, d3, d4, d5, d6, d7, d8, d9, d10, d11⟩ : Del)) := by
 show HD (std (IX N) N) (xOf _) = _
 simp only [HD, J7, std, xOf, PXb, PXi, h1, h2, NY]
 rfl
end Go.Px
end
section
namespace Go.Px
set_option maxRecDepth 100000
def O1 (L : Rows) (i : Nat) (s : Rows × Mat) : List PV ⊕ Rows × Mat := cond (!((As i s.2 (evR L i)).2 == 0)) (.inl (.int 0 :: .rows s.1 :: .int i :: .int (As i s.2 (evR L i)).2 :: s.2.ls)) (.inr (cond ((evR L i).kind == 4) (s.1 ++ [V9 i s.2 (As i s.2 (evR L i)).1 (evR L i).ball]) s.1, (As i s.2 (evR L i)).1))
def cH (out : Rows) (f : Mat × Int × Int) : List PV := cond (f.2.1 == -1) (.int 1 :: .rows out :: f.1.ls) (.int 0 :: .rows out :: .int f.2.1 :: .int f.2.2 :: f.1.ls)
theorem X6 (L : Rows) : ∀ k i s, Wv (O1 L) (fun s => .int 1 :: .rows s.1 :: s.2.ls) k i s = cH (Pi L k i s.2 s.1) (Bk L k i s.2)
 | 0, _, _ => rfl
 | k + 1, i, s => by
  simp only [Wv, O1, Bk, Pi]
  cases (As i s.2 (evR L i)).2 == 0 with
  | false =>
   simp only [Bool.not_false, cond_true, cH]
   rw [show ((i : Int) == -1) = false from beq_false_of_ne (show (i : Int) ≠ -1 by omega)]
   rfl
  | true => exact X6 L k (i + 1) _
def dR (out : Rows) (f : Mat × Int × Int) : List PV := [.rows out, .str f.1.rules.name, .int f.1.rules.side, .int f.1.rules.innings, .int f.1.rules.overs, .int f.1.rules.balls, .int f.1.rules.quota, .int f.1.rules.wide, .int f.1.rules.noball, .bool f.1.rules.freehit, .int f.1.rules.newball, .int f.1.rules.followon, .int f.1.rules.reviews, .int f.1.rules.outside, .rows f.1.rules.power, .int f.1.stage, .int f.1.first, .bool f.1.follow, .rows (AS f.1.inns), .int f.1.pen1, .int f.1.pen2, .int f.1.win, .int f.1.wside, .int f.1.margin, .int f.2.1, .int f.2.2]
theorem gS {m t : Mat} {e : Ev} (hl : m.inns.length ≤ 5) (h : ((HF m e).2 == 0) = true) (hk : (e.kind == 4) = true) (ht : (HF m e).1 = t) : iIn (IntKind.i64.wrap ((m.inns.length : Int) - 1)) (m.inns.length : Int) = true ∧ iIn (IntKind.i64.wrap ((m.inns.length : Int) - 1)) (t.inns.length : Int) = true := by
 obtain ⟨_, h2, _, h4⟩ := bM h hk
 have := Qc h2 (show m.inns.length ≤ 1000000 by omega)
 rw [← ht, h4, List.length_set]
 exact ⟨this, this⟩
set_option maxHeartbeats 8000000 in
theorem cC {N : Nat} {r1 r2 r3 r4 r5 r6 r7 r9 r10 r11 r12 : Int} {r8 : Bool} {r0 : ByteArray} {r13 : Rows} {L : Rows} (hN : 2097152 < N) (hs : r0.size ≤ 1048576) (h13 : r13.length ≤ 1048576) (hL : L.length ≤ 1048576) : IL N [.str r0, .int r1, .int r2, .int r3, .int r4, .int r5, .int r6, .int r7, .bool r8, .int r9, .int r10, .int r11, .int r12, .rows r13, .rows L] = some (dR (XC (⟨r0, r1, r2, r3, r4, r5, r6, r7, r8, r9, r10, r11, r12, r13⟩ : Rul) L) (BN (⟨r0, r1, r2, r3, r4, r5, r6, r7, r8, r9, r10, r11, r12, r13⟩ : Rul) L)) := by
  show KL (std (Cw N) N) (xOf _) = _
  generalize hres : (some (dR (XC (⟨r0, r1, r2, r3, r4, r5, r6, r7, r8, r9, r10, r11, r12, r13⟩ : Rul) L) (BN (⟨r0, r1, r2, r3, r4, r5, r6, r7, r8, r9, r10, r11, r12, r13⟩ : Rul) L)) : Option (List PV)) = RR
  simp only [KL, RQ, LT, Hx, std, xOf, PXb, aW hN hs h13]
  subst hres; simp only [XC, BN]
  have nk := bH (⟨r0, r1, r2, r3, r4, r5, r6, r7, r8, r9, r10, r11, r12, r13⟩ : Rul)
  generalize C6 (⟨r0, r1, r2, r3, r4, r5, r6, r7, r8, r9, r10, r11, r12, r13⟩ : Rul) = X at nk
  obtain ⟨⟨⟨m0, m1, m2, m3, m4, m5, m6, m7, m8, m9, m10, m11, m12, m13⟩, m14, m15, m16, m17, m18, m19, m20, m21, m22⟩, l⟩ := X
  simp only at nk
  simp only [PXb, PXc, PXk, Nat.reduceAdd]
  cases hl : l == 0
  case false => rfl
  have ok := nk hl
  simp only [PXb]
  refine Ac (X7 (St := Rows × Mat) (len := L.length) (enc := fun i s => [.rows s.1, .int (i : Int), .str s.2.rules.name, .int s.2.rules.side, .int s.2.rules.innings, .int s.2.rules.overs, .int s.2.rules.balls, .int s.2.rules.quota, .int s.2.rules.wide, .int s.2.rules.noball, .bool s.2.rules.freehit, .int s.2.rules.newball, .int s.2.rules.followon, .int s.2.rules.reviews, .int s.2.rules.outside, .rows s.2.rules.power, .int s.2.stage, .int s.2.first, .bool s.2.follow, .rows (AS s.2.inns), .int s.2.pen1, .int s.2.pen2, .int s.2.win, .int s.2.wside, .int s.2.margin])
    (body := O1 L) (fin := fun s => .int 1 :: .rows s.1 :: s.2.ls) (fun i s => StepOk (⟨r0, r1, r2, r3, r4, r5, r6, r7, r8, r9, r10, r11, r12, r13⟩ : Rul) s.2 ∧ s.1.length ≤ i) ?_ ?_ L.length 0 ([], (⟨⟨m0, m1, m2, m3, m4, m5, m6, m7, m8, m9, m10, m11, m12, m13⟩, m14, m15, m16, m17, m18, m19, m20, m21, m22⟩ : Mat)) N (by omega) (by omega) ⟨ok, Nat.zero_le _⟩) ?_
  · intro m self _
    simp only [PXb, PXc, PXn, AE, BX]
    rfl
  · intro i s self hi ok
    obtain ⟨out, ⟨⟨a0, a1, a2, a3, a4, a5, a6, a7, a8, a9, a10, a11, a12, a13⟩, a14, a15, a16, a17, a18, a19, a20, a21, a22⟩⟩ := s
    obtain ⟨ok, hout⟩ := ok
    have o1 := ok.rules
    have o2 := ok.fit
    have o3 := ok.len
    simp only at o1 o2 o3 hout
    cases o1
    have kp := Zq ok (i : Int) (evR L i)
    have acc := f6 (m := (⟨⟨r0, r1, r2, r3, r4, r5, r6, r7, r8, r9, r10, r11, r12, r13⟩, a14, a15, a16, a17, a18, a19, a20, a21, a22⟩ : Mat)) (i := (i : Int)) (e := evR L i)
    refine ⟨?_, ?_⟩
    · simp only [PXb, PXc, PXn, AE, Am (show i ≤ 1099511627776 by omega), BC hi, Aj hi, LT, cE hN o2 (show a17.length ≤ 1000000 by omega) hs h13, CU, ay, Nat.reduceAdd, PXk, PXc, gl, List.length_append, List.length_cons, List.length_nil, Hx]
      unfold O1
      simp only
      generalize hT : As (i : Int) (⟨⟨r0, r1, r2, r3, r4, r5, r6, r7, r8, r9, r10, r11, r12, r13⟩, a14, a15, a16, a17, a18, a19, a20, a21, a22⟩ : Mat) (evR L i) = T at acc
      obtain ⟨⟨⟨b0, b1, b2, b3, b4, b5, b6, b7, b8, b9, b10, b11, b12, b13⟩, b14, b15, b16, b17, b18, b19, b20, b21, b22⟩, l2⟩ := T
      simp only at acc
      simp only
      cases hl2 : l2 == 0
      case false => rfl
      have hk0 : (evR L i).kind = atI L i 0 := rfl
      rw [hk0]
      simp only [PXb]
      cases hk : atI L i 0 == 4
      case false => rfl
      have ha := (acc hl2).1
      have hd := gS (m := (⟨⟨r0, r1, r2, r3, r4, r5, r6, r7, r8, r9, r10, r11, r12, r13⟩, a14, a15, a16, a17, a18, a19, a20, a21, a22⟩ : Mat)) (e := evR L i) o3 (by rw [← ha]; exact hl2) hk (congrArg Prod.fst ha).symm
      simp only at hd
      have h216 : iSm ((out.length + 1 : Nat) : Int) 216 = true := KJ (by omega) (by omega)
      simp only [PXb, PXc, Wt hd.1 hd.2, h216]
      rfl
    · intro s' h
      unfold O1 at h
      simp only at h
      cases hq : (As (i : Int) (⟨⟨r0, r1, r2, r3, r4, r5, r6, r7, r8, r9, r10, r11, r12, r13⟩, a14, a15, a16, a17, a18, a19, a20, a21, a22⟩ : Mat) (evR L i)).2 == 0 with
      | false => rw [hq] at h; cases h
      | true =>
        rw [hq] at h; cases h
        refine ⟨kp, ?_⟩
        cases (evR L i).kind == 4 with
        | false => show out.length ≤ _; omega
        | true => show (out ++ [_]).length ≤ _; rw [List.length_append]; simp; omega
  · rw [X6]
    have he := Z5 L L.length 0 (⟨⟨m0, m1, m2, m3, m4, m5, m6, m7, m8, m9, m10, m11, m12, m13⟩, m14, m15, m16, m17, m18, m19, m20, m21, m22⟩ : Mat)
    simp only
    generalize Pi L L.length 0 (⟨⟨m0, m1, m2, m3, m4, m5, m6, m7, m8, m9, m10, m11, m12, m13⟩, m14, m15, m16, m17, m18, m19, m20, m21, m22⟩ : Mat) [] = out
    generalize Bk L L.length 0 (⟨⟨m0, m1, m2, m3, m4, m5, m6, m7, m8, m9, m10, m11, m12, m13⟩, m14, m15, m16, m17, m18, m19, m20, m21, m22⟩ : Mat) = f at he
    obtain ⟨⟨⟨a0, a1, a2, a3, a4, a5, a6, a7, a8, a9, a10, a11, a12, a13⟩, a14, a15, a16, a17, a18, a19, a20, a21, a22⟩, b, l⟩ := f
    simp only at he
    unfold cH
    cases hb : b == -1 with
    | false => rfl
    | true =>
      rw [he hb, beq_iff_eq.1 hb]
      rfl
end Go.Px
end
section
namespace Go.Px
set_option maxRecDepth 100000
theorem HX {N : Nat} {r1 r2 r3 r4 r5 r6 r7 r9 r10 r11 r12 : Int} {r8 : Bool} {r0 : ByteArray} {r13 : Rows} {L : Rows} (hN : 2097152 < N) (hs : r0.size ≤ 1048576) (h13 : r13.length ≤ 1048576) (hL : L.length ≤ 1048576) : Bp N [.str r0, .int r1, .int r2, .int r3, .int r4, .int r5, .int r6, .int r7, .bool r8, .int r9, .int r10, .int r11, .int r12, .rows r13, .rows L] = some (T4 (BN (⟨r0, r1, r2, r3, r4, r5, r6, r7, r8, r9, r10, r11, r12, r13⟩ : Rul) L)) := by
 show Hn (std (Dr N) N) (xOf _) = _
 generalize hres : (some (T4 (BN (⟨r0, r1, r2, r3, r4, r5, r6, r7, r8, r9, r10, r11, r12, r13⟩ : Rul) L)) : Option (List PV)) = RR
 simp only [Hn, QW, std, xOf, PXb, cC hN hs h13 hL]
 subst hres
 rfl
def KP (r : Rul) (L : Rows) : Int := cond (!(Au r == 0)) (Au r) (cond (iLt 4000 (L.length : Int)) 9 (cond (!((BN r L).2.2 == 0)) 10 0))
theorem UX {N : Nat} {r1 r2 r3 r4 r5 r6 r7 r9 r10 r11 r12 : Int} {r8 : Bool} {r0 : ByteArray} {r13 : Rows} {L : Rows} (hN : 2097152 < N) (hs : r0.size ≤ 1048576) (h13 : r13.length ≤ 1048576) (hL : L.length ≤ 1048576) : I5 N [.str r0, .int r1, .int r2, .int r3, .int r4, .int r5, .int r6, .int r7, .bool r8, .int r9, .int r10, .int r11, .int r12, .rows r13, .rows L] = some [.int (KP (⟨r0, r1, r2, r3, r4, r5, r6, r7, r8, r9, r10, r11, r12, r13⟩ : Rul) L)] := by
 show Iz (std (DM N) N) (xOf _) = _
 generalize hres : (some [.int (KP (⟨r0, r1, r2, r3, r4, r5, r6, r7, r8, r9, r10, r11, r12, r13⟩ : Rul) L)] : Option (List PV)) = RR
 simp only [Iz, QP, PF, std, xOf, PXb, CC hN hs, HX hN hs h13 hL, PXm]
 subst hres; simp only [KP]
 rfl
def B3 (L : Rows) (n : Int) : Rows := (L.take n.toNat).drop (0 : Int).toNat
theorem Xv (L : Rows) (n : Int) : (B3 L n).length ≤ L.length := by
 unfold B3
 rw [List.length_drop, List.length_take]
 omega
theorem gL {n : Int} {k : Nat} (h : (iLt n 0 || iLt (k : Int) n) = false) : iRg 0 n (k : Int) = true := by
 rw [Bool.or_eq_false_iff] at h
 simp only [iLt, decide_eq_false_iff_not] at h
 simp only [iRg, decide_eq_true_eq]
 omega
def atS (r : Rul) (L : Rows) (n : Int) : Mat × Int := cond (!(Au r == 0)) (Pv, Au r) (cond (iLt n 0 || iLt (L.length : Int) n) (Pv, 2) (cond (!((BN r (B3 L n)).2.2 == 0)) (Pv, 10) ((BN r (B3 L n)).1, 0)))
theorem dz {N : Nat} {r1 r2 r3 r4 r5 r6 r7 r9 r10 r11 r12 : Int} {r8 : Bool} {r0 : ByteArray} {r13 : Rows} {L : Rows} {n : Int} (hN : 2097152 < N) (hs : r0.size ≤ 1048576) (h13 : r13.length ≤ 1048576) (hL : L.length ≤ 1048576) : PA N [.str r0, .int r1, .int r2, .int r3, .int r4, .int r5, .int r6, .int r7, .bool r8, .int r9, .int r10, .int r11, .int r12, .rows r13, .rows L, .int n] = some (MO (atS (⟨r0, r1, r2, r3, r4, r5, r6, r7, r8, r9, r10, r11, r12, r13⟩ : Rul) L n)) := by
 show On (std (GQ N) N) (xOf _) = _
 generalize hres : (some (MO (atS (⟨r0, r1, r2, r3, r4, r5, r6, r7, r8, r9, r10, r11, r12, r13⟩ : Rul) L n)) : Option (List PV)) = RR
 simp only [On, LP, Ro, std, xOf, PXb, CC hN hs]
 subst hres; simp only [atS]
 cases Au (⟨r0, r1, r2, r3, r4, r5, r6, r7, r8, r9, r10, r11, r12, r13⟩ : Rul) == 0
 case false => rfl
 cases hb : iLt n 0 || iLt (L.length : Int) n
 case true => rfl
 have hf := Nat.le_trans (Xv L n) hL
 simp only [PXb, gL hb, LP]
 change (Option.bind (Bp N [.str r0, .int r1, .int r2, .int r3, .int r4, .int r5, .int r6, .int r7, .bool r8, .int r9, .int r10, .int r11, .int r12, .rows r13, .rows (B3 L n)]) _) = _
 rw [HX hN hs h13 hf]
 simp only [PXb, PXc, T4]
 cases (BN (⟨r0, r1, r2, r3, r4, r5, r6, r7, r8, r9, r10, r11, r12, r13⟩ : Rul) (B3 L n)).2.2 == 0 <;> rfl
theorem YR {N : Nat} {r1 r2 r3 r4 r5 r6 r7 r9 r10 r11 r12 : Int} {r8 : Bool} {r0 : ByteArray} {r13 : Rows}  : Gl N [.str r0, .int r1, .int r2, .int r3, .int r4, .int r5, .int r6, .int r7, .bool r8, .int r9, .int r10, .int r11, .int r12, .rows r13] = some (Ov (⟨r0, r1, r2, r3, r4, r5, r6, r7, r8, r9, r10, r11, r12, r13⟩ : Rul)).ls := by
 show Gf (std (Ez N) N) (xOf _) = _
 simp only [Gf, std, xOf, PXb, PXc, PXn, PXm, Nat.reduceAdd, Int.reduceBEq, cK (show (0 : Int) ≤ 20 by omega), cK (show (0 : Int) ≤ 10 by omega)]
 rfl
theorem cw {N : Nat} {L : Rows}  : Mk N [.rows L] = some [.rows (cut L 70)] := by
 show MZ (std (JB N) N) (xOf _) = _
 simp only [MZ, std, xOf, PXb, PXc, PXn, PXm, Nat.reduceAdd, Int.reduceBEq, cK (show (0 : Int) ≤ 70 by omega)]
 rfl
structure LogOk (m : Mat) : Prop where
 fit : G4 m.inns
 len : m.inns.length ≤ 5
 name : m.rules.name.size ≤ 1048576
 power : m.rules.power.length ≤ 1048576
theorem U5 : LogOk Pv := ⟨fun i hi => absurd hi (Nat.not_lt_zero i), Nat.zero_le _, Nat.zero_le _, Nat.zero_le _⟩
theorem ax {r : Rul} (L : Rows) : ∀ k i m, StepOk r m → StepOk r (Bk L k i m).1
 | 0, _, _, h => h
 | k + 1, i, m, h => by
  unfold Bk
  cases (As i m (evR L i)).2 == 0 with
  | false => exact h
  | true => exact ax L k (i + 1) _ (Zq h _ _)
theorem Sk {r : Rul} (L : Rows) (hs : r.name.size ≤ 1048576) (hp : r.power.length ≤ 1048576) : LogOk (BN r L).1 := by
 unfold BN
 cases h : (C6 r).2 == 0 with
 | false => exact U5
 | true =>
  have := ax L L.length 0 _ (bH r h)
  exact ⟨this.fit, this.len, by show (Bk _ _ _ _).1.rules.name.size ≤ _; rw [this.rules]; exact hs, by show (Bk _ _ _ _).1.rules.power.length ≤ _; rw [this.rules]; exact hp⟩
end Go.Px
end
section
namespace Go.Px
set_option maxRecDepth 100000
def acc (L : Rows) : Nat → Nat → Mat → Prop
 | 0, _, _ => True
 | k + 1, i, m => ((As i m (evR L i)).2 == 0) = true ∧ acc L k (i + 1) (As i m (evR L i)).1
def stM (L : Rows) : Nat → Nat → Mat → Mat
 | 0, _, m => m
 | k + 1, i, m => stM L k (i + 1) (As i m (evR L i)).1
def ep (L : Rows) : Nat → Nat → Mat → Rows → Rows
 | 0, _, _, out => out
 | k + 1, i, m, out => ep L k (i + 1) (As i m (evR L i)).1 (cond ((evR L i).kind == 4) (out ++ [V9 i m (As i m (evR L i)).1 (evR L i).ball]) out)
theorem V4 {L : Rows} : ∀ k j i m, acc L k i m → Bk L (k + j) i m = Bk L j (i + k) (stM L k i m)
 | 0, j, i, m, _ => by rw [Nat.zero_add]; rfl
 | k + 1, j, i, m, h => by
  have ih := V4 k j (i + 1) _ h.2
  rw [show k + 1 + j = (k + j) + 1 by omega, show i + (k + 1) = i + 1 + k by omega]
  simp only [Bk, h.1, Bool.not_true, cond_false]
  exact ih
theorem Z8 (L : Rows) : ∀ K i m, ∃ k, k ≤ K ∧ acc L k i m ∧ (∀ out, Pi L K i m out = ep L k i m out) ∧
    ((k = K ∧ Bk L K i m = (stM L k i m, -1, 0)) ∨ (k < K ∧ ((As ((i + k : Nat) : Int) (stM L k i m) (evR L (i + k))).2 == 0) = false ∧ Bk L K i m = (stM L k i m, ((i + k : Nat) : Int), (As ((i + k : Nat) : Int) (stM L k i m) (evR L (i + k))).2)))
  | 0, i, m => ⟨0, Nat.le_refl _, trivial, fun _ => rfl, Or.inl ⟨rfl, rfl⟩⟩
  | K + 1, i, m => by
    cases hq : (As i m (evR L i)).2 == 0 with
    | false =>
      refine ⟨0, Nat.zero_le _, trivial, fun out => ?_, Or.inr ⟨Nat.succ_pos _, hq, ?_⟩⟩
      · simp only [Pi, hq, Bool.not_false, cond_true]; rfl
      · simp only [Bk, hq, Bool.not_false, cond_true]; rfl
    | true =>
      obtain ⟨k, h1, h2, h3, h4⟩ := Z8 L K (i + 1) (As i m (evR L i)).1
      refine ⟨k + 1, Nat.succ_le_succ h1, ⟨hq, h2⟩, fun out => ?_, ?_⟩
      · simp only [Pi, hq, Bool.not_true, cond_false]
        exact h3 _
      · have e : Bk L (K + 1) i m = Bk L K (i + 1) (As i m (evR L i)).1 := by simp only [Bk, hq, Bool.not_true, cond_false]
        rw [e, show i + (k + 1) = i + 1 + k by omega]
        rcases h4 with ⟨h5, h6⟩ | ⟨h5, h6⟩
        · exact Or.inl ⟨by omega, h6⟩
        · exact Or.inr ⟨by omega, h6⟩
theorem cc {L : Rows} : ∀ k j i m, j ≤ k → acc L k i m → acc L j i m
 | _, 0, _, _, _, _ => trivial
 | 0, j + 1, _, _, h, _ => absurd h (by omega)
 | k + 1, j + 1, i, m, h, ha => ⟨ha.1, cc k j (i + 1) _ (by omega) ha.2⟩
theorem Ym {L : Rows} {k i : Nat} {m : Mat} (h : acc L k i m) : Bk L k i m = (stM L k i m, -1, 0) := V4 k 0 i m h
theorem dr {L : Rows} {n : Int} {i : Nat} (h : (i : Int) < n) : evR (B3 L n) i = evR L i := by
 have e : ∀ j, AJ (B3 L n) i j = AJ L i j := fun j => by
  unfold AJ A8 B3
  rw [List.getD_eq_getElem?_getD, List.getD_eq_getElem?_getD, List.getElem?_drop, List.getElem?_take, if_pos (by omega)]
  simp
 unfold evR atI atB
 simp only [e]
theorem W0 {L : Rows} {n : Nat} (h : n ≤ L.length) : (B3 L (n : Int)).length = n := by
 unfold B3
 rw [List.length_drop, List.length_take]
 omega
theorem WK {L : Rows} {n : Int} : ∀ k i m, ((i + k : Nat) : Int) ≤ n → Bk (B3 L n) k i m = Bk L k i m
 | 0, _, _, _ => rfl
 | k + 1, i, m, h => by
  simp only [Bk]
  rw [dr (show (i : Int) < n by omega), WK k (i + 1) _ (by omega)]
theorem S1 {r : Rul} {L : Rows} {n : Nat} (hc : ((C6 r).2 == 0) = true) (h : n ≤ L.length) : BN r (B3 L (n : Int)) = Bk L n 0 (C6 r).1 := by
 unfold BN
 rw [hc, W0 h]
 exact WK n 0 _ (by omega)
theorem OX (r : Rul) : ((C6 r).2 == 0) = (Au r == 0) := by
 unfold C6
 cases h : Au r == 0 with
 | false => exact h
 | true => rfl
theorem gU {n : Int} {k : Nat} (h0 : 0 ≤ n) (h : 0 < k) (hk : k ≤ 1000000) : ∃ j : Nat, j < k ∧ n.tmod (k : Int) = (j : Int) := by
 have h1 := Int.tmod_nonneg (k : Int) h0
 have h2 := Int.tmod_lt_of_pos n (show (0 : Int) < (k : Int) by omega)
 exact ⟨(n.tmod (k : Int)).toNat, by omega, by omega⟩
theorem Wl {r : Rul} (L : Rows) (h : (Au r == 0) = false) : BN r L = (Pv, 0, 1) := by
 unfold BN
 rw [OX, h]
 rfl
theorem Iy {r : Rul} {L : Rows} {n : Nat} (hc : (Au r == 0) = true) (h : n ≤ L.length) (ha : acc L n 0 (C6 r).1) : BN r (B3 L (n : Int)) = (stM L n 0 (C6 r).1, -1, 0) := by
 rw [S1 ((OX r).trans hc) h]
 exact Ym ha
theorem gR {n : Nat} {l : Nat} (h : n ≤ l) : (iLt (n : Int) 0 || iLt (l : Int) (n : Int)) = false := by
 simp only [iLt, Bool.or_eq_false_iff, decide_eq_false_iff_not]
 omega
theorem eR {r : Rul} {L : Rows} {n : Nat} (hc : (Au r == 0) = true) (h : n ≤ L.length) : atS r L (n : Int) = cond (!((Bk L n 0 (C6 r).1).2.2 == 0)) (Pv, 10) ((Bk L n 0 (C6 r).1).1, 0) := by
 unfold atS
 rw [hc, gR h, S1 ((OX r).trans hc) h]
 rfl
theorem dj {r : Rul} {L : Rows} {n : Nat} (hc : (Au r == 0) = true) (h : n ≤ L.length) (ha : acc L n 0 (C6 r).1) : atS r L (n : Int) = (stM L n 0 (C6 r).1, 0) := by
 rw [eR hc h, Ym ha]
 rfl
theorem bQ {r : Rul} {L : Rows} {n : Nat} (hc : (Au r == 0) = true) (h : n ≤ L.length) (hl : L.length ≤ 70) (ha : acc L n 0 (C6 r).1) : KP r (B3 L (n : Int)) = 0 := by
 unfold KP
 rw [hc, Iy hc h ha, W0 h]
 have : iLt 4000 (n : Int) = false := by simp only [iLt, decide_eq_false_iff_not]; omega
 rw [this]
 rfl
set_option maxHeartbeats 2000000 in
theorem UE {N : Nat} {r1 r2 r3 r4 r5 r6 r7 r9 r10 r11 r12 : Int} {r8 : Bool} {r0 : ByteArray} {r13 : Rows} {L : Rows} {k : Int} (ha : Gy N [] = some [.bool true]) (hN : 2097152 < N) (hs : r0.size ≤ 1048576) (hk : 0 ≤ k ∧ k ≤ 255) : DR N [.str r0, .int r1, .int r2, .int r3, .int r4, .int r5, .int r6, .int r7, .bool r8, .int r9, .int r10, .int r11, .int r12, .rows r13, .rows L, .int k] = some [.bool true] := by
 show De (std (Ak N) N) (xOf _) = _
 have nn := ZB (⟨r0, r1, r2, r3, r4, r5, r6, r7, r8, r9, r10, r11, r12, r13⟩ : Rul) hs
 have p := YH (⟨r0, r1, r2, r3, r4, r5, r6, r7, r8, r9, r10, r11, r12, r13⟩ : Rul)
 have l : (cut L 70).length ≤ 1048576 := Nat.le_trans (Yy L 70) (show 70 ≤ 1048576 by omega)
 have l70 : (cut L 70).length ≤ 70 := Yy L 70
 have ko := Sk (r := Ov (⟨r0, r1, r2, r3, r4, r5, r6, r7, r8, r9, r10, r11, r12, r13⟩ : Rul)) (cut L 70) nn p
 simp only [De, Mu, LD, N9, Lr, Mr, ON, Ls, std, xOf, PXb, PXc, PXn, PXm, Nat.reduceAdd, Int.reduceBEq, ha, YR, cw, Rul.ls, HX hN nn p l, T4, UX (L := []) hN nn p (Nat.zero_le _)]
 generalize Ov (⟨r0, r1, r2, r3, r4, r5, r6, r7, r8, r9, r10, r11, r12, r13⟩ : Rul) = R at *
 generalize cut L 70 = X at *
 have lf : ∀ n : Int, (B3 X n).length ≤ 1048576 := fun n => Nat.le_trans (Xv X n) l
 have E : ∀ n : Int, List.drop (Int.toNat 0) (List.take n.toNat X) = B3 X n := fun _ => rfl
 have E2 : ∀ n : Nat, List.drop (Int.toNat 0) (List.take n X) = B3 X (n : Int) := fun _ => rfl
 cases hc : Au R == 0
 case false =>
  have hr : iRg 0 0 (X.length : Int) = true := by simp only [iRg, decide_eq_true_eq]; omega
  have ck : (KP R [] == 0) = false := by unfold KP; rw [hc]; exact hc
  have z : iLt (0 : Int) 0 = false := rfl
  rw [Wl X hc]
  simp only [z, hr, cond_true, cond_false, E, HX hN nn p (lf 0), Wl (B3 X 0) hc, ck, Bool.not_false, PXb, T4]
  exact bind_ok (r := [.bool true]) (Ig hN U5.fit (Nat.zero_le _) U5.power) rfl
 obtain ⟨j, h1, h2, _, h4⟩ := Z8 X X.length 0 (C6 R).1
 have hrep : BN R X = Bk X X.length 0 (C6 R).1 := by unfold BN; rw [OX, hc]; rfl
 have hi : (cond (iLt (BN R X).2.1 0) (X.length : Int) (BN R X).2.1) = (j : Int) ∧ (BN R X).1 = stM X j 0 (C6 R).1 := by
  rw [hrep]
  rcases h4 with ⟨h5, h6⟩ | ⟨h5, h6, h7⟩
  ·rw [h6, h5]
   exact ⟨rfl, rfl⟩
  ·rw [h7]
   have : iLt ((0 + j : Nat) : Int) 0 = false := by simp only [iLt, decide_eq_false_iff_not]; omega
   rw [Nat.zero_add] at this ⊢
   exact ⟨by simp only [this, cond_false], rfl⟩
 have ck : (KP R [] == 0) = true := by unfold KP BN; rw [hc, OX, hc]; rfl
 obtain ⟨n, hn, hk'⟩ := gU (k := j + 1) hk.1 (by omega) (by omega)
 have wk : IntKind.i64.wrap k = k := Ga (by omega) (by omega)
 have wj : IntKind.i64.wrap ((j : Int) + 1) = ((j + 1 : Nat) : Int) := Ga (by omega) (by omega)
 have hz : ((((j + 1 : Nat) : Int)) == 0) = false := beq_false_of_ne (by omega)
 have rj : iRg 0 (j : Int) (X.length : Int) = true := by simp only [iRg, decide_eq_true_eq]; omega
 have rn : iRg 0 (n : Int) (X.length : Int) = true := by simp only [iRg, decide_eq_true_eq]; omega
 have an := cc j n 0 _ (by omega) h2
 have ok := Sk (r := R) (B3 X j) nn p
 have on := Sk (r := R) (B3 X n) nn p
 rw [Iy hc h1 h2] at ok
 rw [Iy hc (show n ≤ X.length by omega) an] at on
 simp only [hi.1, hi.2, wk, wj, hk', hz, rj, rn, ck, E, E2, cond_true, cond_false, Bool.not_true, Bool.not_false, HX hN nn p (lf _), Iy hc h1 h2, Iy hc (show n ≤ X.length by omega) an, dz hN nn p l, dj hc (show n ≤ X.length by omega) an, PXb, PXc, T4, MO, UX hN nn p (lf _), bQ hc (show n ≤ X.length by omega) l70 an,
  Ig hN ok.fit (Nat.le_trans ok.len (show 5 ≤ 1000000 by omega)) ok.power, Ig hN on.fit (Nat.le_trans on.len (show 5 ≤ 1000000 by omega)) on.power]
 rfl
end Go.Px
end
