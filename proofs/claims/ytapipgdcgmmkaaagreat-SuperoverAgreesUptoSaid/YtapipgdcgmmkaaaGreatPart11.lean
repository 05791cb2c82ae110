/- Part 11. -/
import Derived.Test.YtapipgdcgmmkaaaGreatPart07
import Derived.Test.YtapipgdcgmmkaaaGreatPart10
set_option linter.unusedVariables false
set_option linter.unusedSimpArgs false
section
namespace Go.Px
def AZ (xs : List Inn) : Rows := xs.map Inn.ls
def dI : Inn := ⟨0, 0, 0, 0, 0, 0, 0, 0, 0, 0, 0, 0, 0, 0, [], 0, [], [], false, [], false, 0, 0, 0, [], 0, 0, 0⟩
def inn (xs : List Inn) (i : Nat) : Inn := xs.getD i dI
structure Mat where
 rules : Rul
 stage : Int
 first : Int
 follow : Bool
 inns : List Inn
 pen1 : Int
 pen2 : Int
 win : Int
 wside : Int
 margin : Int
def Mat.ls (m : Mat) : List PV := [.str m.rules.name, .int m.rules.side, .int m.rules.innings, .int m.rules.overs, .int m.rules.balls, .int m.rules.quota, .int m.rules.wide, .int m.rules.noball, .bool m.rules.freehit, .int m.rules.newball, .int m.rules.followon, .int m.rules.reviews, .int m.rules.outside, .rows m.rules.power, .int m.stage, .int m.first, .bool m.follow, .rows (AZ m.inns), .int m.pen1, .int m.pen2, .int m.win, .int m.wside, .int m.margin]
def Ly (x : Mat × Int) : List PV := [.str x.1.rules.name, .int x.1.rules.side, .int x.1.rules.innings, .int x.1.rules.overs, .int x.1.rules.balls, .int x.1.rules.quota, .int x.1.rules.wide, .int x.1.rules.noball, .bool x.1.rules.freehit, .int x.1.rules.newball, .int x.1.rules.followon, .int x.1.rules.reviews, .int x.1.rules.outside, .rows x.1.rules.power, .int x.1.stage, .int x.1.first, .bool x.1.follow, .rows (AZ x.1.inns), .int x.1.pen1, .int x.1.pen2, .int x.1.win, .int x.1.wside, .int x.1.margin, .int x.2]
theorem Wd (xs : List Inn) (i : Nat) : Aa (AZ xs) i = (match xs[i]? with | some s => s.ls | none => []) := by
 unfold Aa AZ
 rw [List.getD_eq_getElem?_getD, List.getElem?_map]
 cases xs[i]? <;> rfl
theorem N8 (xs : List Inn) (i : Nat) : inn xs i = (match xs[i]? with | some s => s | none => dI) := by
 unfold inn
 rw [List.getD_eq_getElem?_getD]
 cases xs[i]? <;> rfl
theorem UZ (xs : List Inn) : (AZ xs).length = xs.length := List.length_map _
theorem PXi : (∀ xs : List Inn, (AZ xs).length = xs.length) ∧ (∀ (xs : List Inn) (i : Nat), pvI (AF (AZ xs) i 0) = (inn xs i).side) ∧ (∀ (xs : List Inn) (i : Nat), pvI (AF (AZ xs) i 1) = (inn xs i).target) ∧ (∀ (xs : List Inn) (i : Nat), pvI (AF (AZ xs) i 2) = (inn xs i).overs) ∧ (∀ (xs : List Inn) (i : Nat), pvI (AF (AZ xs) i 3) = (inn xs i).runs) ∧
    (∀ (xs : List Inn) (i : Nat), pvI (AF (AZ xs) i 4) = (inn xs i).wickets) ∧ (∀ (xs : List Inn) (i : Nat), pvI (AF (AZ xs) i 5) = (inn xs i).wides) ∧ (∀ (xs : List Inn) (i : Nat), pvI (AF (AZ xs) i 6) = (inn xs i).noballs) ∧ (∀ (xs : List Inn) (i : Nat), pvI (AF (AZ xs) i 7) = (inn xs i).byes) ∧ (∀ (xs : List Inn) (i : Nat), pvI (AF (AZ xs) i 8) = (inn xs i).legbyes) ∧
    (∀ (xs : List Inn) (i : Nat), pvI (AF (AZ xs) i 9) = (inn xs i).pens) ∧ (∀ (xs : List Inn) (i : Nat), pvI (AF (AZ xs) i 10) = (inn xs i).complete) ∧ (∀ (xs : List Inn) (i : Nat), pvI (AF (AZ xs) i 11) = (inn xs i).inover) ∧ (∀ (xs : List Inn) (i : Nat), pvI (AF (AZ xs) i 12) = (inn xs i).striker) ∧ (∀ (xs : List Inn) (i : Nat), pvI (AF (AZ xs) i 13) = (inn xs i).other) ∧
    (∀ (xs : List Inn) (i : Nat), pvL (AF (AZ xs) i 14) = (inn xs i).batters) ∧ (∀ (xs : List Inn) (i : Nat), pvI (AF (AZ xs) i 15) = (inn xs i).bowler) ∧ (∀ (xs : List Inn) (i : Nat), pvL (AF (AZ xs) i 16) = (inn xs i).bowlers) ∧ (∀ (xs : List Inn) (i : Nat), pvL (AF (AZ xs) i 17) = (inn xs i).before) ∧ (∀ (xs : List Inn) (i : Nat), pvB (AF (AZ xs) i 18) = (inn xs i).fresh) ∧
    (∀ (xs : List Inn) (i : Nat), pvL (AF (AZ xs) i 19) = (inn xs i).bowled) ∧ (∀ (xs : List Inn) (i : Nat), pvB (AF (AZ xs) i 20) = (inn xs i).freehit) ∧ (∀ (xs : List Inn) (i : Nat), pvI (AF (AZ xs) i 21) = (inn xs i).ballage) ∧ (∀ (xs : List Inn) (i : Nat), pvI (AF (AZ xs) i 22) = (inn xs i).keeper) ∧ (∀ (xs : List Inn) (i : Nat), pvI (AF (AZ xs) i 23) = (inn xs i).outside) ∧
    (∀ (xs : List Inn) (i : Nat), pvL (AF (AZ xs) i 24) = (inn xs i).subs) ∧ (∀ (xs : List Inn) (i : Nat), pvI (AF (AZ xs) i 25) = (inn xs i).rev1) ∧ (∀ (xs : List Inn) (i : Nat), pvI (AF (AZ xs) i 26) = (inn xs i).rev2) ∧ (∀ (xs : List Inn) (i : Nat), pvI (AF (AZ xs) i 27) = (inn xs i).ending) := by
  refine ⟨UZ, ?_, ?_, ?_, ?_, ?_, ?_, ?_, ?_, ?_, ?_, ?_, ?_, ?_, ?_, ?_, ?_, ?_, ?_, ?_, ?_, ?_, ?_, ?_, ?_, ?_, ?_, ?_, ?_⟩
  all_goals (intro xs i; rw [N8]; unfold AF; rw [Wd]; cases xs[i]? <;> rfl)
theorem Mat.eta (m : Mat) : Mat.mk m.rules m.stage m.first m.follow m.inns m.pen1 m.pen2 m.win m.wside m.margin = m := rfl
theorem PXk : (∀ m : Mat, m.ls = [.str m.rules.name, .int m.rules.side, .int m.rules.innings, .int m.rules.overs, .int m.rules.balls, .int m.rules.quota, .int m.rules.wide, .int m.rules.noball, .bool m.rules.freehit, .int m.rules.newball, .int m.rules.followon, .int m.rules.reviews, .int m.rules.outside, .rows m.rules.power, .int m.stage, .int m.first, .bool m.follow, .rows (AZ m.inns), .int m.pen1, .int m.pen2, .int m.win, .int m.wside, .int m.margin]) ∧
    (∀ x : Mat × Int, Ly x = [.str x.1.rules.name, .int x.1.rules.side, .int x.1.rules.innings, .int x.1.rules.overs, .int x.1.rules.balls, .int x.1.rules.quota, .int x.1.rules.wide, .int x.1.rules.noball, .bool x.1.rules.freehit, .int x.1.rules.newball, .int x.1.rules.followon, .int x.1.rules.reviews, .int x.1.rules.outside, .rows x.1.rules.power, .int x.1.stage, .int x.1.first, .bool x.1.follow, .rows (AZ x.1.inns), .int x.1.pen1, .int x.1.pen2, .int x.1.win, .int x.1.wside, .int x.1.margin, .int x.2]) ∧
    (∀ m : Mat, Mat.mk m.rules m.stage m.first m.follow m.inns m.pen1 m.pen2 m.win m.wside m.margin = m) := ⟨fun _ => rfl, fun _ => rfl, fun _ => rfl⟩
theorem aF : ∀ (ps r pre : List PV), r.length = ps.length → BJ (pre ++ r) pre.length ps = pre ++ ps
 | [], r, pre, h => by
  have : r = [] := List.eq_nil_of_length_eq_zero h
  subst this
  rfl
 | p :: ps, [], pre, h => by cases h
 | p :: ps, a :: r, pre, h => by
  have ih := aF ps r (pre ++ [p]) (by simpa using h)
  simp only [List.length_append, List.length_cons, List.length_nil, List.append_assoc, List.cons_append, List.nil_append] at ih
  unfold BJ
  rw [List.set_append_right _ _ (Nat.le_refl _), Nat.sub_self]
  exact ih
theorem fU (a s : Inn) : BJ a.ls 0 s.ls = s.ls := aF s.ls a.ls [] rfl
theorem ed (a : Inn) (e : Int) : BJ a.ls 27 [.int e] = Inn.ls { a with ending := e } := by
 show a.ls.set 27 (.int e) = _
 rfl
theorem ef {xs : List Inn} {i : Nat} (h : i < xs.length) (s : Inn) : (AZ xs).set i (BJ (Aa (AZ xs) i) 0 s.ls) = AZ (xs.set i s) := by
 have e : Aa (AZ xs) i = (xs[i]).ls := by rw [Wd, List.getElem?_eq_getElem h]
 rw [e, fU]
 exact List.map_set.symm
theorem fD {xs : List Inn} {i : Nat} (h : i < xs.length) (e : Int) : (AZ xs).set i (BJ (Aa (AZ xs) i) 27 [.int e]) = AZ (xs.set i { inn xs i with ending := e }) := by
 have e1 : Aa (AZ xs) i = (inn xs i).ls := by rw [Wd, N8, List.getElem?_eq_getElem h]
 rw [e1, ed]
 exact List.map_set.symm
theorem eX (xs : List Inn) (s : Inn) : AZ xs ++ [s.ls] = AZ (xs ++ [s]) := by
 show List.map Inn.ls xs ++ List.map Inn.ls [s] = List.map Inn.ls (xs ++ [s])
 exact List.map_append.symm
theorem ez (xs : List Inn) (i : Nat) (s : Inn) : (AZ xs).set i (BJ (Aa (AZ xs) i) 0 s.ls) = AZ (xs.set i s) := by
 by_cases h : i < xs.length
 ·exact ef h s
 ·rw [List.set_eq_of_length_le (by rw [UZ]; omega), List.set_eq_of_length_le (by omega)]
theorem Zj (xs : List Inn) (i : Nat) (e : Int) : (AZ xs).set i (BJ (Aa (AZ xs) i) 27 [.int e]) = AZ (xs.set i { inn xs i with ending := e }) := by
 by_cases h : i < xs.length
 ·exact fD h e
 ·rw [List.set_eq_of_length_le (by rw [UZ]; omega), List.set_eq_of_length_le (by omega)]
theorem PXr : (∀ (xs : List Inn) (x0 x1 x2 x3 x4 x5 x6 x7 x8 x9 x10 x11 x12 x13 x15 x21 x22 x23 x25 x26 x27 : Int) (x18 x20 : Bool) (x14 x16 x17 x19 x24 : Rows), AZ xs ++ [([.int x0, .int x1, .int x2, .int x3, .int x4, .int x5, .int x6, .int x7, .int x8, .int x9, .int x10, .int x11, .int x12, .int x13, .rows x14, .int x15, .rows x16, .rows x17, .bool x18, .rows x19, .bool x20, .int x21, .int x22, .int x23, .rows x24, .int x25, .int x26, .int x27] : List PV)] = AZ (xs ++ [⟨x0, x1, x2, x3, x4, x5, x6, x7, x8, x9, x10, x11, x12, x13, x14, x15, x16, x17, x18, x19, x20, x21, x22, x23, x24, x25, x26, x27⟩])) ∧ (∀ (xs : List Inn) (i : Nat) (x0 x1 x2 x3 x4 x5 x6 x7 x8 x9 x10 x11 x12 x13 x15 x21 x22 x23 x25 x26 x27 : Int) (x18 x20 : Bool) (x14 x16 x17 x19 x24 : Rows), (AZ xs).set i (BJ (Aa (AZ xs) i) 0 [.int x0, .int x1, .int x2, .int x3, .int x4, .int x5, .int x6, .int x7, .int x8, .int x9, .int x10, .int x11, .int x12, .int x13, .rows x14, .int x15, .rows x16, .rows x17, .bool x18, .rows x19, .bool x20, .int x21, .int x22, .int x23, .rows x24, .int x25, .int x26, .int x27]) = AZ (xs.set i ⟨x0, x1, x2, x3, x4, x5, x6, x7, x8, x9, x10, x11, x12, x13, x14, x15, x16, x17, x18, x19, x20, x21, x22, x23, x24, x25, x26, x27⟩)) ∧
    (∀ (xs : List Inn) (i : Nat) (e : Int), (AZ xs).set i (BJ (Aa (AZ xs) i) 27 [.int e]) = AZ (xs.set i { inn xs i with ending := e })) :=
  ⟨fun xs x0 x1 x2 x3 x4 x5 x6 x7 x8 x9 x10 x11 x12 x13 x15 x21 x22 x23 x25 x26 x27 x18 x20 x14 x16 x17 x19 x24 => eX xs ⟨x0, x1, x2, x3, x4, x5, x6, x7, x8, x9, x10, x11, x12, x13, x14, x15, x16, x17, x18, x19, x20, x21, x22, x23, x24, x25, x26, x27⟩, fun xs i x0 x1 x2 x3 x4 x5 x6 x7 x8 x9 x10 x11 x12 x13 x15 x21 x22 x23 x25 x26 x27 x18 x20 x14 x16 x17 x19 x24 => ez xs i ⟨x0, x1, x2, x3, x4, x5, x6, x7, x8, x9, x10, x11, x12, x13, x14, x15, x16, x17, x18, x19, x20, x21, x22, x23, x24, x25, x26, x27⟩, Zj⟩
end Go.Px
end
section
namespace Go.Px
set_option maxRecDepth 100000
def CH (n : Int) : Int := IntKind.i64.wrap (3 - n)
theorem Gu {N : Nat} {n : Int}  : A6 N [.int n] = some [.int (CH n)] := by
 show JV (std (O5 N) N) (xOf _) = _
 simp only [JV, std, xOf, PXb, PXc, PXn, PXm, Nat.reduceAdd, Int.reduceBEq, CH]
def Ab (m : Mat) (i : Int) : Int := cond (cond (m.follow && iLe 2 i) (i == 2) (i.tmod 2 == 1)) (CH m.first) m.first
theorem Mx {N : Nat} {m1 m2 m3 m4 m5 m6 m7 m9 m10 m11 m12 m14 m15 m18 m19 m20 m21 m22 : Int} {m8 m16 : Bool} {m0 : ByteArray} {m13 : Rows} {m17 : List Inn} {i : Int}  : Cl N [.str m0, .int m1, .int m2, .int m3, .int m4, .int m5, .int m6, .int m7, .bool m8, .int m9, .int m10, .int m11, .int m12, .rows m13, .int m14, .int m15, .bool m16, .rows (AZ m17), .int m18, .int m19, .int m20, .int m21, .int m22, .int i] = some [.int (Ab (⟨⟨m0, m1, m2, m3, m4, m5, m6, m7, m8, m9, m10, m11, m12, m13⟩, m14, m15, m16, m17, m18, m19, m20, m21, m22⟩ : Mat) i)] := by
 show JR (std (Kq N) N) (xOf _) = _
 generalize hres : (some [.int (Ab (⟨⟨m0, m1, m2, m3, m4, m5, m6, m7, m8, m9, m10, m11, m12, m13⟩, m14, m15, m16, m17, m18, m19, m20, m21, m22⟩ : Mat) i)] : Option (List PV)) = RR
 simp only [JR, NO, std, xOf, PXb, PXc, PXn, PXm, Nat.reduceAdd, Int.reduceBEq, Gu]
 subst hres; simp only [Ab]
def Mb (xs : List Inn) (side : Int) : Nat → Int
 | 0 => 0
 | i + 1 => cond ((inn xs i).side == side) (IntKind.i64.wrap (Mb xs side i + (inn xs i).runs)) (Mb xs side i)
def BN (m : Mat) (side : Int) : Int := Mb m.inns side m.inns.length
theorem Ma {N : Nat} {m1 m2 m3 m4 m5 m6 m7 m9 m10 m11 m12 m14 m15 m18 m19 m20 m21 m22 : Int} {m8 m16 : Bool} {m0 : ByteArray} {m13 : Rows} {m17 : List Inn} {n : Int} (hN : 2097152 < N) (hl : m17.length ≤ 1048576) : Bg N [.str m0, .int m1, .int m2, .int m3, .int m4, .int m5, .int m6, .int m7, .bool m8, .int m9, .int m10, .int m11, .int m12, .rows m13, .int m14, .int m15, .bool m16, .rows (AZ m17), .int m18, .int m19, .int m20, .int m21, .int m22, .int n] = some [.int (BN (⟨⟨m0, m1, m2, m3, m4, m5, m6, m7, m8, m9, m10, m11, m12, m13⟩, m14, m15, m16, m17, m18, m19, m20, m21, m22⟩ : Mat) n)] := by
 show JL (std (Ox N) N) (xOf _) = _
 generalize hres : (some [.int (BN (⟨⟨m0, m1, m2, m3, m4, m5, m6, m7, m8, m9, m10, m11, m12, m13⟩, m14, m15, m16, m17, m18, m19, m20, m21, m22⟩ : Mat) n)] : Option (List PV)) = RR
 simp only [JL, std, xOf, PXb, PXi]
 subst hres; simp only [BN]
 refine Ao (OL (len := m17.length) (fun i => [.int (Mb m17 n i), .int (i : Int)]) [.int (Mb m17 n m17.length)] ?_ ?_ N (by omega)) rfl
 ·intro self
  simp only [PXb, PXc, PXn, AJ, CF]
 ·intro i self hi
  simp only [PXb, PXc, AJ, A0 (show i ≤ 1099511627776 by omega), Bf hi, A1 hi, PXi, Mb]
  cases (inn m17 i).side == n <;> rfl
def Ch (m : Mat) (side : Int) : Int :=
 cond (iLt (IntKind.i64.wrap ((m.inns.length : Int) + 1)) (IntKind.i64.wrap (2 * m.rules.innings))) 0 (IntKind.i64.wrap (IntKind.i64.wrap (BN m (CH side) - BN m side) + 1))
theorem Qe {N : Nat} {m1 m2 m3 m4 m5 m6 m7 m9 m10 m11 m12 m14 m15 m18 m19 m20 m21 m22 : Int} {m8 m16 : Bool} {m0 : ByteArray} {m13 : Rows} {m17 : List Inn} {n : Int} (hN : 2097152 < N) (hl : m17.length ≤ 1048576) : Fr N [.str m0, .int m1, .int m2, .int m3, .int m4, .int m5, .int m6, .int m7, .bool m8, .int m9, .int m10, .int m11, .int m12, .rows m13, .int m14, .int m15, .bool m16, .rows (AZ m17), .int m18, .int m19, .int m20, .int m21, .int m22, .int n] = some [.int (Ch (⟨⟨m0, m1, m2, m3, m4, m5, m6, m7, m8, m9, m10, m11, m12, m13⟩, m14, m15, m16, m17, m18, m19, m20, m21, m22⟩ : Mat) n)] := by
 show IW (std (GW N) N) (xOf _) = _
 generalize hres : (some [.int (Ch (⟨⟨m0, m1, m2, m3, m4, m5, m6, m7, m8, m9, m10, m11, m12, m13⟩, m14, m15, m16, m17, m18, m19, m20, m21, m22⟩ : Mat) n)] : Option (List PV)) = RR
 simp only [IW, Mk, Md, std, xOf, PXb, PXc, PXn, PXm, Nat.reduceAdd, Int.reduceBEq, PXi, Gu, Ma hN hl]
 subst hres; simp only [Ch]
def R8 (stage : Int) (xs : List Inn) (i : Nat) : Bool := !(((inn xs i).ending == 0) == (stage == 3 && ((i : Int) == IntKind.i64.wrap ((xs.length : Int) - 1))))
def OY (m : Mat) : Bool := !BT (R8 m.stage m.inns) m.inns.length 0 && (!(m.stage == 3) || iLt 0 (m.inns.length : Int))
theorem Xa {N : Nat} {m1 m2 m3 m4 m5 m6 m7 m9 m10 m11 m12 m14 m15 m18 m19 m20 m21 m22 : Int} {m8 m16 : Bool} {m0 : ByteArray} {m13 : Rows} {m17 : List Inn} (hN : 2097152 < N) (hl : m17.length ≤ 1048576) : Gi N [.str m0, .int m1, .int m2, .int m3, .int m4, .int m5, .int m6, .int m7, .bool m8, .int m9, .int m10, .int m11, .int m12, .rows m13, .int m14, .int m15, .bool m16, .rows (AZ m17), .int m18, .int m19, .int m20, .int m21, .int m22] = some [.bool (OY (⟨⟨m0, m1, m2, m3, m4, m5, m6, m7, m8, m9, m10, m11, m12, m13⟩, m14, m15, m16, m17, m18, m19, m20, m21, m22⟩ : Mat))] := by
 show JT (std (PW N) N) (xOf _) = _
 generalize hres : (some [.bool (OY (⟨⟨m0, m1, m2, m3, m4, m5, m6, m7, m8, m9, m10, m11, m12, m13⟩, m14, m15, m16, m17, m18, m19, m20, m21, m22⟩ : Mat))] : Option (List PV)) = RR
 simp only [JT, std, xOf, PXb, PXi]
 subst hres; simp only [OY]
 refine Ao (Jk (len := m17.length) (R8 m14 m17) [.bool false] ?_ ?_ N (by omega)) ?_
 ·intro self
  simp only [PXb, PXc, PXn, AJ, CF]
 ·intro i self hi
  simp only [PXb, PXc, AJ, A0 (show i ≤ 1099511627776 by omega), Bf hi, A1 hi, PXi, R8]
 ·cases BT (R8 m14 m17) m17.length 0 with
  | true => rfl
  | false => simp only [PXb, PXc, PXn, PXm, Nat.reduceAdd, Int.reduceBEq]
end Go.Px
end
section
namespace Go.Px
set_option maxRecDepth 100000
def Jf (xs : List Inn) : Prop := ∀ i, i < xs.length → (inn xs i).Fit
theorem RV {N : Nat} {r1 r2 r3 r4 r5 r6 r7 r9 r10 r11 r12 : Int} {r8 : Bool} {r0 : ByteArray} {r13 : Rows} (hl : r13.length ≤ 1048576) : Cm N [.str r0, .int r1, .int r2, .int r3, .int r4, .int r5, .int r6, .int r7, .bool r8, .int r9, .int r10, .int r11, .int r12, .rows r13] = some [.str r0, .int r1, .int r2, .int r3, .int r4, .int r5, .int r6, .int r7, .bool r8, .int r9, .int r10, .int r11, .int r12, .rows r13] := by
 show JX (std (KH N) N) (xOf _) = _
 simp only [JX, Ji, std, xOf, PXb, PXc, PXn, PXm, Nat.reduceAdd, Int.reduceBEq, Cc, BK hl (show 24 ≤ 4096 by omega)]
theorem XY {xs : List Inn} {i : Nat} (h : i < xs.length) : xs.take i ++ [inn xs i] = xs.take (i + 1) := by
 rw [List.take_add_one, N8, List.getElem?_eq_getElem h]
 rfl
theorem XV {N : Nat} {m1 m2 m3 m4 m5 m6 m7 m9 m10 m11 m12 m14 m15 m18 m19 m20 m21 m22 : Int} {m8 m16 : Bool} {m0 : ByteArray} {m13 : Rows} {m17 : List Inn} (hf : Jf m17) (hN : 2097152 < N) (hl : m17.length ≤ 1000000) (h13 : m13.length ≤ 1048576) : Gr N [.str m0, .int m1, .int m2, .int m3, .int m4, .int m5, .int m6, .int m7, .bool m8, .int m9, .int m10, .int m11, .int m12, .rows m13, .int m14, .int m15, .bool m16, .rows (AZ m17), .int m18, .int m19, .int m20, .int m21, .int m22] = some [.str m0, .int m1, .int m2, .int m3, .int m4, .int m5, .int m6, .int m7, .bool m8, .int m9, .int m10, .int m11, .int m12, .rows m13, .int m14, .int m15, .bool m16, .rows (AZ m17), .int m18, .int m19, .int m20, .int m21, .int m22] := by
 show JM (std (HW N) N) (xOf _) = _
 simp only [JM, Ng, GP, std, xOf, PXb, RV h13, PXi]
 refine Ao (OL (len := m17.length) (fun i => [.rows (AZ (m17.take i)), .int (i : Int)]) [.rows (AZ m17)] ?_ ?_ N (by omega)) rfl
 ·intro self
  simp only [PXb, PXc, PXn, AJ, CF, List.take_length]
 ·intro i self hi
  have h2 : (m17.take (i + 1)).length ≤ 1048576 := by rw [List.length_take]; omega
  have h3 : iSm ((m17.take (i + 1)).length : Int) 304 = true := Lz (by omega) (by omega)
  simp only [PXb, PXc, AJ, A0 (show i ≤ 1099511627776 by omega), Bf hi, A1 hi, PXi, GP, Bu (hf i hi), PXr, Inn.eta, h3, XY hi, Nat.reduceAdd]
  rfl
def eJ : Rul := ⟨⟨#[]⟩, 0, 0, 0, 0, 0, 0, 0, false, 0, 0, 0, 0, []⟩
def TR : Mat := ⟨eJ, 0, 0, false, [], 0, 0, 0, 0, 0⟩
def ao (r : Rul) : Mat × Int := cond (!(Ap r == 0)) (TR, Ap r) (⟨r, 1, 0, false, [], 0, 0, 0, 0, 0⟩, 0)
theorem Zp {N : Nat} {r1 r2 r3 r4 r5 r6 r7 r9 r10 r11 r12 : Int} {r8 : Bool} {r0 : ByteArray} {r13 : Rows} (hN : 2097152 < N) (hs : r0.size ≤ 1048576) (h13 : r13.length ≤ 1048576) : Iq N [.str r0, .int r1, .int r2, .int r3, .int r4, .int r5, .int r6, .int r7, .bool r8, .int r9, .int r10, .int r11, .int r12, .rows r13] = some (Ly (ao (⟨r0, r1, r2, r3, r4, r5, r6, r7, r8, r9, r10, r11, r12, r13⟩ : Rul))) := by
 show Lq (std (JH N) N) (xOf _) = _
 generalize hres : (some (Ly (ao (⟨r0, r1, r2, r3, r4, r5, r6, r7, r8, r9, r10, r11, r12, r13⟩ : Rul))) : Option (List PV)) = RR
 simp only [Lq, Ot, On, std, xOf, PXb, PXc, PXn, PXm, Nat.reduceAdd, Int.reduceBEq, CP hN hs, RV h13]
 subst hres; simp only [ao]
 cases Ap (⟨r0, r1, r2, r3, r4, r5, r6, r7, r8, r9, r10, r11, r12, r13⟩ : Rul) == 0 <;> rfl
def P8 (m : Mat) : Bool := (iLt m.pen1 0 || iLt 1000000 m.pen1) || (iLt m.pen2 0 || iLt 1000000 m.pen2)
def Sj (m : Mat) (i : Nat) : Bool := !FA m.rules (inn m.inns i) || !((inn m.inns i).side == Ab m (i : Int))
def Q8 (m : Mat) : Bool :=
  let n : Int := m.inns.length
  let most := IntKind.i64.wrap (2 * m.rules.innings)
  Ap m.rules == 0 && (!(iLt m.stage 1) && (!(iLt 5 m.stage) && (!P8 m && (!(iLt m.first 0 || iLt 2 m.first || iLt most n) && (!(m.first == 0 && (iLt 0 n || (!(m.stage == 1) && !(m.stage == 5)))) &&
    (!(m.stage == 1 && !(m.first == 0)) && (!(m.stage == 2 && n == most) && (!(m.stage == 4 && (!(m.rules.innings == 2) || !(n == 2))) && !(m.follow && (!(m.rules.innings == 2) || iLt n 2))))))))))
def BM (m : Mat) : Bool := Q8 m && (!BT (Sj m) m.inns.length 0 && OY m)
set_option maxHeartbeats 4000000 in
theorem Mj {N : Nat} {m1 m2 m3 m4 m5 m6 m7 m9 m10 m11 m12 m14 m15 m18 m19 m20 m21 m22 : Int} {m8 m16 : Bool} {m0 : ByteArray} {m13 : Rows} {m17 : List Inn} (hf : Jf m17) (hN : 2097152 < N) (hl : m17.length ≤ 1000000) (hs : m0.size ≤ 1048576) : B5 N [.str m0, .int m1, .int m2, .int m3, .int m4, .int m5, .int m6, .int m7, .bool m8, .int m9, .int m10, .int m11, .int m12, .rows m13, .int m14, .int m15, .bool m16, .rows (AZ m17), .int m18, .int m19, .int m20, .int m21, .int m22] = some [.bool (BM (⟨⟨m0, m1, m2, m3, m4, m5, m6, m7, m8, m9, m10, m11, m12, m13⟩, m14, m15, m16, m17, m18, m19, m20, m21, m22⟩ : Mat))] := by
 show JD (std (DN N) N) (xOf _) = _
 generalize hres : (some [.bool (BM (⟨⟨m0, m1, m2, m3, m4, m5, m6, m7, m8, m9, m10, m11, m12, m13⟩, m14, m15, m16, m17, m18, m19, m20, m21, m22⟩ : Mat))] : Option (List PV)) = RR
 simp only [JD, NX, GQ, HZ, HP, std, xOf, PXb, CP hN hs, PXi]
 subst hres; simp only [BM, Q8]
 cases hc : Ap (⟨⟨m0, m1, m2, m3, m4, m5, m6, m7, m8, m9, m10, m11, m12, m13⟩, m14, m15, m16, m17, m18, m19, m20, m21, m22⟩ : Mat).rules == 0 <;> (try rfl)
 cases h1 : iLt m14 1 <;> (try rfl)
 cases h5 : iLt 5 m14 <;> (try rfl)
 simp only [PXb]
 refine Ao (Jk (len := 2) (fun i => iLt (cond ((i : Int) == 1) m19 m18) 0 || iLt 1000000 (cond ((i : Int) == 1) m19 m18)) [.bool false] ?_ ?_ N (by omega)) ?_
 ·intro self
  rfl
 ·intro i self hi
  simp only [PXb, A0 (show i ≤ 1099511627776 by omega), show iLt (i : Int) 2 = true from Bf (len := 2) hi, show iIn (i : Int) 2 = true from A1 (len := 2) hi]
 ·have hp : BT (fun i => iLt (cond ((i : Int) == 1) m19 m18) 0 || iLt 1000000 (cond ((i : Int) == 1) m19 m18)) 2 0 = P8 (⟨⟨m0, m1, m2, m3, m4, m5, m6, m7, m8, m9, m10, m11, m12, m13⟩, m14, m15, m16, m17, m18, m19, m20, m21, m22⟩ : Mat) := by
   simp only [Br, Hz, Bool.or_false]
   rfl
  rw [hp]
  cases P8 (⟨⟨m0, m1, m2, m3, m4, m5, m6, m7, m8, m9, m10, m11, m12, m13⟩, m14, m15, m16, m17, m18, m19, m20, m21, m22⟩ : Mat)
  case true => rfl
  simp only [PXb, JC, Int.reduceBEq]
  cases iLt m15 0 <;> try rfl
  cases iLt 2 m15 <;> try rfl
  cases iLt (IntKind.i64.wrap (2 * m2)) (m17.length : Int) <;> try rfl
  cases (m15 == 0 && (iLt 0 (m17.length : Int) || (!(m14 == 1) && !(m14 == 5)))) <;> try rfl
  cases (m14 == 1 && !(m15 == 0)) <;> try rfl
  cases (m14 == 2 && (m17.length : Int) == IntKind.i64.wrap (2 * m2)) <;> try rfl
  cases (m14 == 4 && (!(m2 == 2) || !((m17.length : Int) == 2))) <;> try rfl
  cases (m16 && (!(m2 == 2) || iLt (m17.length : Int) 2)) <;> try rfl
  simp only [PXb]
  refine Ao (Jk (len := m17.length) (Sj (⟨⟨m0, m1, m2, m3, m4, m5, m6, m7, m8, m9, m10, m11, m12, m13⟩, m14, m15, m16, m17, m18, m19, m20, m21, m22⟩ : Mat)) [.bool false] ?_ ?_ N (by omega)) ?_
  ·intro self
   simp only [PXb, PXc, PXn, AJ, CF]
  ·intro i self hi
   simp only [PXb, PXc, PXn, PXm, Nat.reduceAdd, Int.reduceBEq, A0 (show i ≤ 1099511627776 by omega), Bf hi, A1 hi, PXi, GQ, HZ, O0 (hf i hi) hN hs, Mx, Sj]
   cases FA (⟨⟨m0, m1, m2, m3, m4, m5, m6, m7, m8, m9, m10, m11, m12, m13⟩, m14, m15, m16, m17, m18, m19, m20, m21, m22⟩ : Mat).rules (inn m17 i) <;> first | rfl | simp only [PXb, PXc, PXn, PXm, Nat.reduceAdd, Int.reduceBEq]
  ·cases BT (Sj (⟨⟨m0, m1, m2, m3, m4, m5, m6, m7, m8, m9, m10, m11, m12, m13⟩, m14, m15, m16, m17, m18, m19, m20, m21, m22⟩ : Mat)) m17.length 0
   case true => rfl
   simp only [PXb, PXc, PXn, PXm, Nat.reduceAdd, Int.reduceBEq, HP, Xa hN (show m17.length ≤ 1048576 by omega)]
end Go.Px
end
section
namespace Go.Px
set_option maxRecDepth 100000
def lnx (xs : List Inn) : Nat := (IntKind.i64.wrap ((xs.length : Int) - 1)).toNat
def Ax (m : Mat) : Inn := inn m.inns (lnx m.inns)
theorem TO {n : Nat} (h : ((n : Int) == 0) = false) (hl : n ≤ 1000000) : iIn (IntKind.i64.wrap ((n : Int) - 1)) (n : Int) = true := by
 rw [beq_eq_false_iff_ne] at h
 rw [BD (by omega) (by omega)]
 simp only [iIn, decide_eq_true_eq]; omega
theorem Sw {xs : List Inn} (h : ((xs.length : Int) == 0) = false) (hl : xs.length ≤ 1000000) : lnx xs < xs.length := by
 rw [beq_eq_false_iff_ne] at h
 unfold lnx
 rw [BD (by omega) (by omega)]
 omega
def Vl (r : Rul) : Int := cond (r.overs == 0) 5 6
theorem Hj {N : Nat} {r1 r2 r3 r4 r5 r6 r7 r9 r10 r11 r12 : Int} {r8 : Bool} {r0 : ByteArray} {r13 : Rows}  : BW N [.str r0, .int r1, .int r2, .int r3, .int r4, .int r5, .int r6, .int r7, .bool r8, .int r9, .int r10, .int r11, .int r12, .rows r13] = some [.int (Vl (⟨r0, r1, r2, r3, r4, r5, r6, r7, r8, r9, r10, r11, r12, r13⟩ : Rul))] := by
 show Em (std (Ks N) N) (xOf _) = _
 simp only [Em, std, xOf, PXb, PXc, PXn, PXm, Nat.reduceAdd, Int.reduceBEq, Vl]
def eS (x : Int × Int × Int) : List PV := [.int x.1, .int x.2.1, .int x.2.2]
def Qr (m : Mat) : Int × Int × Int :=
  let n : Int := m.inns.length
  let most := IntKind.i64.wrap (2 * m.rules.innings)
  let x := Ax m
  cond (!BM m || n == 0) (0, 0, 0) (cond (x.ending == 5) (Vl m.rules, 0, 0) (cond (x.ending == 0) (0, 0, 0)
    (cond (n == most && iLe x.target x.runs) (2, x.side, IntKind.i64.wrap (IntKind.i64.wrap (m.rules.side - 1) - x.wickets)) (cond (n == most && x.runs == IntKind.i64.wrap (x.target - 1)) (4, 0, 0)
      (cond (n == most) (1, CH x.side, IntKind.i64.wrap (IntKind.i64.wrap (x.target - 1) - x.runs))
        (cond (n == 3 && iLt (BN m x.side) (BN m (CH x.side))) (3, CH x.side, IntKind.i64.wrap (BN m (CH x.side) - BN m x.side)) (0, 0, 0)))))))
set_option maxHeartbeats 4000000 in
theorem V8 {N : Nat} {m1 m2 m3 m4 m5 m6 m7 m9 m10 m11 m12 m14 m15 m18 m19 m20 m21 m22 : Int} {m8 m16 : Bool} {m0 : ByteArray} {m13 : Rows} {m17 : List Inn} (hf : Jf m17) (hN : 2097152 < N) (hl : m17.length ≤ 1000000) (hs : m0.size ≤ 1048576) : Eo N [.str m0, .int m1, .int m2, .int m3, .int m4, .int m5, .int m6, .int m7, .bool m8, .int m9, .int m10, .int m11, .int m12, .rows m13, .int m14, .int m15, .bool m16, .rows (AZ m17), .int m18, .int m19, .int m20, .int m21, .int m22] = some (eS (Qr (⟨⟨m0, m1, m2, m3, m4, m5, m6, m7, m8, m9, m10, m11, m12, m13⟩, m14, m15, m16, m17, m18, m19, m20, m21, m22⟩ : Mat))) := by
 show Hc (std (Ci N) N) (xOf _) = _
 generalize hres : (some (eS (Qr (⟨⟨m0, m1, m2, m3, m4, m5, m6, m7, m8, m9, m10, m11, m12, m13⟩, m14, m15, m16, m17, m18, m19, m20, m21, m22⟩ : Mat))) : Option (List PV)) = RR
 simp only [Hc, MQ, MY, MH, Je, std, xOf, PXb, PXi, Mj hf hN hl hs, Gu, Hj, Ma hN (show m17.length ≤ 1048576 by omega)]
 subst hres; simp only [Qr, Ax, lnx]
 cases hv : BM (⟨⟨m0, m1, m2, m3, m4, m5, m6, m7, m8, m9, m10, m11, m12, m13⟩, m14, m15, m16, m17, m18, m19, m20, m21, m22⟩ : Mat)
 case false => rfl
 cases h0 : (m17.length : Int) == 0
 case true => rfl
 simp only [PXb, TO h0 hl]
 generalize inn m17 (IntKind.i64.wrap ((m17.length : Int) - 1)).toNat = x
 cases x.ending == 5
 case true => rfl
 cases x.ending == 0
 case true => rfl
 cases (m17.length : Int) == IntKind.i64.wrap (2 * m2) <;> cases iLe x.target x.runs <;> cases x.runs == IntKind.i64.wrap (x.target - 1) <;> try rfl
 all_goals (cases (m17.length : Int) == 3 <;> try rfl)
 all_goals (simp only [PXb]; cases iLt (BN (⟨⟨m0, m1, m2, m3, m4, m5, m6, m7, m8, m9, m10, m11, m12, m13⟩, m14, m15, m16, m17, m18, m19, m20, m21, m22⟩ : Mat) x.side) (BN (⟨⟨m0, m1, m2, m3, m4, m5, m6, m7, m8, m9, m10, m11, m12, m13⟩, m14, m15, m16, m17, m18, m19, m20, m21, m22⟩ : Mat) (CH x.side)) <;> rfl)
theorem X1 : ∀ (n k : Nat) (f : Nat → Nat), (∀ i, i < k → 1 ≤ f i ∧ f i ≤ n) → (∀ i j, i < j → j < k → f i ≠ f j) → k ≤ n
 | 0, k, f, h, _ => by
  rcases Nat.eq_zero_or_pos k with e | e
  ·omega
  ·have := h 0 e; omega
 | n + 1, 0, f, _, _ => by omega
 | n + 1, k + 1, f, h, hi => by
  by_cases he : ∃ j, j < k + 1 ∧ f j = n + 1
  ·obtain ⟨j, hj, hfj⟩ := he
   have := X1 n k (fun i => if i = j then f k else f i) (fun i hik => by
    show 1 ≤ (if i = j then f k else f i) ∧ (if i = j then f k else f i) ≤ n
    by_cases e : i = j
    ·rw [if_pos e]
     have h1 := h k (by omega)
     have : f k ≠ f j := fun e2 => hi j k (by omega) (by omega) e2.symm
     omega
    ·rw [if_neg e]
     have h1 := h i (by omega)
     have : f i ≠ f j := by
      rcases Nat.lt_or_gt_of_ne e with e2 | e2
      ·exact hi i j e2 hj
      ·exact fun e3 => hi j i e2 (by omega) e3.symm
     omega) (fun a b hab hb => by
    show (if a = j then f k else f a) ≠ (if b = j then f k else f b)
    by_cases e1 : a = j
    ·have e2 : b ≠ j := by omega
     rw [if_pos e1, if_neg e2]
     exact fun e3 => hi b k hb (by omega) e3.symm
    ·rw [if_neg e1]
     by_cases e2 : b = j
     ·rw [if_pos e2]; exact hi a k (by omega) (by omega)
     ·rw [if_neg e2]; exact hi a b hab (by omega))
   omega
  ·have := X1 n (k + 1) f (fun i hik => by
    have h1 := h i hik
    have : f i ≠ n + 1 := fun e => he ⟨i, hik, e⟩
    omega) hi
   omega
theorem Xz {L : Rows} {n : Int} (h : FK L n = true) (hn : 0 ≤ n) : (L.length : Int) ≤ n := by
 unfold FK at h
 rw [Bool.not_eq_true', Bw] at h
 have hb : ∀ i, i < L.length → 1 ≤ atI L i 0 ∧ atI L i 0 ≤ n := fun i hi => by
  have := h i (by omega) (by omega)
  unfold J1 at this
  rw [Bool.or_eq_false_iff, Bool.not_eq_false', HB] at this
  exact this.1
 have := X1 n.toNat L.length (fun i => (atI L i 0).toNat) (fun i hi => by have := hb i hi; show 1 ≤ (atI L i 0).toNat ∧ (atI L i 0).toNat ≤ n.toNat; omega) (fun i j hij hj => by
  show (atI L i 0).toNat ≠ (atI L j 0).toNat
  have h1 := hb i (by omega)
  have h2 := hb j hj
  have h3 := h j (by omega) (by omega)
  unfold J1 at h3
  rw [Bool.or_eq_false_iff] at h3
  have h4 := Bw.1 h3.2 i (by omega) (by omega)
  rw [beq_eq_false_iff_ne] at h4
  omega)
 omega
theorem RA {r : Rul} {s : Inn} (h : FA r s = true) : s.bowlers.length ≤ 11 ∧ s.before.length ≤ 11 ∧ s.Fit := by
 have ok := Ju.1 h
 have hs := GA ok
 have h1 := Xz ok.dw (by omega)
 have h2 := Xz ok.df (by omega)
 have h3 := ok.lb
 have h4 := ok.ld
 have h5 := ok.lz
 exact ⟨by omega, by omega, by omega, by omega, by omega, by omega, by omega⟩
end Go.Px
end
section
namespace Go.Px
set_option maxRecDepth 100000
def Q5 (m : Mat) (e : Ev) : Mat × Int :=
  let sd := Ab m (m.inns.length : Int)
  let b := BO m.rules sd (Ch m sd) (cond (sd == 2) m.pen2 m.pen1)
  let t := Av m.rules b.1 e
  cond (!(b.2 == 0)) (m, 1) (cond (!(t.2 == 0)) (m, t.2)
    ({ m with stage := 3, inns := m.inns ++ [t.1], pen1 := cond (sd == 1) 0 m.pen1, pen2 := cond (sd == 2) 0 m.pen2 }, 0))
def H9 (xs : List Inn) (sd : Int) : Nat → Option Nat
 | 0 => none
 | k + 1 => cond ((inn xs k).side == sd) (some k) (H9 xs sd k)
def F4 (m : Mat) (sd : Int) : Mat := match H9 m.inns sd m.inns.length with
 | some k => { m with inns := m.inns.set k (Mf (inn m.inns k)) }
 | none => { m with pen1 := cond (sd == 1) (IntKind.i64.wrap (m.pen1 + 5)) m.pen1, pen2 := cond (sd == 2) (IntKind.i64.wrap (m.pen2 + 5)) m.pen2 }
def TP (m : Mat) (e : Ev) : Mat × Int :=
 let t := Av m.rules (Ax m) e
 cond (!(t.2 == 0)) (m, t.2) (cond (e.kind == 13 && !(e.side == t.1.side)) (F4 { m with inns := m.inns.set (lnx m.inns) t.1 } e.side) { m with inns := m.inns.set (lnx m.inns) t.1 }, 0)
def aw (m : Mat) : Mat := { m with inns := cond (m.stage == 3) (m.inns.set (lnx m.inns) { Ax m with ending := 5 }) m.inns, stage := 5, win := Vl m.rules, wside := 0, margin := 0 }
def Ae (m : Mat) (e : Ev) : Mat × Int :=
  cond (e.kind == 1) (cond (!(m.stage == 1)) (m, 1) ({ m with first := cond e.yes e.side (CH e.side), stage := 2 }, 0))
    (cond (e.kind == 2) (cond (!(m.stage == 2)) (m, 1) (Q5 m e))
      (cond (e.kind == 12) (cond (!(m.stage == 4)) (m, 1) (cond (!(e.side == m.first)) (m, 2) ({ m with follow := e.yes, stage := 2 }, 0)))
        (cond (e.kind == 16) (aw m, 0) (cond (!(m.stage == 3)) (m, 1) (TP m e)))))
def Js (m : Mat) : Mat :=
  let n : Int := m.inns.length
  let sd := (Ax m).side
  let o := Qr { m with stage := 5 }
  cond (n == IntKind.i64.wrap (2 * m.rules.innings) || (n == 3 && iLt (BN m sd) (BN m (CH sd)))) { m with stage := 5, win := o.1, wside := o.2.1, margin := o.2.2 }
    (cond (n == 2 && iLt 0 m.rules.followon && iLe m.rules.followon (IntKind.i64.wrap (BN m m.first - BN m (CH m.first)))) { m with stage := 4 } { m with stage := 2 })
def G5 (m : Mat) : Mat := cond (m.stage == 3 && !((Ax m).ending == 0)) (Js m) m
def HM (m : Mat) (e : Ev) : Mat × Int :=
 cond (!BM m || !(evS e == 0)) (m, 1) (cond (m.stage == 5) (m, 26) (cond (!((Ae m e).2 == 0)) (m, (Ae m e).2) (G5 (Ae m e).1, 0)))
theorem bind_ok {X : Option (List PV)} {r : List PV} {k : List PV → Option (List PV)} {g : Option (List PV)} (h : X = some r) (hk : k r = g) : X.bind k = g := by rw [h]; exact hk
structure MatOk (m : Mat) : Prop where
 code : Ap m.rules = 0
 len : m.inns.length ≤ 4
 innv : ∀ i, i < m.inns.length → FA m.rules (inn m.inns i) = true ∧ (inn m.inns i).side = Ab m (i : Int)
 begun : (m.stage == 3) = true → ((m.inns.length : Int) == 0) = false
 toss : (m.stage == 2) = true → m.first = 1 ∨ m.first = 2
 room : (m.stage == 2) = true → (m.inns.length : Int) < 2 * m.rules.innings
 most : IntKind.i64.wrap (2 * m.rules.innings) = 2 * m.rules.innings ∧ (m.inns.length : Int) ≤ 2 * m.rules.innings
theorem QM {m : Mat} (h : BM m = true) : MatOk m := by
 unfold BM Q8 at h
 simp only [Bool.and_eq_true, Bool.not_eq_true'] at h
 obtain ⟨⟨h1, h2, h3, h4, h5, h6, h7, h8, h9, h10⟩, h11, h12⟩ := h
 have hc := beq_iff_eq.1 h1
 have rk := (F8 hc).innings
 have e2 : IntKind.i64.wrap (2 * m.rules.innings) = 2 * m.rules.innings := BD (by omega) (by omega)
 rw [e2] at h5 h8
 rw [Bool.or_eq_false_iff, Bool.or_eq_false_iff] at h5
 have hn := h5.2
 have hf1 := h5.1.1
 have hf2 := h5.1.2
 simp only [iLt, decide_eq_false_iff_not] at hn hf1 hf2
 refine ⟨hc, by omega, fun i hi => ?_, fun hs => ?_, fun hs => ?_, fun hs => ?_, e2, by omega⟩
 ·have := Bw.1 h11 i (by omega) (by omega)
  unfold Sj at this
  rw [Bool.or_eq_false_iff, Bool.not_eq_false', Bool.not_eq_false', beq_iff_eq] at this
  exact this
 ·unfold OY at h12
  rw [hs, Bool.and_eq_true] at h12
  have := h12.2
  simp only [iLt, Bool.not_true, Bool.false_or, decide_eq_true_eq] at this
  exact beq_false_of_ne (by omega)
 ·rw [beq_iff_eq.1 hs] at h6
  cases h0 : m.first == 0 with
  | true => rw [h0] at h6; simp at h6
  | false =>
   rw [beq_eq_false_iff_ne] at h0
   omega
 ·rw [hs, Bool.true_and, beq_eq_false_iff_ne] at h8
  omega
theorem du {m : Mat} (h : m.first = 1 ∨ m.first = 2) (i : Int) : Ab m i = 1 ∨ Ab m i = 2 := by
 unfold Ab
 cases cond (m.follow && iLe 2 i) (i == 2) (i.tmod 2 == 1) with
 | false => exact h
 | true => rcases h with h | h <;> rw [h] <;> decide
theorem cN {m : Mat} (h : MatOk m) : Jf m.inns := fun i hi => (RA (h.innv i hi).1).2.2
theorem RD {F : (List AY → Option (List PV)) → List PV → Option (List PV)} {len : Nat} (enc : Nat → List AY) (ans : Nat → Option (List PV))
    (h0 : ∀ self, F self ((enc len).map Leaf.pv) = some [.int 1]) (h1 : ∀ i self, i < len → F self ((enc i).map Leaf.pv) = match ans i with | some r => some (.int 0 :: r) | none => self (enc (i + 1))) :
    ∀ (k i n : Nat), i + k = len → k < n → HH F n ((enc i).map Leaf.pv) = some (TK (Bi ans k i))
  | 0, i, n, hk, hn => by
    obtain ⟨n, rfl⟩ : ∃ m, n = m + 1 := ⟨n - 1, by omega⟩
    obtain rfl : i = len := by omega
    exact h0 _
  | k + 1, i, n, hk, hn => by
    obtain ⟨n, rfl⟩ : ∃ m, n = m + 1 := ⟨n - 1, by omega⟩
    show F _ _ = _
    rw [h1 i _ (by omega)]
    simp only [Bi]
    cases ans i with
    | some r => rfl
    | none => exact RD enc ans h0 h1 k (i + 1) n (by omega) (by omega)
theorem Z2 (ys : List Inn) (sd : Int) (g : Nat → List PV) (n : Nat) : ∀ k, k ≤ n → Bi (fun j => cond ((inn ys (n - 1 - j)).side == sd) (some (g (n - 1 - j))) none) k (n - k) = (H9 ys sd k).map g
 | 0, _ => rfl
 | k + 1, h => by
  have ih := Z2 ys sd g n k (by omega)
  have e : n - 1 - (n - (k + 1)) = k := by omega
  have e2 : n - (k + 1) + 1 = n - k := by omega
  simp only [Bi, H9, e, e2, ih]
  cases (inn ys k).side == sd <;> rfl
theorem TJ (xs : List Inn) (k : Nat) (s : Inn) (i : Nat) (hi : i < xs.length) : inn (xs.set k s) i = (if k = i then s else inn xs i) := by
 rw [N8, N8, List.getElem?_set]
 by_cases h : k = i
 ·subst h
  rw [if_pos rfl, if_pos rfl, if_pos hi]
 ·rw [if_neg h, if_neg h]
theorem Q4 {xs : List Inn} {s : Inn} (k : Nat) (h : Jf xs) (hs : s.Fit) : Jf (xs.set k s) := fun i hi => by
 rw [List.length_set] at hi
 rw [TJ xs k s i hi]
 by_cases e : k = i
 ·rw [if_pos e]; exact hs
 ·rw [if_neg e]; exact h i hi
theorem cc {e : Ev} (h : (evS e == 0) = true) (hk : (e.kind == 13) = true) : e.side = 1 ∨ e.side = 2 := by
 have h0 := Nr h
 rw [beq_iff_eq] at hk
 unfold evS at h
 rw [h0] at h
 cases h1 : WE e with
 | true => rw [h1] at h; cases h
 | false =>
  cases h2 : Q0 e with
  | true => rw [h1, h2] at h; cases h
  | false =>
   unfold Q0 at h2
   rw [Bool.or_eq_false_iff] at h2
   have h3 := h2.1
   rw [hk, show uS 13 = true from rfl, Bool.and_true] at h3
   simp only [btw, iLe, Bool.not_eq_false', Bool.and_eq_true, decide_eq_true_eq] at h3
   omega
theorem TF (xs : List Inn) (s : Inn) (i : Nat) (hi : i < xs.length + 1) : inn (xs ++ [s]) i = (if i < xs.length then inn xs i else s) := by
 rw [N8, N8]
 by_cases h : i < xs.length
 ·rw [if_pos h, List.getElem?_append_left h]
 ·have : i = xs.length := by omega
  subst this
  rw [if_neg h, List.getElem?_append_right (Nat.le_refl _), Nat.sub_self]
  rfl
theorem dx {xs : List Inn} {s : Inn} (h : Jf xs) (hs : s.Fit) : Jf (xs ++ [s]) := fun i hi => by
 rw [List.length_append] at hi
 rw [TF xs s i hi]
 by_cases e : i < xs.length
 ·rw [if_pos e]; exact h i e
 ·rw [if_neg e]; exact hs
theorem WQ (r : Rul) (a b c : Int) (e : Ev) : (Av r (BO r a b c).1 e).1.Fit := by
 obtain ⟨f, h1, h2⟩ := Ni r a b c
 exact QO (SL r _ e) f (by rw [h1, h2]; exact Nat.zero_le _)
structure ActOk (m : Mat) (x : Mat × Int) : Prop where
 rules : x.1.rules = m.rules
 fit : Jf x.1.inns
 len : x.1.inns.length ≤ 5
 some' : (x.2 == 0) = true → (x.1.stage == 3) = true → ((x.1.inns.length : Int) == 0) = false
theorem A_c {m : Mat} (b : Bool) (x y : Mat × Int) (hx : ActOk m x) (hy : ActOk m y) : ActOk m (cond b x y) := by cases b <;> assumption
theorem de {m : Mat} (sd : Int) (hf : Jf m.inns) : (F4 m sd).rules = m.rules ∧ Jf (F4 m sd).inns ∧ (F4 m sd).inns.length = m.inns.length ∧ (F4 m sd).stage = m.stage := by
 unfold F4
 cases h : H9 m.inns sd m.inns.length with
 | none => exact ⟨rfl, hf, rfl, rfl⟩
 | some k =>
  have hk : k < m.inns.length := by
   have : ∀ n, H9 m.inns sd n = some k → k < n := by
    intro n
    induction n with
    | zero => intro h; cases h
    | succ n ih =>
     intro h
     unfold H9 at h
     cases hq : (inn m.inns n).side == sd with
     | true => rw [hq] at h; cases h; omega
     | false => rw [hq] at h; have := ih h; omega
   exact this _ h
  exact ⟨rfl, Q4 k hf (fH (hf k hk)), List.length_set, rfl⟩
theorem cE {m : Mat} (ok : MatOk m) (e : Ev) : ActOk m (Ae m e) := by
 have hf := cN ok
 have hl := ok.len
 have self : ∀ n : Int, (n == 0) = false → ActOk m (m, n) := fun n hn => ⟨rfl, hf, by show m.inns.length ≤ 5; omega, fun h => by rw [hn] at h; cases h⟩
 unfold Ae
 refine A_c _ _ _ (A_c _ _ _ (self 1 rfl) ⟨rfl, hf, by show m.inns.length ≤ 5; omega, fun _ h => by cases h⟩) (A_c _ _ _ ?_ (A_c _ _ _ ?_ (A_c _ _ _ ?_ ?_)))
 ·refine A_c _ _ _ (self 1 rfl) ?_
  unfold Q5
  refine A_c _ _ _ (self 1 rfl) ?_
  cases hq : (Av m.rules (BO m.rules (Ab m (m.inns.length : Int)) (Ch m (Ab m (m.inns.length : Int))) (cond (Ab m (m.inns.length : Int) == 2) m.pen2 m.pen1)).1 e).2 == 0 with
  | false =>
   simp only [Bool.not_false, cond_true]
   exact self _ hq
  | true =>
   simp only [Bool.not_true, cond_false]
   exact ⟨rfl, dx hf (WQ _ _ _ _ e), by simp; omega, fun _ _ => by
    show ((((m.inns ++ [_]).length : Nat) : Int) == 0) = false
    rw [List.length_append]
    exact beq_false_of_ne (by simp; omega)⟩
 ·exact A_c _ _ _ (self 1 rfl) (A_c _ _ _ (self 2 rfl) ⟨rfl, hf, by show m.inns.length ≤ 5; omega, fun _ h => by cases h⟩)
 ·unfold aw
  cases h3 : m.stage == 3 with
  | false => exact ⟨rfl, hf, by show m.inns.length ≤ 5; omega, fun _ h => by cases h⟩
  | true =>
   have h0 := ok.begun h3
   have fl := hf (lnx m.inns) (Sw h0 (by omega))
   exact ⟨rfl, Q4 _ hf ⟨fl.bt, fl.bw, fl.bf, fl.bd, fl.sb⟩, by show (m.inns.set _ _).length ≤ 5; rw [List.length_set]; omega, fun _ h => by cases h⟩
 ·cases h3 : m.stage == 3 with
  | false => exact self 1 rfl
  | true =>
   have h0 := ok.begun h3
   have lv := RA (ok.innv (lnx m.inns) (Sw h0 (by omega))).1
   have h1 := lv.1
   have h2 := lv.2.1
   have ft := QO (SL m.rules (Ax m) e) lv.2.2 (show (inn m.inns (lnx m.inns)).before.length + (inn m.inns (lnx m.inns)).bowlers.length ≤ 1048575 by omega)
   simp only [Bool.not_true, cond_false, TP]
   cases hq : (Av m.rules (Ax m) e).2 == 0 with
   | false =>
    simp only [Bool.not_false, Bool.not_true, cond_true, cond_false]
    exact self _ hq
   | true =>
    have fs := Q4 (lnx m.inns) hf ft
    have ln : (m.inns.set (lnx m.inns) (Av m.rules (Ax m) e).1).length = m.inns.length := List.length_set
    simp only [Bool.not_true, cond_false]
    cases (e.kind == 13 && !(e.side == (Av m.rules (Ax m) e).1.side)) with
    | false =>
     exact ⟨rfl, fs, by show (m.inns.set _ _).length ≤ 5; omega, fun _ _ => by
      show ((((m.inns.set _ _).length : Nat) : Int) == 0) = false
      rw [ln]; exact h0⟩
    | true =>
     obtain ⟨a1, a2, a3, a4⟩ := de (m := { m with inns := m.inns.set (lnx m.inns) (Av m.rules (Ax m) e).1 }) e.side fs
     exact ⟨a1, a2, by show (F4 _ _).inns.length ≤ 5; rw [a3]; show (m.inns.set _ _).length ≤ 5; omega, fun _ _ => by
      show ((((F4 _ _).inns.length : Nat) : Int) == 0) = false
      rw [a3]
      show ((((m.inns.set _ _).length : Nat) : Int) == 0) = false
      rw [ln]; exact h0⟩
end Go.Px
end
section
namespace Go.Px
set_option maxRecDepth 100000
set_option maxHeartbeats 8000000 in
theorem Y5 {N : Nat} {m1 m2 m3 m4 m5 m6 m7 m9 m10 m11 m12 m14 m15 m18 m19 m20 m21 m22 : Int} {m8 m16 : Bool} {m0 : ByteArray} {m13 : Rows} {m17 : List Inn} {e0 e1 e2 e3 e5 e6 e7 e8 e9 e10 e11 e13 e14 e15 e16 e18 : Int} {e4 e12 e17 : Bool} (hN : 2097152 < N) (hf : Jf m17) (hl : m17.length ≤ 1000000) (hs : m0.size ≤ 1048576) (h13 : m13.length ≤ 1048576) : Hg N [.str m0, .int m1, .int m2, .int m3, .int m4, .int m5, .int m6, .int m7, .bool m8, .int m9, .int m10, .int m11, .int m12, .rows m13, .int m14, .int m15, .bool m16, .rows (AZ m17), .int m18, .int m19, .int m20, .int m21, .int m22, .int e0, .int e1, .int e2, .int e3, .bool e4, .int e5, .int e6, .int e7, .int e8, .int e9, .int e10, .int e11, .bool e12, .int e13, .int e14, .int e15, .int e16, .bool e17, .int e18] = some (Ly (HM (⟨⟨m0, m1, m2, m3, m4, m5, m6, m7, m8, m9, m10, m11, m12, m13⟩, m14, m15, m16, m17, m18, m19, m20, m21, m22⟩ : Mat) (⟨e0, e1, e2, e3, e4, e5, e6, ⟨e7, e8, e9, e10, e11, e12, e13, e14, e15, e16, e17, e18⟩⟩ : Ev))) := by
 show Kj (std (Ay N) N) (xOf _) = _
 generalize hres : (some (Ly (HM (⟨⟨m0, m1, m2, m3, m4, m5, m6, m7, m8, m9, m10, m11, m12, m13⟩, m14, m15, m16, m17, m18, m19, m20, m21, m22⟩ : Mat) (⟨e0, e1, e2, e3, e4, e5, e6, ⟨e7, e8, e9, e10, e11, e12, e13, e14, e15, e16, e17, e18⟩⟩ : Ev))) : Option (List PV)) = RR
 simp only [Kj, OV, EE, OJ, OD, D7, Hq, Gm, DW, Dp, Ca, Co, GG, std, xOf, PXb, Mj hf hN hl hs, Rm hN, XV hf hN hl h13]
 subst hres; simp only [HM]
 cases hv : BM (⟨⟨m0, m1, m2, m3, m4, m5, m6, m7, m8, m9, m10, m11, m12, m13⟩, m14, m15, m16, m17, m18, m19, m20, m21, m22⟩ : Mat)
 case false => rfl
 cases he : evS (⟨e0, e1, e2, e3, e4, e5, e6, ⟨e7, e8, e9, e10, e11, e12, e13, e14, e15, e16, e17, e18⟩⟩ : Ev) == 0
 case false => simp only [PXb, he]; rfl
 simp only [PXb, he]
 cases h5 : m14 == 5
 case true => rfl
 simp only [PXb]
 have ok := QM hv
 refine bind_ok (r := .int (Ae (⟨⟨m0, m1, m2, m3, m4, m5, m6, m7, m8, m9, m10, m11, m12, m13⟩, m14, m15, m16, m17, m18, m19, m20, m21, m22⟩ : Mat) (⟨e0, e1, e2, e3, e4, e5, e6, ⟨e7, e8, e9, e10, e11, e12, e13, e14, e15, e16, e17, e18⟩⟩ : Ev)).2 :: (Ae (⟨⟨m0, m1, m2, m3, m4, m5, m6, m7, m8, m9, m10, m11, m12, m13⟩, m14, m15, m16, m17, m18, m19, m20, m21, m22⟩ : Mat) (⟨e0, e1, e2, e3, e4, e5, e6, ⟨e7, e8, e9, e10, e11, e12, e13, e14, e15, e16, e17, e18⟩⟩ : Ev)).1.ls) ?_ ?_
 ·unfold Ae
  cases hk1 : e0 == 1
  case true =>
   simp only [PXb, D7, Gu]
   cases m14 == 1 <;> cases e4 <;> rfl
  cases hk2 : e0 == 2
  case true =>
   simp only [PXb]
   cases hs2 : m14 == 2
   case false => rfl
   have hl2 : m17.length ≤ 1048576 := by omega
   have h304 : iSm ((m17.length + 1 : Nat) : Int) 304 = true := Lz (by omega) (by omega)
   have fb := fun a b c => (Ni (⟨⟨m0, m1, m2, m3, m4, m5, m6, m7, m8, m9, m10, m11, m12, m13⟩, m14, m15, m16, m17, m18, m19, m20, m21, m22⟩ : Mat).rules a b c).1
   have wb : ∀ a b c, (BO (⟨⟨m0, m1, m2, m3, m4, m5, m6, m7, m8, m9, m10, m11, m12, m13⟩, m14, m15, m16, m17, m18, m19, m20, m21, m22⟩ : Mat).rules a b c).1.before.length + (BO (⟨⟨m0, m1, m2, m3, m4, m5, m6, m7, m8, m9, m10, m11, m12, m13⟩, m14, m15, m16, m17, m18, m19, m20, m21, m22⟩ : Mat).rules a b c).1.bowlers.length ≤ 1000000 := fun a b c => by
    rw [(Ni (⟨⟨m0, m1, m2, m3, m4, m5, m6, m7, m8, m9, m10, m11, m12, m13⟩, m14, m15, m16, m17, m18, m19, m20, m21, m22⟩ : Mat).rules a b c).2.1, (Ni (⟨⟨m0, m1, m2, m3, m4, m5, m6, m7, m8, m9, m10, m11, m12, m13⟩, m14, m15, m16, m17, m18, m19, m20, m21, m22⟩ : Mat).rules a b c).2.2]
    exact Nat.zero_le _
   rcases du (m := (⟨⟨m0, m1, m2, m3, m4, m5, m6, m7, m8, m9, m10, m11, m12, m13⟩, m14, m15, m16, m17, m18, m19, m20, m21, m22⟩ : Mat)) (ok.toss hs2) (m17.length : Int) with ho | ho
   ·simp only [PXb, PXc, JC, YG, Nat.reduceAdd, Int.reduceBEq, PXi, PXr, Inn.eta, A8, List.length_append, List.length_cons, List.length_nil, h304, Q5, EE, Dp, DW, Ca, Mx, Qe hN hl2, PJ hN hs, LJ (fb _ _ _) (wb _ _ _) hN hs h13, ho, wr1, wr2, Yq, YM]
    cases (BO (⟨⟨m0, m1, m2, m3, m4, m5, m6, m7, m8, m9, m10, m11, m12, m13⟩, m14, m15, m16, m17, m18, m19, m20, m21, m22⟩ : Mat).rules 1 (Ch (⟨⟨m0, m1, m2, m3, m4, m5, m6, m7, m8, m9, m10, m11, m12, m13⟩, m14, m15, m16, m17, m18, m19, m20, m21, m22⟩ : Mat) 1) m18).2 == 0 <;> try rfl
    cases (Av (⟨⟨m0, m1, m2, m3, m4, m5, m6, m7, m8, m9, m10, m11, m12, m13⟩, m14, m15, m16, m17, m18, m19, m20, m21, m22⟩ : Mat).rules (BO (⟨⟨m0, m1, m2, m3, m4, m5, m6, m7, m8, m9, m10, m11, m12, m13⟩, m14, m15, m16, m17, m18, m19, m20, m21, m22⟩ : Mat).rules 1 (Ch (⟨⟨m0, m1, m2, m3, m4, m5, m6, m7, m8, m9, m10, m11, m12, m13⟩, m14, m15, m16, m17, m18, m19, m20, m21, m22⟩ : Mat) 1) m18).1 (⟨e0, e1, e2, e3, e4, e5, e6, ⟨e7, e8, e9, e10, e11, e12, e13, e14, e15, e16, e17, e18⟩⟩ : Ev)).2 == 0 <;> rfl
   ·simp only [PXb, PXc, JC, YG, Nat.reduceAdd, Int.reduceBEq, PXi, PXr, Inn.eta, A8, List.length_append, List.length_cons, List.length_nil, h304, Q5, EE, Dp, DW, Ca, Mx, Qe hN hl2, PJ hN hs, LJ (fb _ _ _) (wb _ _ _) hN hs h13, ho, wr1, wr2, Yq, YM]
    cases (BO (⟨⟨m0, m1, m2, m3, m4, m5, m6, m7, m8, m9, m10, m11, m12, m13⟩, m14, m15, m16, m17, m18, m19, m20, m21, m22⟩ : Mat).rules 2 (Ch (⟨⟨m0, m1, m2, m3, m4, m5, m6, m7, m8, m9, m10, m11, m12, m13⟩, m14, m15, m16, m17, m18, m19, m20, m21, m22⟩ : Mat) 2) m19).2 == 0 <;> try rfl
    cases (Av (⟨⟨m0, m1, m2, m3, m4, m5, m6, m7, m8, m9, m10, m11, m12, m13⟩, m14, m15, m16, m17, m18, m19, m20, m21, m22⟩ : Mat).rules (BO (⟨⟨m0, m1, m2, m3, m4, m5, m6, m7, m8, m9, m10, m11, m12, m13⟩, m14, m15, m16, m17, m18, m19, m20, m21, m22⟩ : Mat).rules 2 (Ch (⟨⟨m0, m1, m2, m3, m4, m5, m6, m7, m8, m9, m10, m11, m12, m13⟩, m14, m15, m16, m17, m18, m19, m20, m21, m22⟩ : Mat) 2) m19).1 (⟨e0, e1, e2, e3, e4, e5, e6, ⟨e7, e8, e9, e10, e11, e12, e13, e14, e15, e16, e17, e18⟩⟩ : Ev)).2 == 0 <;> rfl
  cases hk3 : e0 == 12
  case true =>
   simp only [PXb]
   cases m14 == 4 <;> cases e1 == m15 <;> rfl
  cases hk4 : e0 == 16
  case true =>
   simp only [PXb, aw]
   cases h3 : m14 == 3
   case false => simp only [PXb, PXc, PXi, PXr, JC, Nat.reduceAdd, Co, Hj]; rfl
   simp only [PXb, PXc, PXi, PXr, JC, Nat.reduceAdd, TO (ok.begun h3) hl, Co, Hj]
   rfl
  simp only [PXb]
  cases h3 : m14 == 3
  case false => rfl
  have h0 := ok.begun h3
  have lv := RA (ok.innv (lnx m17) (Sw h0 hl)).1
  have fl : (inn m17 (IntKind.i64.wrap ((m17.length : Int) - 1)).toNat).Fit := lv.2.2
  have wl : (inn m17 (IntKind.i64.wrap ((m17.length : Int) - 1)).toNat).before.length + (inn m17 (IntKind.i64.wrap ((m17.length : Int) - 1)).toNat).bowlers.length ≤ 1000000 := by
   have h1 := lv.1
   have h2 := lv.2.1
   change (inn m17 (IntKind.i64.wrap ((m17.length : Int) - 1)).toNat).bowlers.length ≤ 11 at h1
   change (inn m17 (IntKind.i64.wrap ((m17.length : Int) - 1)).toNat).before.length ≤ 11 at h2
   omega
  have f1 := QO (SL (⟨⟨m0, m1, m2, m3, m4, m5, m6, m7, m8, m9, m10, m11, m12, m13⟩, m14, m15, m16, m17, m18, m19, m20, m21, m22⟩ : Mat).rules (inn m17 (IntKind.i64.wrap ((m17.length : Int) - 1)).toNat) (⟨e0, e1, e2, e3, e4, e5, e6, ⟨e7, e8, e9, e10, e11, e12, e13, e14, e15, e16, e17, e18⟩⟩ : Ev)) fl (by omega)
  simp only [PXb, PXc, PXi, PXr, A8, Inn.eta, JC, Nat.reduceAdd, List.length_set, TO h0 hl, Ca, LJ fl wl hN hs h13, TP, Ax, lnx]
  generalize hX : Av (⟨⟨m0, m1, m2, m3, m4, m5, m6, m7, m8, m9, m10, m11, m12, m13⟩, m14, m15, m16, m17, m18, m19, m20, m21, m22⟩ : Mat).rules (inn m17 (IntKind.i64.wrap ((m17.length : Int) - 1)).toNat) (⟨e0, e1, e2, e3, e4, e5, e6, ⟨e7, e8, e9, e10, e11, e12, e13, e14, e15, e16, e17, e18⟩⟩ : Ev) = X at f1
  have fy := Q4 (IntKind.i64.wrap ((m17.length : Int) - 1)).toNat hf f1
  generalize hy : m17.set (IntKind.i64.wrap ((m17.length : Int) - 1)).toNat X.1 = ys at fy
  have ly : ys.length = m17.length := by rw [← hy, List.length_set]
  cases X.2 == 0 <;> try rfl
  cases h13k : e0 == 13
  case false => rfl
  cases hsd : e1 == X.1.side
  case true => rfl
  simp only [PXb, Option.bind_assoc]
  have e0w : IntKind.i64.wrap ((m17.length : Int) - 1) = (m17.length : Int) - 1 - ((0 : Nat) : Int) := by
   rw [beq_eq_false_iff_ne] at h0
   rw [BD (by omega) (by omega)]; omega
  rw [e0w]
  have hside := cc (e := (⟨e0, e1, e2, e3, e4, e5, e6, ⟨e7, e8, e9, e10, e11, e12, e13, e14, e15, e16, e17, e18⟩⟩ : Ev)) he h13k
  simp only at hside
  refine Ao (RD (len := m17.length) (fun j => [.int ((m17.length : Int) - 1 - (j : Int))]) (fun j => cond ((inn ys (m17.length - 1 - j)).side == e1) (some [PV.str m0, PV.int m1, PV.int m2, PV.int m3, PV.int m4, PV.int m5, PV.int m6, PV.int m7, PV.bool m8, PV.int m9, PV.int m10, PV.int m11, PV.int m12, PV.rows m13, PV.int m14, PV.int m15, PV.bool m16, PV.rows (AZ (ys.set (m17.length - 1 - j) (Mf (inn ys (m17.length - 1 - j))))), PV.int m18, PV.int m19, PV.int m20, PV.int m21, PV.int m22]) none) ?_ ?_ m17.length 0 N (by omega) (by omega)) ?_
  ·intro self
   have q1 : iLe 0 ((m17.length : Int) - 1 - (m17.length : Int)) = false := by simp only [iLe, decide_eq_false_iff_not]; omega
   simp only [PXb, q1]
  ·intro i self hi
   have q1 : iLe 0 ((m17.length : Int) - 1 - (i : Int)) = true := by simp only [iLe, decide_eq_true_eq]; omega
   have q2 : iIn ((m17.length : Int) - 1 - (i : Int)) (m17.length : Int) = true := by simp only [iIn, decide_eq_true_eq]; omega
   have q3 : ((m17.length : Int) - 1 - (i : Int)).toNat = m17.length - 1 - i := by omega
   have q4 : IntKind.i64.wrap ((m17.length : Int) - 1 - (i : Int) - 1) = (m17.length : Int) - 1 - ((i + 1 : Nat) : Int) := by rw [BD (by omega) (by omega)]; omega
   have q5 := fy (m17.length - 1 - i) (by omega)
   simp only [PXb, PXc, q1, q2, q3, q4, GG, NM q5, PXm]
   cases (inn ys (m17.length - 1 - i)).side == e1 <;> rfl
  ·have hfa := Z2 ys e1 (fun k => [PV.str m0, PV.int m1, PV.int m2, PV.int m3, PV.int m4, PV.int m5, PV.int m6, PV.int m7, PV.bool m8, PV.int m9, PV.int m10, PV.int m11, PV.int m12, PV.rows m13, PV.int m14, PV.int m15, PV.bool m16, PV.rows (AZ (ys.set k (Mf (inn ys k)))), PV.int m18, PV.int m19, PV.int m20, PV.int m21, PV.int m22]) m17.length m17.length (Nat.le_refl _)
   rw [Nat.sub_self] at hfa
   rw [hfa]
   unfold F4
   simp only [ly]
   cases H9 ys e1 m17.length with
   | some k => rfl
   | none =>
    rcases hside with h | h <;> subst h
    ·simp only [Option.map_none, TK, PXb, PXc, JC, Int.reduceBEq, wr1, Yq]
     rfl
    ·simp only [Option.map_none, TK, PXb, PXc, JC, Int.reduceBEq, wr2, YM]
     rfl
 ·have ak := cE ok (⟨e0, e1, e2, e3, e4, e5, e6, ⟨e7, e8, e9, e10, e11, e12, e13, e14, e15, e16, e17, e18⟩⟩ : Ev)
  generalize Ae (⟨⟨m0, m1, m2, m3, m4, m5, m6, m7, m8, m9, m10, m11, m12, m13⟩, m14, m15, m16, m17, m18, m19, m20, m21, m22⟩ : Mat) (⟨e0, e1, e2, e3, e4, e5, e6, ⟨e7, e8, e9, e10, e11, e12, e13, e14, e15, e16, e17, e18⟩⟩ : Ev) = A at ak
  obtain ⟨⟨⟨a0, a1, a2, a3, a4, a5, a6, a7, a8, a9, a10, a11, a12, a13⟩, a14, a15, a16, a17, a18, a19, a20, a21, a22⟩, l⟩ := A
  obtain ⟨k1, k2, k3, k4⟩ := ak
  simp only at k1 k2 k3 k4
  have hl5 : a17.length ≤ 1048576 := by omega
  have hs5 : a0.size ≤ 1048576 := by
   have := congrArg Rul.name k1
   simp only at this
   rw [this]; exact hs
  simp only [PXb, PXc, PXk, PXi, JC, Nat.reduceAdd]
  cases hl0 : l == 0
  case false => rfl
  simp only [PXb, G5]
  cases h3 : a14 == 3
  case false => rfl
  have h0 := k4 hl0 h3
  have li := TO h0 (show a17.length ≤ 1000000 by omega)
  simp only [PXb, PXc, PXi, li]
  cases he2 : (inn a17 (IntKind.i64.wrap ((a17.length : Int) - 1)).toNat).ending == 0
  case true => simp only [PXb, Ax, lnx, he2]
  simp only [PXb, PXc, PXi, Ax, lnx, he2, Hq, D7, Gm, Ma hN hl5, Gu, V8 k2 hN (show a17.length ≤ 1000000 by omega) hs5]
  unfold Js
  simp only [Ax, lnx]
  simp only [BN, Ax, lnx]
  cases hq1 : ((a17.length : Int) == IntKind.i64.wrap (2 * a2))
  case true => rfl
  cases hq2 : ((a17.length : Int) == 3)
  case true =>
   simp only [PXb]
   cases iLt (Mb a17 (inn a17 (IntKind.i64.wrap ((a17.length : Int) - 1)).toNat).side a17.length) (Mb a17 (CH (inn a17 (IntKind.i64.wrap ((a17.length : Int) - 1)).toNat).side) a17.length)
   case true => rfl
   simp only [PXb]
   cases ((a17.length : Int) == 2) && iLt 0 a10 && iLe a10 (IntKind.i64.wrap (Mb a17 a15 a17.length - Mb a17 (CH a15) a17.length)) <;> rfl
  simp only [PXb]
  cases ((a17.length : Int) == 2) && iLt 0 a10 && iLe a10 (IntKind.i64.wrap (Mb a17 a15 a17.length - Mb a17 (CH a15) a17.length)) <;> rfl
end Go.Px
end
section
namespace Go.Px
set_option maxRecDepth 100000
theorem ZY (m : Mat) : (Js m).rules = m.rules ∧ (Js m).inns = m.inns := by
 unfold Js
 dsimp only
 cases ((m.inns.length : Int) == IntKind.i64.wrap (2 * m.rules.innings) || ((m.inns.length : Int) == 3 && iLt (BN m (Ax m).side) (BN m (CH (Ax m).side)))) with
 | true => exact ⟨rfl, rfl⟩
 | false =>
  cases ((m.inns.length : Int) == 2 && iLt 0 m.rules.followon && iLe m.rules.followon (IntKind.i64.wrap (BN m m.first - BN m (CH m.first)))) <;> exact ⟨rfl, rfl⟩
theorem Va (m : Mat) : (G5 m).rules = m.rules ∧ (G5 m).inns = m.inns := by
 unfold G5
 cases (m.stage == 3 && !((Ax m).ending == 0)) with
 | true => exact ZY m
 | false => exact ⟨rfl, rfl⟩
structure StepOk (r : Rul) (m : Mat) : Prop where
 rules : m.rules = r
 fit : Jf m.inns
 len : m.inns.length ≤ 5
theorem bZ {r : Rul} {m : Mat} (h : StepOk r m) (e : Ev) : StepOk r (HM m e).1 := by
 unfold HM
 cases hv : BM m with
 | false => exact h
 | true =>
  cases he : evS e == 0 with
  | false => exact h
  | true =>
   cases h5 : m.stage == 5 with
   | true => exact h
   | false =>
    have a := cE (QM hv) e
    cases hx : (Ae m e).2 == 0 with
    | false => exact h
    | true =>
     have k := Va (Ae m e).1
     exact ⟨k.1.trans (a.rules.trans h.rules), by show Jf (G5 _).inns; rw [k.2]; exact a.fit, by show (G5 _).inns.length ≤ 5; rw [k.2]; exact a.len⟩
theorem YW {m : Mat} {e : Ev} (h : ((HM m e).2 == 0) = true) : BM m = true ∧ (evS e == 0) = true ∧ (m.stage == 5) = false ∧ ((Ae m e).2 == 0) = true ∧ (HM m e).1 = G5 (Ae m e).1 := by
 unfold HM at h ⊢
 cases hv : BM m with
 | false => rw [hv] at h; exact absurd (show ((1 : Int) == 0) = true from h) (by decide)
 | true =>
  cases he : evS e == 0 with
  | false => rw [hv, he] at h; exact absurd (show ((1 : Int) == 0) = true from h) (by decide)
  | true =>
   cases h5 : m.stage == 5 with
   | true => rw [hv, he, h5] at h; exact absurd (show ((26 : Int) == 0) = true from h) (by decide)
   | false =>
    cases hx : (Ae m e).2 == 0 with
    | false => rw [hv, he, h5, hx] at h; exact absurd (show ((Ae m e).2 == 0) = true from h) (by rw [hx]; decide)
    | true => exact ⟨rfl, rfl, rfl, rfl, rfl⟩
end Go.Px
end
section
namespace Go.Px
set_option maxRecDepth 100000
def evR (L : Rows) (i : Nat) : Ev := ⟨atI L i 0, atI L i 1, atI L i 2, atI L i 3, atB L i 4, atI L i 5, atI L i 6, ⟨atI L i 7, atI L i 8, atI L i 9, atI L i 10, atI L i 11, atB L i 12, atI L i 13, atI L i 14, atI L i 15, atI L i 16, atB L i 17, atI L i 18⟩⟩
theorem gQ (L : Rows) (i : Nat) : (⟨atI L i 0, atI L i 1, atI L i 2, atI L i 3, atB L i 4, atI L i 5, atI L i 6, ⟨atI L i 7, atI L i 8, atI L i 9, atI L i 10, atI L i 11, atB L i 12, atI L i 13, atI L i 14, atI L i 15, atI L i 16, atB L i 17, atI L i 18⟩⟩ : Ev) = evR L i := rfl
def CX (i : Int) (m : Mat) (e : Ev) : Mat × Int := cond (iLe 4000 i) (m, 26) (HM m e)
def DP (L : Rows) : Nat → Nat → Mat → Mat × Int × Int
 | 0, _, m => (m, -1, 0)
 | k + 1, i, m => cond (!((CX i m (evR L i)).2 == 0)) (m, (i : Int), (CX i m (evR L i)).2) (DP L k (i + 1) (CX i m (evR L i)).1)
def Xr (f : Mat × Int × Int) : List PV := [.str f.1.rules.name, .int f.1.rules.side, .int f.1.rules.innings, .int f.1.rules.overs, .int f.1.rules.balls, .int f.1.rules.quota, .int f.1.rules.wide, .int f.1.rules.noball, .bool f.1.rules.freehit, .int f.1.rules.newball, .int f.1.rules.followon, .int f.1.rules.reviews, .int f.1.rules.outside, .rows f.1.rules.power, .int f.1.stage, .int f.1.first, .bool f.1.follow, .rows (AZ f.1.inns), .int f.1.pen1, .int f.1.pen2, .int f.1.win, .int f.1.wside, .int f.1.margin, .int f.2.1, .int f.2.2]
theorem Y4 (L : Rows) : ∀ k i m, ((DP L k i m).2.1 == -1) = true → (DP L k i m).2.2 = 0
 | 0, _, _, _ => rfl
 | k + 1, i, m, h => by
  unfold DP at h ⊢
  cases hq : (CX i m (evR L i)).2 == 0 with
  | false =>
   rw [hq] at h
   have := beq_iff_eq.1 (show ((i : Int) == -1) = true from h)
   omega
  | true => rw [hq] at h; exact Y4 L k (i + 1) _ h
theorem X2 {r : Rul} {m : Mat} (h : StepOk r m) (i : Int) (e : Ev) : StepOk r (CX i m e).1 := by
 unfold CX
 cases iLe 4000 i with
 | true => exact h
 | false => exact bZ h e
theorem f9 {m : Mat} {i : Int} {e : Ev} (h : ((CX i m e).2 == 0) = true) : CX i m e = HM m e ∧ iLe 4000 i = false := by
 unfold CX at h ⊢
 cases h4 : iLe 4000 i with
 | true => rw [h4] at h; exact absurd (show ((26 : Int) == 0) = true from h) (by decide)
 | false => exact ⟨rfl, rfl⟩
def OW (L : Rows) (i : Nat) (m : Mat) : List PV ⊕ Mat := cond (!((CX i m (evR L i)).2 == 0)) (.inl (.int 0 :: .int i :: .int (CX i m (evR L i)).2 :: m.ls)) (.inr (CX i m (evR L i)).1)
def bL (f : Mat × Int × Int) : List PV := cond (f.2.1 == -1) (.int 1 :: f.1.ls) (.int 0 :: .int f.2.1 :: .int f.2.2 :: f.1.ls)
theorem W3 (L : Rows) : ∀ k i m, VI (OW L) (fun m => .int 1 :: m.ls) k i m = bL (DP L k i m)
 | 0, _, _ => rfl
 | k + 1, i, m => by
  simp only [VI, OW, DP]
  cases (CX i m (evR L i)).2 == 0 with
  | false =>
   simp only [Bool.not_false, cond_true, bL]
   rw [show ((i : Int) == -1) = false from beq_false_of_ne (show (i : Int) ≠ -1 by omega)]
   rfl
  | true => exact W3 L k (i + 1) _
end Go.Px
end
section
namespace Go.Px
set_option maxRecDepth 100000
theorem X0 (L : Rows) : ∀ k i m, iLe 0 (DP L k i m).2.1 = !((DP L k i m).2.2 == 0) ∧ ((DP L k i m).2.1 == -1) = ((DP L k i m).2.2 == 0)
 | 0, _, _ => ⟨rfl, rfl⟩
 | k + 1, i, m => by
  unfold DP
  cases hq : (CX i m (evR L i)).2 == 0 with
  | false =>
   simp only [Bool.not_false, cond_true, hq]
   exact ⟨by simp only [iLe, decide_eq_true_eq]; omega, beq_false_of_ne (by omega)⟩
  | true => exact X0 L k (i + 1) _
structure LogOk (m : Mat) : Prop where
 fit : Jf m.inns
 len : m.inns.length ≤ 5
 name : m.rules.name.size ≤ 1048576
 power : m.rules.power.length ≤ 1048576
theorem ZQ : LogOk TR := ⟨fun i hi => absurd hi (Nat.not_lt_zero i), Nat.zero_le _, Nat.zero_le _, Nat.zero_le _⟩
theorem aC {r : Rul} (L : Rows) : ∀ k i m, StepOk r m → StepOk r (DP L k i m).1
 | 0, _, _, h => h
 | k + 1, i, m, h => by
  unfold DP
  cases (CX i m (evR L i)).2 == 0 with
  | false => exact h
  | true => exact aC L k (i + 1) _ (X2 h _ _)
end Go.Px
end
section
namespace Go.Px
set_option maxRecDepth 100000
def Bt (r : Rul) (n : Int) : Mat × Int := cond (!(Ap r == 0)) (TR, Ap r) (cond (!(n == 1) && !(n == 2)) (TR, 2) (⟨r, 2, n, false, [], 0, 0, 0, 0, 0⟩, 0))
theorem U1 {r : Rul} {n : Int} (h : ((Bt r n).2 == 0) = true) : StepOk r (Bt r n).1 := by
 unfold Bt at h ⊢
 cases hc : Ap r == 0 with
 | false => rw [hc] at h; exact absurd (show (Ap r == 0) = true from h) (by rw [hc]; decide)
 | true =>
  cases hn : (!(n == 1) && !(n == 2)) with
  | true => rw [hc, hn] at h; cases h
  | false => exact ⟨rfl, fun i hi => absurd hi (Nat.not_lt_zero i), Nat.zero_le _⟩
theorem Vp {N : Nat} {r1 r2 r3 r4 r5 r6 r7 r9 r10 r11 r12 : Int} {r8 : Bool} {r0 : ByteArray} {r13 : Rows} {n : Int} (hN : 2097152 < N) (hs : r0.size ≤ 1048576) (h13 : r13.length ≤ 1048576) : E9 N [.str r0, .int r1, .int r2, .int r3, .int r4, .int r5, .int r6, .int r7, .bool r8, .int r9, .int r10, .int r11, .int r12, .rows r13, .int n] = some (Ly (Bt (⟨r0, r1, r2, r3, r4, r5, r6, r7, r8, r9, r10, r11, r12, r13⟩ : Rul) n)) := by
 show HQ (std (Im N) N) (xOf _) = _
 generalize hres : (some (Ly (Bt (⟨r0, r1, r2, r3, r4, r5, r6, r7, r8, r9, r10, r11, r12, r13⟩ : Rul) n)) : Option (List PV)) = RR
 simp only [HQ, Nk, std, xOf, PXb, PXc, PXn, PXm, Nat.reduceAdd, Int.reduceBEq, Zp hN hs h13, Ly]
 subst hres
 unfold Bt ao
 cases hc : Ap (⟨r0, r1, r2, r3, r4, r5, r6, r7, r8, r9, r10, r11, r12, r13⟩ : Rul) == 0
 case false => simp only [hc, Bool.not_false, cond_true, Ly] <;> rfl
 case true => cases (!(n == 1) && !(n == 2)) <;> rfl
end Go.Px
end
section
namespace Go.Px
set_option maxRecDepth 100000
def BE (r : Rul) : Rul × Int := cond (!(Ap r == 0)) (eJ, Ap r) (⟨⟨#[83, 85, 80, 69, 82]⟩, cond (iLt r.side 3) r.side 3, 1, 1, r.balls, 0, r.wide, r.noball, r.freehit, 0, 0, r.reviews, r.outside, []⟩, 0)
def TB (x : Rul × Int) : List PV := [.str x.1.name, .int x.1.side, .int x.1.innings, .int x.1.overs, .int x.1.balls, .int x.1.quota, .int x.1.wide, .int x.1.noball, .bool x.1.freehit, .int x.1.newball, .int x.1.followon, .int x.1.reviews, .int x.1.outside, .rows x.1.power, .int x.2]
theorem M1 {N : Nat} {r1 r2 r3 r4 r5 r6 r7 r9 r10 r11 r12 : Int} {r8 : Bool} {r0 : ByteArray} {r13 : Rows} (hN : 2097152 < N) (hs : r0.size ≤ 1048576) : Bp N [.str r0, .int r1, .int r2, .int r3, .int r4, .int r5, .int r6, .int r7, .bool r8, .int r9, .int r10, .int r11, .int r12, .rows r13] = some (TB (BE (⟨r0, r1, r2, r3, r4, r5, r6, r7, r8, r9, r10, r11, r12, r13⟩ : Rul))) := by
 show Fg (std (HE N) N) (xOf _) = _
 generalize hres : (some (TB (BE (⟨r0, r1, r2, r3, r4, r5, r6, r7, r8, r9, r10, r11, r12, r13⟩ : Rul))) : Option (List PV)) = RR
 simp only [Fg, K5, std, xOf, PXb, PXc, PXn, PXm, Nat.reduceAdd, Int.reduceBEq, CP hN hs]
 subst hres; simp only [BE]
 cases Ap (⟨r0, r1, r2, r3, r4, r5, r6, r7, r8, r9, r10, r11, r12, r13⟩ : Rul) == 0 <;> rfl
end Go.Px
end
section
namespace Go.Px
set_option maxRecDepth 100000
def Cq (r : Rul) (n : Int) (L : Rows) : Mat × Int × Int :=
 cond (!((BE r).2 == 0)) (TR, 0, 1) (cond (!((Bt (BE r).1 n).2 == 0)) (TR, 0, 1) (DP L L.length 0 (Bt (BE r).1 n).1))
theorem VA (r : Rul) : (BE r).1.name.size ≤ 1048576 := by
 unfold BE
 cases Ap r == 0
 ·exact Nat.zero_le _
 ·show (5 : Nat) ≤ 1048576
  omega
theorem Tt (r : Rul) : (BE r).1.power.length ≤ 1048576 := by
 unfold BE
 cases Ap r == 0 <;> exact Nat.zero_le _
set_option maxHeartbeats 4000000 in
theorem MS {N : Nat} {r1 r2 r3 r4 r5 r6 r7 r9 r10 r11 r12 : Int} {r8 : Bool} {r0 : ByteArray} {r13 : Rows} {n : Int} {L : Rows} (hN : 2097152 < N) (hs : r0.size ≤ 1048576) (hL : L.length ≤ 1048576) : B0 N [.str r0, .int r1, .int r2, .int r3, .int r4, .int r5, .int r6, .int r7, .bool r8, .int r9, .int r10, .int r11, .int r12, .rows r13, .int n, .rows L] = some (Xr (Cq (⟨r0, r1, r2, r3, r4, r5, r6, r7, r8, r9, r10, r11, r12, r13⟩ : Rul) n L)) := by
  show Ew (std (Cb N) N) (xOf _) = _
  generalize hres : (some (Xr (Cq (⟨r0, r1, r2, r3, r4, r5, r6, r7, r8, r9, r10, r11, r12, r13⟩ : Rul) n L)) : Option (List PV)) = RR
  simp only [Ew, Ip, ED, FV, std, xOf, PXb, M1 hN hs]
  subst hres; simp only [Cq]
  cases h1 : (BE (⟨r0, r1, r2, r3, r4, r5, r6, r7, r8, r9, r10, r11, r12, r13⟩ : Rul)).2 == 0
  case false => simp only [TB, PXb, PXc, h1]; rfl
  have sn := VA (⟨r0, r1, r2, r3, r4, r5, r6, r7, r8, r9, r10, r11, r12, r13⟩ : Rul)
  have sp := Tt (⟨r0, r1, r2, r3, r4, r5, r6, r7, r8, r9, r10, r11, r12, r13⟩ : Rul)
  simp only [TB, PXb, PXc, h1, Nat.reduceAdd, ED, Vp hN sn sp, Ly]
  cases h2 : (Bt (BE (⟨r0, r1, r2, r3, r4, r5, r6, r7, r8, r9, r10, r11, r12, r13⟩ : Rul)).1 n).2 == 0
  case false => rfl
  have ok := U1 h2
  generalize Bt (BE (⟨r0, r1, r2, r3, r4, r5, r6, r7, r8, r9, r10, r11, r12, r13⟩ : Rul)).1 n = X at *
  generalize (BE (⟨r0, r1, r2, r3, r4, r5, r6, r7, r8, r9, r10, r11, r12, r13⟩ : Rul)).1 = Q at *
  obtain ⟨m, l⟩ := X
  simp only at ok
  simp only [PXb, Nat.reduceAdd]
  refine Ao (XI (St := Mat) (len := L.length) (enc := fun i m => [.int (i : Int), .str m.rules.name, .int m.rules.side, .int m.rules.innings, .int m.rules.overs, .int m.rules.balls, .int m.rules.quota, .int m.rules.wide, .int m.rules.noball, .bool m.rules.freehit, .int m.rules.newball, .int m.rules.followon, .int m.rules.reviews, .int m.rules.outside, .rows m.rules.power, .int m.stage, .int m.first, .bool m.follow, .rows (AZ m.inns), .int m.pen1, .int m.pen2, .int m.win, .int m.wside, .int m.margin])
    (body := OW L) (fin := fun m => .int 1 :: m.ls) (fun _ m => StepOk Q m) ?_ ?_ L.length 0 m N (by omega) (by omega) ok) ?_
  · intro m self _
    simp only [PXb, PXc, PXn, AJ, CF]
    rfl
  · intro i m self hi ok
    have o1 := ok.rules
    have o2 := ok.fit
    have o3 := ok.len
    have kp := X2 ok (i : Int) (evR L i)
    refine ⟨?_, ?_⟩
    · simp only [PXb, PXc, PXn, AJ, A0 (show i ≤ 1099511627776 by omega), Bf hi, A1 hi, FV, Y5 hN o2 (show m.inns.length ≤ 1000000 by omega) (show m.rules.name.size ≤ 1048576 by rw [o1]; exact sn) (show m.rules.power.length ≤ 1048576 by rw [o1]; exact sp), DM, ew, Nat.reduceAdd, PXk, PXc, gQ]
      unfold OW CX
      cases iLe 4000 (i : Int)
      case true => rfl
      simp only [cond_false]
      cases (HM m (evR L i)).2 == 0 <;> rfl
    · intro s' h
      unfold OW at h
      cases hq : (CX (i : Int) m (evR L i)).2 == 0 with
      | false => rw [hq] at h; cases h
      | true => rw [hq] at h; cases h; exact kp
  · rw [W3]
    have he := Y4 L L.length 0 m
    generalize DP L L.length 0 m = f at he
    obtain ⟨m2, b, l⟩ := f
    simp only at he
    unfold bL
    cases hb : b == -1 with
    | false => rfl
    | true =>
      rw [he hb, beq_iff_eq.1 hb]
      rfl
theorem eV (r : Rul) (n : Int) (L : Rows) : iLe 0 (Cq r n L).2.1 = !((Cq r n L).2.2 == 0) := by
 unfold Cq
 cases (BE r).2 == 0
 ·rfl
 ·cases (Bt (BE r).1 n).2 == 0
  ·rfl
  ·exact (X0 L L.length 0 _).1
theorem fu (r : Rul) (n : Int) (L : Rows) : LogOk (Cq r n L).1 := by
 unfold Cq
 cases (BE r).2 == 0
 ·exact ZQ
 ·cases h : (Bt (BE r).1 n).2 == 0
  ·exact ZQ
  ·have := aC L L.length 0 _ (U1 h)
   exact ⟨this.fit, this.len, by show (DP _ _ _ _).1.rules.name.size ≤ _; rw [this.rules]; exact VA r, by show (DP _ _ _ _).1.rules.power.length ≤ _; rw [this.rules]; exact Tt r⟩
theorem XS {N : Nat} {r1 r2 r3 r4 r5 r6 r7 r9 r10 r11 r12 : Int} {r8 : Bool} {r0 : ByteArray} {r13 : Rows}  : Gt N [.str r0, .int r1, .int r2, .int r3, .int r4, .int r5, .int r6, .int r7, .bool r8, .int r9, .int r10, .int r11, .int r12, .rows r13] = some (H5 (⟨r0, r1, r2, r3, r4, r5, r6, r7, r8, r9, r10, r11, r12, r13⟩ : Rul)).ls := by
 show Gy (std (E5 N) N) (xOf _) = _
 simp only [Gy, std, xOf, PXb, PXc, PXn, PXm, Nat.reduceAdd, Int.reduceBEq, al (show (0 : Int) ≤ 20 by omega), al (show (0 : Int) ≤ 10 by omega)]
 rfl
end Go.Px
end
section
namespace Go.Px
set_option maxRecDepth 100000
def Qy (xs : List Rows) : Rows := xs.map fun x => [.rows x]
theorem dc (xs : List Rows) : (Qy xs).length = xs.length := List.length_map _
theorem gb (xs : List Rows) (i : Nat) : pvL (AF (Qy xs) i 0) = xs.getD i [] := by
 unfold AF Aa Qy
 rw [List.getD_eq_getElem?_getD, List.getD_eq_getElem?_getD, List.getElem?_map]
 cases xs[i]? <;> rfl
theorem PXl : (∀ xs : List Rows, (Qy xs).length = xs.length) ∧ (∀ (xs : List Rows) (i : Nat), pvL (AF (Qy xs) i 0) = xs.getD i []) ∧ (∀ (xs : List Rows) (x : Rows), Qy xs ++ [[.rows x]] = Qy (xs ++ [x])) := ⟨dc, gb, fun xs x => by
 show List.map _ xs ++ List.map (fun x => [PV.rows x]) [x] = List.map _ (xs ++ [x])
 exact List.map_append.symm⟩
def TH (f : Int) (i : Nat) : Int := cond ((i : Int).tmod 2 == 1) (IntKind.i64.wrap (3 - f)) f
theorem bu {f : Int} (hf : f = 1 ∨ f = 2) (i : Nat) : IntKind.i64.wrap (3 - TH f i) = TH f (i + 1) := by
 have hm : ((i : Int).tmod 2 = 0 ∧ ((i + 1 : Nat) : Int).tmod 2 = 1) ∨ ((i : Int).tmod 2 = 1 ∧ ((i + 1 : Nat) : Int).tmod 2 = 0) := by
  have e : ∀ j : Nat, (j : Int).tmod 2 = ((j % 2 : Nat) : Int) := fun j => rfl
  rw [e, e]
  omega
 unfold TH
 rcases hm with ⟨h1, h2⟩ | ⟨h1, h2⟩ <;> rw [h1, h2] <;> rcases hf with h | h <;> subst h <;> rfl
def Ul (r : Rul) (f : Int) (xs : List Rows) (i : Nat) : Option (Int × Int × Int) :=
 let m := Cq r (TH f i) (xs.getD i [])
 cond (!(m.2.2 == 0)) (some (0, 0, 10)) (cond (!(m.1.stage == 5) || m.1.win == 6) (some (0, 0, 11)) (cond (m.1.wside == 0) none (cond (iLt ((i + 1 : Nat) : Int) (xs.length : Int)) (some (0, 0, 1)) (some (m.1.wside, ((i + 1 : Nat) : Int), 0)))))
def YU (x : Int × Int × Int) : List PV := [.int x.1, .int x.2.1, .int x.2.2]
def O3 (g : Nat → Option (Int × Int × Int)) : Nat → Nat → Option (Int × Int × Int)
 | 0, _ => none
 | k + 1, i => match g i with
  | some x => some x
  | none => O3 g k (i + 1)
theorem Z1 (g : Nat → Option (Int × Int × Int)) : ∀ k i, Bi (fun i => (g i).map YU) k i = (O3 g k i).map YU
 | 0, _ => rfl
 | k + 1, i => by
  simp only [Bi, O3]
  cases g i with
  | some x => rfl
  | none => exact Z1 g k (i + 1)
def aq (r : Rul) (f : Int) (xs : List Rows) : Int × Int × Int :=
 cond (!((BE r).2 == 0)) (0, 0, (BE r).2) (cond (!(f == 1) && !(f == 2)) (0, 0, 2) (cond (iLt 8 (xs.length : Int)) (0, 0, 9) ((O3 (Ul r f xs) xs.length 0).getD (0, 0, 6))))
set_option maxHeartbeats 4000000 in
theorem SM {N : Nat} {r1 r2 r3 r4 r5 r6 r7 r9 r10 r11 r12 : Int} {r8 : Bool} {r0 : ByteArray} {r13 : Rows} {n : Int} {xs : List Rows} (hN : 2097152 < N) (hs : r0.size ≤ 1048576) (hx : ∀ i, (xs.getD i []).length ≤ 1048576) : CY N [.str r0, .int r1, .int r2, .int r3, .int r4, .int r5, .int r6, .int r7, .bool r8, .int r9, .int r10, .int r11, .int r12, .rows r13, .int n, .rows (Qy xs)] = some (YU (aq (⟨r0, r1, r2, r3, r4, r5, r6, r7, r8, r9, r10, r11, r12, r13⟩ : Rul) n xs)) := by
 show FL (std (Dt N) N) (xOf _) = _
 simp only [FL, DS, Il, std, xOf, PXb, PXl, M1 hN hs]
 unfold aq
 cases h1 : (BE (⟨r0, r1, r2, r3, r4, r5, r6, r7, r8, r9, r10, r11, r12, r13⟩ : Rul)).2 == 0
 case false => simp only [TB, PXb, PXc, h1]; rfl
 simp only [TB, PXb, PXc, h1]
 cases hn : (!(n == 1) && !(n == 2))
 case true => rfl
 have hf : n = 1 ∨ n = 2 := by
  cases h1 : n == 1 with
  | true => exact Or.inl (beq_iff_eq.1 h1)
  | false =>
   rw [h1] at hn
   cases h2 : n == 2 with
   | true => exact Or.inr (beq_iff_eq.1 h2)
   | false => rw [h2] at hn; cases hn
 cases h8 : iLt 8 (xs.length : Int)
 case true => rfl
 have hl : xs.length ≤ 8 := by simp only [iLt, decide_eq_false_iff_not] at h8; omega
 simp only [PXb, Nat.reduceAdd]
 refine Ao (RD (len := xs.length) (fun i => [.int (TH n i), .int (i : Int)]) (fun i => (Ul (⟨r0, r1, r2, r3, r4, r5, r6, r7, r8, r9, r10, r11, r12, r13⟩ : Rul) n xs i).map YU) ?_ ?_ xs.length 0 N (by omega) (by omega)) ?_
 ·intro self
  simp only [PXb, PXc, PXn, AJ, CF]
 ·intro i self hi
  simp only [PXb, PXc, PXn, AJ, A0 (show i ≤ 1099511627776 by omega), Bf hi, A1 hi, PXl, DS, MS hN hs (hx i), Xr, PXc, Nat.reduceAdd, bu hf i]
  unfold Ul
  have e : ((i + 1 : Nat) : Int) = (i : Int) + 1 := rfl
  simp only [e]
  generalize Cq (⟨r0, r1, r2, r3, r4, r5, r6, r7, r8, r9, r10, r11, r12, r13⟩ : Rul) _ (xs.getD i []) = M
  cases M.2.2 == 0 <;> try rfl
  cases (!(M.1.stage == 5) || M.1.win == 6) <;> try rfl
  cases M.1.wside == 0 <;> try rfl
  cases iLt ((i : Int) + 1) (xs.length : Int) <;> rfl
 ·rw [Z1]
  cases O3 (Ul (⟨r0, r1, r2, r3, r4, r5, r6, r7, r8, r9, r10, r11, r12, r13⟩ : Rul) n xs) xs.length 0 <;> rfl
end Go.Px
end
section
namespace Go.Px
set_option maxRecDepth 100000
structure Bd (K : Int) (s : Inn) : Prop where
 target : s.target ≤ K
 runs : s.runs ≤ K
 wides : s.wides ≤ K
 noballs : s.noballs ≤ K
 byes : s.byes ≤ K
 legbyes : s.legbyes ≤ K
 pens : s.pens ≤ K
 complete : s.complete ≤ K
 ballage : s.ballage ≤ K
 rev1 : s.rev1 ≤ K
 rev2 : s.rev2 ≤ K
 bowled : ∀ j, j < s.bowled.length → atI s.bowled j 0 ≤ K
theorem Bd.small {K : Int} {s : Inn} (h : Bd K s) (hK : K ≤ 999999900) : Small s :=
 ⟨Int.le_trans h.target hK, Int.le_trans h.runs hK, Int.le_trans h.wides hK, Int.le_trans h.noballs hK, Int.le_trans h.byes hK, Int.le_trans h.legbyes hK, Int.le_trans h.pens hK, Int.le_trans h.complete hK, Int.le_trans h.ballage hK, Int.le_trans h.rev1 hK, Int.le_trans h.rev2 hK, fun j hj => Int.le_trans (h.bowled j hj) hK⟩
theorem Bd.up {K M : Int} {s : Inn} (h : Bd K s) (hK : K ≤ M) : Bd M s :=
 ⟨Int.le_trans h.target hK, Int.le_trans h.runs hK, Int.le_trans h.wides hK, Int.le_trans h.noballs hK, Int.le_trans h.byes hK, Int.le_trans h.legbyes hK, Int.le_trans h.pens hK, Int.le_trans h.complete hK, Int.le_trans h.ballage hK, Int.le_trans h.rev1 hK, Int.le_trans h.rev2 hK, fun j hj => Int.le_trans (h.bowled j hj) hK⟩
def OI (s : Inn) : List Int × Rows := ([s.target, s.runs, s.wides, s.noballs, s.byes, s.legbyes, s.pens, s.complete, s.ballage, s.rev1, s.rev2], s.bowled)
theorem Bd.key {K : Int} {s t : Inn} (h : Bd K s) (e : OI t = OI s) : Bd K t := by
 unfold OI at e
 simp only [Prod.mk.injEq, List.cons.injEq, and_true] at e
 obtain ⟨⟨e1, e2, e3, e4, e5, e6, e7, e8, e9, e10, e11⟩, e12⟩ := e
 exact ⟨e1 ▸ h.target, e2 ▸ h.runs, e3 ▸ h.wides, e4 ▸ h.noballs, e5 ▸ h.byes, e6 ▸ h.legbyes, e7 ▸ h.pens, e8 ▸ h.complete, e9 ▸ h.ballage, e10 ▸ h.rev1, e11 ▸ h.rev2, e12 ▸ h.bowled⟩
def Gk (K sd : Int) (x : Inn × Int) : Prop := (x.2 == 0) = true → Bd (K + 100) x.1 ∧ Shp x.1.batters ∧ x.1.side = sd
theorem G_c {K sd : Int} (b : Bool) (x y : Inn × Int) (hx : Gk K sd x) (hy : Gk K sd y) : Gk K sd (cond b x y) := by cases b <;> assumption
theorem G_s {K : Int} {s t : Inn} {n : Int} (h : Bd K s) (e : OI t = OI s) (hs : Shp t.batters) (hd : t.side = s.side) : Gk K s.side (t, n) := fun _ => ⟨(h.key e).up (by omega), hs, hd⟩
theorem SD {x K : Int} (h : Ar x) (hk : x ≤ K) : inc x ≤ K + 100 ∧ inc x = x + 1 := by
 unfold Ar at h
 unfold inc
 rw [BD (by omega) (by omega)]
 omega
theorem ML {x y K : Int} (h : Ar x) (hk : x ≤ K) (h0 : 0 ≤ y) (hy : y ≤ 100) : IntKind.i64.wrap (x + y) ≤ K + 100 := by
 unfold Ar at h
 rw [BD (by omega) (by omega)]
 omega
theorem eK {K : Int} {r : Rul} {s : Inn} {n : Int} (ok : InnOk r s) (h : Bd K s) (hs : Shp s.batters) : Gk K s.side (Mf s, n) := fun _ => by
 have u := h.up (show K ≤ K + 100 by omega)
 exact ⟨{ u with runs := ML ok.runs h.runs (by omega) (by omega), pens := ML ok.pens h.pens (by omega) (by omega) }, hs, rfl⟩
theorem fJ (s : Inn) (d : Del) : OI (Aw s d) = OI s ∧ (Shp s.batters → Shp (Aw s d).batters) ∧ (Aw s d).side = s.side := by
 have hb : ∀ (b : Bool) (p : Int), Shp s.batters → Shp (cond b (Am s.batters p 2) s.batters) := fun b p h => by
  cases b
  ·exact h
  ·exact IU h
 unfold Aw
 cases (!(d.runs.tmod 2 == 0) != d.crossed) <;> exact P_c (P := fun x : Inn => OI x = OI s ∧ (Shp s.batters → Shp x.batters) ∧ x.side = s.side) _ _ _ ⟨rfl, hb _ _, rfl⟩ (P_c (P := fun x : Inn => OI x = OI s ∧ (Shp s.batters → Shp x.batters) ∧ x.side = s.side) _ _ _ ⟨rfl, hb _ _, rfl⟩ ⟨rfl, fun h => h, rfl⟩)
theorem fm {K : Int} {r : Rul} {s : Inn} (c : Bool) (h : Bd K s) (hb : inR s.bowler s.bowled.length = true) (hl : s.bowled.length ≤ 1048576) (h1 : Ar s.complete) (h2 : Ar s.ballage) (h3 : ∀ j, j < s.bowled.length → Ar (atI s.bowled j 0)) : Bd (K + 100) (B6 r s c).1 ∧ (B6 r s c).1.batters = s.batters ∧ (B6 r s c).1.side = s.side := by
 have u := h.up (show K ≤ K + 100 by omega)
 have hx := (PB hb hl).2
 have hd : ∀ j, j < (cond c (Am s.bowled s.bowler (inc (atI s.bowled (ix s.bowler) 0))) s.bowled).length → atI (cond c (Am s.bowled s.bowler (inc (atI s.bowled (ix s.bowler) 0))) s.bowled) j 0 ≤ K + 100 := by
  cases c with
  | false => exact u.bowled
  | true =>
   intro j hj
   rw [cond_true, BU] at hj
   rcases Vf s.bowled s.bowler (inc (atI s.bowled (ix s.bowler) 0)) j with e | e
   ·rw [cond_true, e]; exact (SD (h3 _ hx) (h.bowled _ hx)).1
   ·rw [cond_true, e]; exact u.bowled j hj
 have ha : cond c (inc s.ballage) s.ballage ≤ K + 100 := by
  cases c
  ·exact u.ballage
  ·exact (SD h2 h.ballage).1
 unfold B6
 cases (!inR s.bowler s.bowled.length || !(Ap r == 0)) with
 | true => exact ⟨u, rfl, rfl⟩
 | false =>
  simp only [cond_false]
  cases iLt (cond c (inc s.inover) s.inover) r.balls with
  | true => exact ⟨{ u with ballage := ha, bowled := hd }, rfl, rfl⟩
  | false => exact ⟨{ u with ballage := ha, bowled := hd, complete := (SD h1 h.complete).1 }, rfl, rfl⟩
theorem fg {K : Int} {r : Rul} {s : Inn} {d : Del} (ok : InnOk r s) (h : Bd K s) (hs : Shp s.batters) : Gk K s.side (Lu r s d) := by
 intro hl
 obtain ⟨hr, hb⟩ := aN hl
 obtain ⟨q1, q2, q3, q4, q5, q6⟩ := XJ hr
 have rk := F8 ok.code
 obtain ⟨c1, c2, c3, c4, c5⟩ := XH (d := d) rk q4
 obtain ⟨f1, f2, f3⟩ := fJ s d
 obtain ⟨k1, k2, k3, k4, k5, k6, k7, k8, k9, k10⟩ := Up s d
 have hsd := GA ok
 have hld := ok.ld
 have h3 : ∀ j, j < s.bowled.length → Ar (atI s.bowled j 0) := fun j hj => by
  have := ok.bowled
  unfold FU at this
  rw [Bw] at this
  exact TT.1 (this j (by omega) (by omega))
 have hage : (Aw s d).ballage = s.ballage := by
  have := congrArg (fun x : List Int × Rows => x.1.getD 8 0) f1
  exact this
 have o := fm (K := K) (r := r) (s := Aw s d) (Ad r d).counts (h.key f1) (by rw [k9, k10]; exact W0 ok q2) (by rw [k10]; omega) (by rw [k7]; exact ok.complete) (by rw [hage]; exact ok.ballage) (by rw [k10]; exact h3)
 have hc : ∀ x : Inn × Bool, Bd (K + 100) x.1 → Bd (K + 100) (cond x.2 (II x.1) x.1) ∧ (cond x.2 (II x.1) x.1).batters = x.1.batters ∧ (cond x.2 (II x.1) x.1).side = x.1.side := fun x hx => by
  obtain ⟨x, b⟩ := x
  cases b
  ·exact ⟨hx, rfl, rfl⟩
  ·exact ⟨hx.key rfl, rfl, rfl⟩
 obtain ⟨o1, o2, o3⟩ := hc _ o.1
 rw [hb]
 refine ⟨⟨o1.target, ML ok.runs h.runs c5.1 (by omega), ML ok.wides h.wides c1.1 (by omega), ML ok.noballs h.noballs c2.1 (by omega), ML ok.byes h.byes c3.1 (by omega), ML ok.legbyes h.legbyes c4.1 (by omega), o1.pens, o1.complete, o1.ballage, o1.rev1, o1.rev2, o1.bowled⟩, ?_, ?_⟩
 ·show Shp (cond (B6 r (Aw s d) (Ad r d).counts).2 (II (B6 r (Aw s d) (Ad r d).counts).1) (B6 r (Aw s d) (Ad r d).counts).1).batters
  rw [o2, o.2.1]
  exact f2 hs
 ·show (cond (B6 r (Aw s d) (Ad r d).counts).2 (II (B6 r (Aw s d) (Ad r d).counts).1) (B6 r (Aw s d) (Ad r d).counts).1).side = _
  rw [o3, o.2.2, f3]
theorem cD {K : Int} {r : Rul} {s : Inn} {e : Ev} (ok : InnOk r s) (h : Bd K s) (hs : Shp s.batters) (hK : 1000000 ≤ K) (he : (evS e == 0) = true) (hw : (e.kind == 1 || e.kind == 12 || e.kind == 16) = false) : Gk K s.side (CS r s e) := by
 have z : ∀ n : Int, Gk K s.side (s, n) := fun n => G_s h rfl hs rfl
 have hr := XD he
 have u := h.up (show K ≤ K + 100 by omega)
 have hk := QP (Nr he)
 unfold CS
 rcases hk with hk | hk | hk | hk | hk | hk | hk | hk | hk | hk | hk | hk | hk | hk | hk | hk <;> rw [hk] at hw ⊢
 ·cases hw
 ·show Gk K s.side (KS s e.player e.other)
  unfold KS
  exact G_c _ _ _ (z _) (G_c _ _ _ (z _) (G_c _ _ _ (z _) (G_s h rfl (IU (IU hs)) rfl)))
 ·show Gk K s.side (Kp r s e.player)
  unfold Kp
  cases IQ r s e.player == 0
  ·exact z _
  ·exact G_s h rfl hs rfl
 ·exact fg ok h hs
 ·show Gk K s.side (cond e.yes (DY s e.player) (Gz s e.player))
  cases e.yes
  ·show Gk K s.side (Gz s e.player)
   unfold Gz
   exact G_c _ _ _ (G_s h rfl (IU hs) rfl) (z _)
  ·show Gk K s.side (DY s e.player)
   unfold DY
   exact G_c _ _ _ (G_s h rfl (IU hs) rfl) (z _)
 ·show Gk K s.side (DH s e.player e.yes)
  unfold DH
  exact G_c _ _ _ (z _) (G_c _ _ _ (z _) (G_c _ _ _ (z _) (G_c _ _ _ (z _) (G_s h rfl (IU hs) rfl))))
 ·show Gk K s.side (D2 s e.runs)
  unfold D2
  exact G_c _ _ _ (z _) (G_s h rfl hs rfl)
 ·show Gk K s.side (GH s e.player)
  unfold GH
  exact G_c _ _ _ (z _) (G_c _ _ _ (z _) (G_c _ _ _ (z _) (G_s h rfl hs rfl)))
 ·show Gk K s.side (H0 s e.player e.yes)
  unfold H0
  exact G_c _ _ _ (z _) (G_c _ _ _ (z _) (G_s h rfl hs rfl))
 ·show Gk K s.side (EL r s)
  unfold EL
  exact G_c _ _ _ (z _) fun _ => ⟨{ u with ballage := show (0 : Int) ≤ K + 100 by omega }, hs, rfl⟩
 ·show Gk K s.side (D5 r s e.side)
  unfold D5
  exact G_c _ _ _ (z _) (G_c _ _ _ (z _) (G_s h rfl hs rfl))
 ·cases hw
 ·show Gk K s.side (EM s e.side e.runs)
  unfold EM
  refine G_c _ _ _ (z _) (G_c _ _ _ (eK ok h hs) fun _ => ⟨{ u with target := ?_ }, hs, rfl⟩)
  show cond (iLt 0 s.target) (IntKind.i64.wrap (s.target + 5)) s.target ≤ K + 100
  cases iLt 0 s.target
  ·exact u.target
  ·exact ML ok.target h.target (by omega) (by omega)
 ·show Gk K s.side (Ej r s e.side e.yes)
  unfold Ej
  refine G_c _ _ _ (z _) (G_c _ _ _ (fun _ => ⟨{ u with rev1 := ?_, rev2 := ?_ }, hs, rfl⟩) (z _))
  ·show cond (e.side == 1) (inc s.rev1) s.rev1 ≤ K + 100
   cases e.side == 1
   ·exact u.rev1
   ·exact (SD ok.rev1 h.rev1).1
  ·show cond (e.side == 2) (inc s.rev2) s.rev2 ≤ K + 100
   cases e.side == 2
   ·exact u.rev2
   ·exact (SD ok.rev2 h.rev2).1
 ·show Gk K s.side (Fy r s e.runs e.overs)
  unfold Fy
  refine G_c _ _ _ (z _) (G_c _ _ _ (z _) (G_c _ _ _ (z _) fun _ => ⟨{ u with target := ?_ }, hs, rfl⟩))
  show cond (iLt 0 e.runs) e.runs s.target ≤ K + 100
  cases iLt 0 e.runs
  ·exact u.target
  ·have := (hr hk).1
   show e.runs ≤ K + 100
   omega
 ·cases hw
theorem Y6 {K : Int} {r : Rul} {s : Inn} {e : Ev} (hl : ((Av r s e).2 == 0) = true) (h : Bd K s) (hs : Shp s.batters) (hK : 1000000 ≤ K) : Bd (K + 100) (Av r s e).1 ∧ Shp (Av r s e).1.batters ∧ (Av r s e).1.side = s.side := by
 obtain ⟨hv, he, hn, hw, hp, hst⟩ := aP hl
 have ok := Ju.1 hv
 have hw' : (e.kind == 1 || e.kind == 12 || e.kind == 16) = false := by
  unfold PC at hw
  rw [Bool.or_eq_false_iff] at hw
  exact hw.1
 obtain ⟨g1, g2, g3⟩ := cD ok h hs hK he hw' hp
 rw [hst]
 exact ⟨g1.key rfl, g2, g3⟩
structure MI (K P : Int) (m : Mat) : Prop where
 inn : ∀ i, i < m.inns.length → Bd K (inn m.inns i) ∧ Shp (inn m.inns i).batters
 p1 : m.pen1 ≤ P
 p2 : m.pen2 ≤ P
theorem aI {m : Mat} (h : BM m = true) : (0 ≤ m.pen1 ∧ m.pen1 ≤ 1000000) ∧ 0 ≤ m.pen2 ∧ m.pen2 ≤ 1000000 := by
 unfold BM Q8 at h
 simp only [Bool.and_eq_true, Bool.not_eq_true'] at h
 have hp := h.1.2.2.2.1
 unfold P8 at hp
 simp only [Bool.or_eq_false_iff, iLt, decide_eq_false_iff_not] at hp
 omega
end Go.Px
end
