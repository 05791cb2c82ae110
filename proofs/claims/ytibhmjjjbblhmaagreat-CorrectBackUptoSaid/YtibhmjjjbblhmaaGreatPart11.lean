/- Part 11. -/
import Derived.Test.YtibhmjjjbblhmaaGreatPart07
import Derived.Test.YtibhmjjjbblhmaaGreatPart10
set_option linter.unusedVariables false
set_option linter.unusedSimpArgs false
section
namespace Go.Px
def AR (xs : List Inn) : Rows := xs.map Inn.ls
def dI : Inn := ⟨0, 0, 0, 0, 0, 0, 0, 0, 0, 0, 0, 0, 0, 0, [], 0, [], [], false, [], false, 0, 0, 0, [], 0, 0, 0⟩
def inn (xs : List Inn) (i : Nat) : Inn := xs.getD i dI
structure Mat where
 rules : Rul
 stage : Int
 first : Int
 follow : Bool
 inns : List Inn
 pen1 : Int
 pen2 : Int
 win : Int
 wside : Int
 margin : Int
def Mat.ls (m : Mat) : List PV := [.str m.rules.name, .int m.rules.side, .int m.rules.innings, .int m.rules.overs, .int m.rules.balls, .int m.rules.quota, .int m.rules.wide, .int m.rules.noball, .bool m.rules.freehit, .int m.rules.newball, .int m.rules.followon, .int m.rules.reviews, .int m.rules.outside, .rows m.rules.power, .int m.stage, .int m.first, .bool m.follow, .rows (AR m.inns), .int m.pen1, .int m.pen2, .int m.win, .int m.wside, .int m.margin]
def Om (x : Mat × Int) : List PV := [.str x.1.rules.name, .int x.1.rules.side, .int x.1.rules.innings, .int x.1.rules.overs, .int x.1.rules.balls, .int x.1.rules.quota, .int x.1.rules.wide, .int x.1.rules.noball, .bool x.1.rules.freehit, .int x.1.rules.newball, .int x.1.rules.followon, .int x.1.rules.reviews, .int x.1.rules.outside, .rows x.1.rules.power, .int x.1.stage, .int x.1.first, .bool x.1.follow, .rows (AR x.1.inns), .int x.1.pen1, .int x.1.pen2, .int x.1.win, .int x.1.wside, .int x.1.margin, .int x.2]
theorem Yx (xs : List Inn) (i : Nat) : Ax (AR xs) i = (match xs[i]? with | some s => s.ls | none => []) := by
 unfold Ax AR
 rw [List.getD_eq_getElem?_getD, List.getElem?_map]
 cases xs[i]? <;> rfl
theorem Pt (xs : List Inn) (i : Nat) : inn xs i = (match xs[i]? with | some s => s | none => dI) := by
 unfold inn
 rw [List.getD_eq_getElem?_getD]
 cases xs[i]? <;> rfl
theorem W9 (xs : List Inn) : (AR xs).length = xs.length := List.length_map _
theorem PXi : (∀ xs : List Inn, (AR xs).length = xs.length) ∧ (∀ (xs : List Inn) (i : Nat), pvI (AJ (AR xs) i 0) = (inn xs i).side) ∧ (∀ (xs : List Inn) (i : Nat), pvI (AJ (AR xs) i 1) = (inn xs i).target) ∧ (∀ (xs : List Inn) (i : Nat), pvI (AJ (AR xs) i 2) = (inn xs i).overs) ∧ (∀ (xs : List Inn) (i : Nat), pvI (AJ (AR xs) i 3) = (inn xs i).runs) ∧
    (∀ (xs : List Inn) (i : Nat), pvI (AJ (AR xs) i 4) = (inn xs i).wickets) ∧ (∀ (xs : List Inn) (i : Nat), pvI (AJ (AR xs) i 5) = (inn xs i).wides) ∧ (∀ (xs : List Inn) (i : Nat), pvI (AJ (AR xs) i 6) = (inn xs i).noballs) ∧ (∀ (xs : List Inn) (i : Nat), pvI (AJ (AR xs) i 7) = (inn xs i).byes) ∧ (∀ (xs : List Inn) (i : Nat), pvI (AJ (AR xs) i 8) = (inn xs i).legbyes) ∧
    (∀ (xs : List Inn) (i : Nat), pvI (AJ (AR xs) i 9) = (inn xs i).pens) ∧ (∀ (xs : List Inn) (i : Nat), pvI (AJ (AR xs) i 10) = (inn xs i).complete) ∧ (∀ (xs : List Inn) (i : Nat), pvI (AJ (AR xs) i 11) = (inn xs i).inover) ∧ (∀ (xs : List Inn) (i : Nat), pvI (AJ (AR xs) i 12) = (inn xs i).striker) ∧ (∀ (xs : List Inn) (i : Nat), pvI (AJ (AR xs) i 13) = (inn xs i).other) ∧
    (∀ (xs : List Inn) (i : Nat), pvL (AJ (AR xs) i 14) = (inn xs i).batters) ∧ (∀ (xs : List Inn) (i : Nat), pvI (AJ (AR xs) i 15) = (inn xs i).bowler) ∧ (∀ (xs : List Inn) (i : Nat), pvL (AJ (AR xs) i 16) = (inn xs i).bowlers) ∧ (∀ (xs : List Inn) (i : Nat), pvL (AJ (AR xs) i 17) = (inn xs i).before) ∧ (∀ (xs : List Inn) (i : Nat), pvB (AJ (AR xs) i 18) = (inn xs i).fresh) ∧
    (∀ (xs : List Inn) (i : Nat), pvL (AJ (AR xs) i 19) = (inn xs i).bowled) ∧ (∀ (xs : List Inn) (i : Nat), pvB (AJ (AR xs) i 20) = (inn xs i).freehit) ∧ (∀ (xs : List Inn) (i : Nat), pvI (AJ (AR xs) i 21) = (inn xs i).ballage) ∧ (∀ (xs : List Inn) (i : Nat), pvI (AJ (AR xs) i 22) = (inn xs i).keeper) ∧ (∀ (xs : List Inn) (i : Nat), pvI (AJ (AR xs) i 23) = (inn xs i).outside) ∧
    (∀ (xs : List Inn) (i : Nat), pvL (AJ (AR xs) i 24) = (inn xs i).subs) ∧ (∀ (xs : List Inn) (i : Nat), pvI (AJ (AR xs) i 25) = (inn xs i).rev1) ∧ (∀ (xs : List Inn) (i : Nat), pvI (AJ (AR xs) i 26) = (inn xs i).rev2) ∧ (∀ (xs : List Inn) (i : Nat), pvI (AJ (AR xs) i 27) = (inn xs i).ending) := by
  refine ⟨W9, ?_, ?_, ?_, ?_, ?_, ?_, ?_, ?_, ?_, ?_, ?_, ?_, ?_, ?_, ?_, ?_, ?_, ?_, ?_, ?_, ?_, ?_, ?_, ?_, ?_, ?_, ?_, ?_⟩
  all_goals (intro xs i; rw [Pt]; unfold AJ; rw [Yx]; cases xs[i]? <;> rfl)
theorem Mat.eta (m : Mat) : Mat.mk m.rules m.stage m.first m.follow m.inns m.pen1 m.pen2 m.win m.wside m.margin = m := rfl
theorem PXk : (∀ m : Mat, m.ls = [.str m.rules.name, .int m.rules.side, .int m.rules.innings, .int m.rules.overs, .int m.rules.balls, .int m.rules.quota, .int m.rules.wide, .int m.rules.noball, .bool m.rules.freehit, .int m.rules.newball, .int m.rules.followon, .int m.rules.reviews, .int m.rules.outside, .rows m.rules.power, .int m.stage, .int m.first, .bool m.follow, .rows (AR m.inns), .int m.pen1, .int m.pen2, .int m.win, .int m.wside, .int m.margin]) ∧
    (∀ x : Mat × Int, Om x = [.str x.1.rules.name, .int x.1.rules.side, .int x.1.rules.innings, .int x.1.rules.overs, .int x.1.rules.balls, .int x.1.rules.quota, .int x.1.rules.wide, .int x.1.rules.noball, .bool x.1.rules.freehit, .int x.1.rules.newball, .int x.1.rules.followon, .int x.1.rules.reviews, .int x.1.rules.outside, .rows x.1.rules.power, .int x.1.stage, .int x.1.first, .bool x.1.follow, .rows (AR x.1.inns), .int x.1.pen1, .int x.1.pen2, .int x.1.win, .int x.1.wside, .int x.1.margin, .int x.2]) ∧
    (∀ m : Mat, Mat.mk m.rules m.stage m.first m.follow m.inns m.pen1 m.pen2 m.win m.wside m.margin = m) := ⟨fun _ => rfl, fun _ => rfl, fun _ => rfl⟩
theorem dc : ∀ (ps r pre : List PV), r.length = ps.length → Bv (pre ++ r) pre.length ps = pre ++ ps
 | [], r, pre, h => by
  have : r = [] := List.eq_nil_of_length_eq_zero h
  subst this
  rfl
 | p :: ps, [], pre, h => by cases h
 | p :: ps, a :: r, pre, h => by
  have ih := dc ps r (pre ++ [p]) (by simpa using h)
  simp only [List.length_append, List.length_cons, List.length_nil, List.append_assoc, List.cons_append, List.nil_append] at ih
  unfold Bv
  rw [List.set_append_right _ _ (Nat.le_refl _), Nat.sub_self]
  exact ih
theorem j4 (a s : Inn) : Bv a.ls 0 s.ls = s.ls := dc s.ls a.ls [] rfl
theorem iq (a : Inn) (e : Int) : Bv a.ls 27 [.int e] = Inn.ls { a with ending := e } := by
 show a.ls.set 27 (.int e) = _
 rfl
theorem il {xs : List Inn} {i : Nat} (h : i < xs.length) (s : Inn) : (AR xs).set i (Bv (Ax (AR xs) i) 0 s.ls) = AR (xs.set i s) := by
 have e : Ax (AR xs) i = (xs[i]).ls := by rw [Yx, List.getElem?_eq_getElem h]
 rw [e, j4]
 exact List.map_set.symm
theorem ik {xs : List Inn} {i : Nat} (h : i < xs.length) (e : Int) : (AR xs).set i (Bv (Ax (AR xs) i) 27 [.int e]) = AR (xs.set i { inn xs i with ending := e }) := by
 have e1 : Ax (AR xs) i = (inn xs i).ls := by rw [Yx, Pt, List.getElem?_eq_getElem h]
 rw [e1, iq]
 exact List.map_set.symm
theorem i9 (xs : List Inn) (s : Inn) : AR xs ++ [s.ls] = AR (xs ++ [s]) := by
 show List.map Inn.ls xs ++ List.map Inn.ls [s] = List.map Inn.ls (xs ++ [s])
 exact List.map_append.symm
theorem i6 (xs : List Inn) (i : Nat) (s : Inn) : (AR xs).set i (Bv (Ax (AR xs) i) 0 s.ls) = AR (xs.set i s) := by
 by_cases h : i < xs.length
 ·exact il h s
 ·rw [List.set_eq_of_length_le (by rw [W9]; omega), List.set_eq_of_length_le (by omega)]
theorem cy (xs : List Inn) (i : Nat) (e : Int) : (AR xs).set i (Bv (Ax (AR xs) i) 27 [.int e]) = AR (xs.set i { inn xs i with ending := e }) := by
 by_cases h : i < xs.length
 ·exact ik h e
 ·rw [List.set_eq_of_length_le (by rw [W9]; omega), List.set_eq_of_length_le (by omega)]
theorem PXr : (∀ (xs : List Inn) (x0 x1 x2 x3 x4 x5 x6 x7 x8 x9 x10 x11 x12 x13 x15 x21 x22 x23 x25 x26 x27 : Int) (x18 x20 : Bool) (x14 x16 x17 x19 x24 : Rows), AR xs ++ [([.int x0, .int x1, .int x2, .int x3, .int x4, .int x5, .int x6, .int x7, .int x8, .int x9, .int x10, .int x11, .int x12, .int x13, .rows x14, .int x15, .rows x16, .rows x17, .bool x18, .rows x19, .bool x20, .int x21, .int x22, .int x23, .rows x24, .int x25, .int x26, .int x27] : List PV)] = AR (xs ++ [⟨x0, x1, x2, x3, x4, x5, x6, x7, x8, x9, x10, x11, x12, x13, x14, x15, x16, x17, x18, x19, x20, x21, x22, x23, x24, x25, x26, x27⟩])) ∧ (∀ (xs : List Inn) (i : Nat) (x0 x1 x2 x3 x4 x5 x6 x7 x8 x9 x10 x11 x12 x13 x15 x21 x22 x23 x25 x26 x27 : Int) (x18 x20 : Bool) (x14 x16 x17 x19 x24 : Rows), (AR xs).set i (Bv (Ax (AR xs) i) 0 [.int x0, .int x1, .int x2, .int x3, .int x4, .int x5, .int x6, .int x7, .int x8, .int x9, .int x10, .int x11, .int x12, .int x13, .rows x14, .int x15, .rows x16, .rows x17, .bool x18, .rows x19, .bool x20, .int x21, .int x22, .int x23, .rows x24, .int x25, .int x26, .int x27]) = AR (xs.set i ⟨x0, x1, x2, x3, x4, x5, x6, x7, x8, x9, x10, x11, x12, x13, x14, x15, x16, x17, x18, x19, x20, x21, x22, x23, x24, x25, x26, x27⟩)) ∧
    (∀ (xs : List Inn) (i : Nat) (e : Int), (AR xs).set i (Bv (Ax (AR xs) i) 27 [.int e]) = AR (xs.set i { inn xs i with ending := e })) :=
  ⟨fun xs x0 x1 x2 x3 x4 x5 x6 x7 x8 x9 x10 x11 x12 x13 x15 x21 x22 x23 x25 x26 x27 x18 x20 x14 x16 x17 x19 x24 => i9 xs ⟨x0, x1, x2, x3, x4, x5, x6, x7, x8, x9, x10, x11, x12, x13, x14, x15, x16, x17, x18, x19, x20, x21, x22, x23, x24, x25, x26, x27⟩, fun xs i x0 x1 x2 x3 x4 x5 x6 x7 x8 x9 x10 x11 x12 x13 x15 x21 x22 x23 x25 x26 x27 x18 x20 x14 x16 x17 x19 x24 => i6 xs i ⟨x0, x1, x2, x3, x4, x5, x6, x7, x8, x9, x10, x11, x12, x13, x14, x15, x16, x17, x18, x19, x20, x21, x22, x23, x24, x25, x26, x27⟩, cy⟩
end Go.Px
end
section
namespace Go.Px
set_option maxRecDepth 100000
def DD (n : Int) : Int := IntKind.i64.wrap (3 - n)
theorem HK {N : Nat} {n : Int}  : A9 N [.int n] = some [.int (DD n)] := by
 show J9 (std (QQ N) N) (xOf _) = _
 simp only [J9, std, xOf, PXb, PXc, PXn, PXm, Nat.reduceAdd, Int.reduceBEq, DD]
def HL (m : Mat) (i : Int) : Int := cond (cond (m.follow && iLe 2 i) (i == 2) (i.tmod 2 == 1)) (DD m.first) m.first
theorem N4 {N : Nat} {m1 m2 m3 m4 m5 m6 m7 m9 m10 m11 m12 m14 m15 m18 m19 m20 m21 m22 : Int} {m8 m16 : Bool} {m0 : ByteArray} {m13 : Rows} {m17 : List Inn} {i : Int}  : Cr N [.str m0, .int m1, .int m2, .int m3, .int m4, .int m5, .int m6, .int m7, .bool m8, .int m9, .int m10, .int m11, .int m12, .rows m13, .int m14, .int m15, .bool m16, .rows (AR m17), .int m18, .int m19, .int m20, .int m21, .int m22, .int i] = some [.int (HL (⟨⟨m0, m1, m2, m3, m4, m5, m6, m7, m8, m9, m10, m11, m12, m13⟩, m14, m15, m16, m17, m18, m19, m20, m21, m22⟩ : Mat) i)] := by
 show KI (std (LO N) N) (xOf _) = _
 generalize hres : (some [.int (HL (⟨⟨m0, m1, m2, m3, m4, m5, m6, m7, m8, m9, m10, m11, m12, m13⟩, m14, m15, m16, m17, m18, m19, m20, m21, m22⟩ : Mat) i)] : Option (List PV)) = RR
 simp only [KI, PD, std, xOf, PXb, PXc, PXn, PXm, Nat.reduceAdd, Int.reduceBEq, HK]
 subst hres; simp only [HL]
def Nx (xs : List Inn) (side : Int) : Nat → Int
 | 0 => 0
 | i + 1 => cond ((inn xs i).side == side) (IntKind.i64.wrap (Nx xs side i + (inn xs i).runs)) (Nx xs side i)
def CX (m : Mat) (side : Int) : Int := Nx m.inns side m.inns.length
theorem OD {N : Nat} {m1 m2 m3 m4 m5 m6 m7 m9 m10 m11 m12 m14 m15 m18 m19 m20 m21 m22 : Int} {m8 m16 : Bool} {m0 : ByteArray} {m13 : Rows} {m17 : List Inn} {n : Int} (hN : 2097152 < N) (hl : m17.length ≤ 1048576) : Bj N [.str m0, .int m1, .int m2, .int m3, .int m4, .int m5, .int m6, .int m7, .bool m8, .int m9, .int m10, .int m11, .int m12, .rows m13, .int m14, .int m15, .bool m16, .rows (AR m17), .int m18, .int m19, .int m20, .int m21, .int m22, .int n] = some [.int (CX (⟨⟨m0, m1, m2, m3, m4, m5, m6, m7, m8, m9, m10, m11, m12, m13⟩, m14, m15, m16, m17, m18, m19, m20, m21, m22⟩ : Mat) n)] := by
 show KE (std (Q3 N) N) (xOf _) = _
 generalize hres : (some [.int (CX (⟨⟨m0, m1, m2, m3, m4, m5, m6, m7, m8, m9, m10, m11, m12, m13⟩, m14, m15, m16, m17, m18, m19, m20, m21, m22⟩ : Mat) n)] : Option (List PV)) = RR
 simp only [KE, std, xOf, PXb, PXi]
 subst hres; simp only [CX]
 refine AZ (Gr (len := m17.length) (fun i => [.int (Nx m17 n i), .int (i : Int)]) [.int (Nx m17 n m17.length)] ?_ ?_ N (by omega)) rfl
 ·intro self
  simp only [PXb, PXc, PXn, AD, BK]
 ·intro i self hi
  simp only [PXb, PXc, AD, Ah (show i ≤ 1099511627776 by omega), A1 hi, Ad hi, PXi, Nx]
  cases (inn m17 i).side == n <;> rfl
def It (m : Mat) (side : Int) : Int :=
 cond (iLt (IntKind.i64.wrap ((m.inns.length : Int) + 1)) (IntKind.i64.wrap (2 * m.rules.innings))) 0 (IntKind.i64.wrap (IntKind.i64.wrap (CX m (DD side) - CX m side) + 1))
theorem Rb {N : Nat} {m1 m2 m3 m4 m5 m6 m7 m9 m10 m11 m12 m14 m15 m18 m19 m20 m21 m22 : Int} {m8 m16 : Bool} {m0 : ByteArray} {m13 : Rows} {m17 : List Inn} {n : Int} (hN : 2097152 < N) (hl : m17.length ≤ 1048576) : GU N [.str m0, .int m1, .int m2, .int m3, .int m4, .int m5, .int m6, .int m7, .bool m8, .int m9, .int m10, .int m11, .int m12, .rows m13, .int m14, .int m15, .bool m16, .rows (AR m17), .int m18, .int m19, .int m20, .int m21, .int m22, .int n] = some [.int (It (⟨⟨m0, m1, m2, m3, m4, m5, m6, m7, m8, m9, m10, m11, m12, m13⟩, m14, m15, m16, m17, m18, m19, m20, m21, m22⟩ : Mat) n)] := by
 show Ij (std (Gv N) N) (xOf _) = _
 generalize hres : (some [.int (It (⟨⟨m0, m1, m2, m3, m4, m5, m6, m7, m8, m9, m10, m11, m12, m13⟩, m14, m15, m16, m17, m18, m19, m20, m21, m22⟩ : Mat) n)] : Option (List PV)) = RR
 simp only [Ij, OB, Np, std, xOf, PXb, PXc, PXn, PXm, Nat.reduceAdd, Int.reduceBEq, PXi, HK, OD hN hl]
 subst hres; simp only [It]
def XV (stage : Int) (xs : List Inn) (i : Nat) : Bool := !(((inn xs i).ending == 0) == (stage == 3 && ((i : Int) == IntKind.i64.wrap ((xs.length : Int) - 1))))
def UA (m : Mat) : Bool := !A6 (XV m.stage m.inns) m.inns.length 0 && (!(m.stage == 3) || iLt 0 (m.inns.length : Int))
theorem Zt {N : Nat} {m1 m2 m3 m4 m5 m6 m7 m9 m10 m11 m12 m14 m15 m18 m19 m20 m21 m22 : Int} {m8 m16 : Bool} {m0 : ByteArray} {m13 : Rows} {m17 : List Inn} (hN : 2097152 < N) (hl : m17.length ≤ 1048576) : HB N [.str m0, .int m1, .int m2, .int m3, .int m4, .int m5, .int m6, .int m7, .bool m8, .int m9, .int m10, .int m11, .int m12, .rows m13, .int m14, .int m15, .bool m16, .rows (AR m17), .int m18, .int m19, .int m20, .int m21, .int m22] = some [.bool (UA (⟨⟨m0, m1, m2, m3, m4, m5, m6, m7, m8, m9, m10, m11, m12, m13⟩, m14, m15, m16, m17, m18, m19, m20, m21, m22⟩ : Mat))] := by
 show Jv (std (Qn N) N) (xOf _) = _
 generalize hres : (some [.bool (UA (⟨⟨m0, m1, m2, m3, m4, m5, m6, m7, m8, m9, m10, m11, m12, m13⟩, m14, m15, m16, m17, m18, m19, m20, m21, m22⟩ : Mat))] : Option (List PV)) = RR
 simp only [Jv, std, xOf, PXb, PXi]
 subst hres; simp only [UA]
 refine AZ (EX (len := m17.length) (XV m14 m17) [.bool false] ?_ ?_ N (by omega)) ?_
 ·intro self
  simp only [PXb, PXc, PXn, AD, BK]
 ·intro i self hi
  simp only [PXb, PXc, AD, Ah (show i ≤ 1099511627776 by omega), A1 hi, Ad hi, PXi, XV]
 ·cases A6 (XV m14 m17) m17.length 0 with
  | true => rfl
  | false => simp only [PXb, PXc, PXn, PXm, Nat.reduceAdd, Int.reduceBEq]
end Go.Px
end
section
namespace Go.Px
set_option maxRecDepth 100000
def HZ (xs : List Inn) : Prop := ∀ i, i < xs.length → (inn xs i).Fit
theorem TZ {N : Nat} {r1 r2 r3 r4 r5 r6 r7 r9 r10 r11 r12 : Int} {r8 : Bool} {r0 : ByteArray} {r13 : Rows} (hl : r13.length ≤ 1048576) : Cj N [.str r0, .int r1, .int r2, .int r3, .int r4, .int r5, .int r6, .int r7, .bool r8, .int r9, .int r10, .int r11, .int r12, .rows r13] = some [.str r0, .int r1, .int r2, .int r3, .int r4, .int r5, .int r6, .int r7, .bool r8, .int r9, .int r10, .int r11, .int r12, .rows r13] := by
 show KH (std (LG N) N) (xOf _) = _
 simp only [KH, KV, std, xOf, PXb, PXc, PXn, PXm, Nat.reduceAdd, Int.reduceBEq, Cd, BH hl (show 24 ≤ 4096 by omega)]
theorem Z4 {xs : List Inn} {i : Nat} (h : i < xs.length) : xs.take i ++ [inn xs i] = xs.take (i + 1) := by
 rw [List.take_add_one, Pt, List.getElem?_eq_getElem h]
 rfl
theorem TY {N : Nat} {m1 m2 m3 m4 m5 m6 m7 m9 m10 m11 m12 m14 m15 m18 m19 m20 m21 m22 : Int} {m8 m16 : Bool} {m0 : ByteArray} {m13 : Rows} {m17 : List Inn} (hf : HZ m17) (hN : 2097152 < N) (hl : m17.length ≤ 1000000) (h13 : m13.length ≤ 1048576) : Cl N [.str m0, .int m1, .int m2, .int m3, .int m4, .int m5, .int m6, .int m7, .bool m8, .int m9, .int m10, .int m11, .int m12, .rows m13, .int m14, .int m15, .bool m16, .rows (AR m17), .int m18, .int m19, .int m20, .int m21, .int m22] = some [.str m0, .int m1, .int m2, .int m3, .int m4, .int m5, .int m6, .int m7, .bool m8, .int m9, .int m10, .int m11, .int m12, .rows m13, .int m14, .int m15, .bool m16, .rows (AR m17), .int m18, .int m19, .int m20, .int m21, .int m22] := by
 show J0 (std (Hi N) N) (xOf _) = _
 simp only [J0, Oq, Gc, std, xOf, PXb, TZ h13, PXi]
 refine AZ (Gr (len := m17.length) (fun i => [.rows (AR (m17.take i)), .int (i : Int)]) [.rows (AR m17)] ?_ ?_ N (by omega)) rfl
 ·intro self
  simp only [PXb, PXc, PXn, AD, BK, List.take_length]
 ·intro i self hi
  have h2 : (m17.take (i + 1)).length ≤ 1048576 := by rw [List.length_take]; omega
  have h3 : iSm ((m17.take (i + 1)).length : Int) 304 = true := J6 (by omega) (by omega)
  simp only [PXb, PXc, AD, Ah (show i ≤ 1099511627776 by omega), A1 hi, Ad hi, PXi, Gc, Bt (hf i hi), PXr, Inn.eta, h3, Z4 hi, Nat.reduceAdd]
  rfl
def kW : Rul := ⟨⟨#[]⟩, 0, 0, 0, 0, 0, 0, 0, false, 0, 0, 0, 0, []⟩
def iU : Mat := ⟨kW, 0, 0, false, [], 0, 0, 0, 0, 0⟩
def Cs (r : Rul) : Mat × Int := cond (!(A2 r == 0)) (iU, A2 r) (⟨r, 1, 0, false, [], 0, 0, 0, 0, 0⟩, 0)
theorem V7 {N : Nat} {r1 r2 r3 r4 r5 r6 r7 r9 r10 r11 r12 : Int} {r8 : Bool} {r0 : ByteArray} {r13 : Rows} (hN : 2097152 < N) (hs : r0.size ≤ 1048576) (h13 : r13.length ≤ 1048576) : Fl N [.str r0, .int r1, .int r2, .int r3, .int r4, .int r5, .int r6, .int r7, .bool r8, .int r9, .int r10, .int r11, .int r12, .rows r13] = some (Om (Cs (⟨r0, r1, r2, r3, r4, r5, r6, r7, r8, r9, r10, r11, r12, r13⟩ : Rul))) := by
 show M9 (std (Jy N) N) (xOf _) = _
 generalize hres : (some (Om (Cs (⟨r0, r1, r2, r3, r4, r5, r6, r7, r8, r9, r10, r11, r12, r13⟩ : Rul))) : Option (List PV)) = RR
 simp only [M9, QH, QE, std, xOf, PXb, PXc, PXn, PXm, Nat.reduceAdd, Int.reduceBEq, Ck hN hs, TZ h13]
 subst hres; simp only [Cs]
 cases A2 (⟨r0, r1, r2, r3, r4, r5, r6, r7, r8, r9, r10, r11, r12, r13⟩ : Rul) == 0 <;> rfl
def aZ (m : Mat) : Bool := (iLt m.pen1 0 || iLt 1000000 m.pen1) || (iLt m.pen2 0 || iLt 1000000 m.pen2)
def UX (m : Mat) (i : Nat) : Bool := !JV m.rules (inn m.inns i) || !((inn m.inns i).side == HL m (i : Int))
def eG (m : Mat) : Bool :=
  let n : Int := m.inns.length
  let most := IntKind.i64.wrap (2 * m.rules.innings)
  A2 m.rules == 0 && (!(iLt m.stage 1) && (!(iLt 5 m.stage) && (!aZ m && (!(iLt m.first 0 || iLt 2 m.first || iLt most n) && (!(m.first == 0 && (iLt 0 n || (!(m.stage == 1) && !(m.stage == 5)))) &&
    (!(m.stage == 1 && !(m.first == 0)) && (!(m.stage == 2 && n == most) && (!(m.stage == 4 && (!(m.rules.innings == 2) || !(n == 2))) && !(m.follow && (!(m.rules.innings == 2) || iLt n 2))))))))))
def G9 (m : Mat) : Bool := eG m && (!A6 (UX m) m.inns.length 0 && UA m)
set_option maxHeartbeats 4000000 in
theorem TS {N : Nat} {m1 m2 m3 m4 m5 m6 m7 m9 m10 m11 m12 m14 m15 m18 m19 m20 m21 m22 : Int} {m8 m16 : Bool} {m0 : ByteArray} {m13 : Rows} {m17 : List Inn} (hf : HZ m17) (hN : 2097152 < N) (hl : m17.length ≤ 1000000) (hs : m0.size ≤ 1048576) : Cm N [.str m0, .int m1, .int m2, .int m3, .int m4, .int m5, .int m6, .int m7, .bool m8, .int m9, .int m10, .int m11, .int m12, .rows m13, .int m14, .int m15, .bool m16, .rows (AR m17), .int m18, .int m19, .int m20, .int m21, .int m22] = some [.bool (G9 (⟨⟨m0, m1, m2, m3, m4, m5, m6, m7, m8, m9, m10, m11, m12, m13⟩, m14, m15, m16, m17, m18, m19, m20, m21, m22⟩ : Mat))] := by
 show KA (std (DU N) N) (xOf _) = _
 generalize hres : (some [.bool (G9 (⟨⟨m0, m1, m2, m3, m4, m5, m6, m7, m8, m9, m10, m11, m12, m13⟩, m14, m15, m16, m17, m18, m19, m20, m21, m22⟩ : Mat))] : Option (List PV)) = RR
 simp only [KA, Ol, Gb, Hv, Hs, std, xOf, PXb, Ck hN hs, PXi]
 subst hres; simp only [G9, eG]
 cases hc : A2 (⟨⟨m0, m1, m2, m3, m4, m5, m6, m7, m8, m9, m10, m11, m12, m13⟩, m14, m15, m16, m17, m18, m19, m20, m21, m22⟩ : Mat).rules == 0 <;> (try rfl)
 cases h1 : iLt m14 1 <;> (try rfl)
 cases h5 : iLt 5 m14 <;> (try rfl)
 simp only [PXb]
 refine AZ (EX (len := 2) (fun i => iLt (cond ((i : Int) == 1) m19 m18) 0 || iLt 1000000 (cond ((i : Int) == 1) m19 m18)) [.bool false] ?_ ?_ N (by omega)) ?_
 ·intro self
  rfl
 ·intro i self hi
  simp only [PXb, Ah (show i ≤ 1099511627776 by omega), show iLt (i : Int) 2 = true from A1 (len := 2) hi, show iIn (i : Int) 2 = true from Ad (len := 2) hi]
 ·have hp : A6 (fun i => iLt (cond ((i : Int) == 1) m19 m18) 0 || iLt 1000000 (cond ((i : Int) == 1) m19 m18)) 2 0 = aZ (⟨⟨m0, m1, m2, m3, m4, m5, m6, m7, m8, m9, m10, m11, m12, m13⟩, m14, m15, m16, m17, m18, m19, m20, m21, m22⟩ : Mat) := by
   simp only [Bp, IM, Bool.or_false]
   rfl
  rw [hp]
  cases aZ (⟨⟨m0, m1, m2, m3, m4, m5, m6, m7, m8, m9, m10, m11, m12, m13⟩, m14, m15, m16, m17, m18, m19, m20, m21, m22⟩ : Mat)
  case true => rfl
  simp only [PXb, Jg, Int.reduceBEq]
  cases iLt m15 0 <;> try rfl
  cases iLt 2 m15 <;> try rfl
  cases iLt (IntKind.i64.wrap (2 * m2)) (m17.length : Int) <;> try rfl
  cases (m15 == 0 && (iLt 0 (m17.length : Int) || (!(m14 == 1) && !(m14 == 5)))) <;> try rfl
  cases (m14 == 1 && !(m15 == 0)) <;> try rfl
  cases (m14 == 2 && (m17.length : Int) == IntKind.i64.wrap (2 * m2)) <;> try rfl
  cases (m14 == 4 && (!(m2 == 2) || !((m17.length : Int) == 2))) <;> try rfl
  cases (m16 && (!(m2 == 2) || iLt (m17.length : Int) 2)) <;> try rfl
  simp only [PXb]
  refine AZ (EX (len := m17.length) (UX (⟨⟨m0, m1, m2, m3, m4, m5, m6, m7, m8, m9, m10, m11, m12, m13⟩, m14, m15, m16, m17, m18, m19, m20, m21, m22⟩ : Mat)) [.bool false] ?_ ?_ N (by omega)) ?_
  ·intro self
   simp only [PXb, PXc, PXn, AD, BK]
  ·intro i self hi
   simp only [PXb, PXc, PXn, PXm, Nat.reduceAdd, Int.reduceBEq, Ah (show i ≤ 1099511627776 by omega), A1 hi, Ad hi, PXi, Gb, Hv, Qh (hf i hi) hN hs, N4, UX]
   cases JV (⟨⟨m0, m1, m2, m3, m4, m5, m6, m7, m8, m9, m10, m11, m12, m13⟩, m14, m15, m16, m17, m18, m19, m20, m21, m22⟩ : Mat).rules (inn m17 i) <;> first | rfl | simp only [PXb, PXc, PXn, PXm, Nat.reduceAdd, Int.reduceBEq]
  ·cases A6 (UX (⟨⟨m0, m1, m2, m3, m4, m5, m6, m7, m8, m9, m10, m11, m12, m13⟩, m14, m15, m16, m17, m18, m19, m20, m21, m22⟩ : Mat)) m17.length 0
   case true => rfl
   simp only [PXb, PXc, PXn, PXm, Nat.reduceAdd, Int.reduceBEq, Hs, Zt hN (show m17.length ≤ 1048576 by omega)]
end Go.Px
end
section
namespace Go.Px
set_option maxRecDepth 100000
def lnx (xs : List Inn) : Nat := (IntKind.i64.wrap ((xs.length : Int) - 1)).toNat
def Bz (m : Mat) : Inn := inn m.inns (lnx m.inns)
theorem Rw {n : Nat} (h : ((n : Int) == 0) = false) (hl : n ≤ 1000000) : iIn (IntKind.i64.wrap ((n : Int) - 1)) (n : Int) = true := by
 rw [beq_eq_false_iff_ne] at h
 rw [EJ (by omega) (by omega)]
 simp only [iIn, decide_eq_true_eq]; omega
theorem bi {xs : List Inn} (h : ((xs.length : Int) == 0) = false) (hl : xs.length ≤ 1000000) : lnx xs < xs.length := by
 rw [beq_eq_false_iff_ne] at h
 unfold lnx
 rw [EJ (by omega) (by omega)]
 omega
def X0 (r : Rul) : Int := cond (r.overs == 0) 5 6
theorem H6 {N : Nat} {r1 r2 r3 r4 r5 r6 r7 r9 r10 r11 r12 : Int} {r8 : Bool} {r0 : ByteArray} {r13 : Rows}  : BW N [.str r0, .int r1, .int r2, .int r3, .int r4, .int r5, .int r6, .int r7, .bool r8, .int r9, .int r10, .int r11, .int r12, .rows r13] = some [.int (X0 (⟨r0, r1, r2, r3, r4, r5, r6, r7, r8, r9, r10, r11, r12, r13⟩ : Rul))] := by
 show FP (std (LX N) N) (xOf _) = _
 simp only [FP, std, xOf, PXb, PXc, PXn, PXm, Nat.reduceAdd, Int.reduceBEq, X0]
def XU (x : Int × Int × Int) : List PV := [.int x.1, .int x.2.1, .int x.2.2]
def S4 (m : Mat) : Int × Int × Int :=
  let n : Int := m.inns.length
  let most := IntKind.i64.wrap (2 * m.rules.innings)
  let x := Bz m
  cond (!G9 m || n == 0) (0, 0, 0) (cond (x.ending == 5) (X0 m.rules, 0, 0) (cond (x.ending == 0) (0, 0, 0)
    (cond (n == most && iLe x.target x.runs) (2, x.side, IntKind.i64.wrap (IntKind.i64.wrap (m.rules.side - 1) - x.wickets)) (cond (n == most && x.runs == IntKind.i64.wrap (x.target - 1)) (4, 0, 0)
      (cond (n == most) (1, DD x.side, IntKind.i64.wrap (IntKind.i64.wrap (x.target - 1) - x.runs))
        (cond (n == 3 && iLt (CX m x.side) (CX m (DD x.side))) (3, DD x.side, IntKind.i64.wrap (CX m (DD x.side) - CX m x.side)) (0, 0, 0)))))))
set_option maxHeartbeats 4000000 in
theorem X6 {N : Nat} {m1 m2 m3 m4 m5 m6 m7 m9 m10 m11 m12 m14 m15 m18 m19 m20 m21 m22 : Int} {m8 m16 : Bool} {m0 : ByteArray} {m13 : Rows} {m17 : List Inn} (hf : HZ m17) (hN : 2097152 < N) (hl : m17.length ≤ 1000000) (hs : m0.size ≤ 1048576) : FI N [.str m0, .int m1, .int m2, .int m3, .int m4, .int m5, .int m6, .int m7, .bool m8, .int m9, .int m10, .int m11, .int m12, .rows m13, .int m14, .int m15, .bool m16, .rows (AR m17), .int m18, .int m19, .int m20, .int m21, .int m22] = some (XU (S4 (⟨⟨m0, m1, m2, m3, m4, m5, m6, m7, m8, m9, m10, m11, m12, m13⟩, m14, m15, m16, m17, m18, m19, m20, m21, m22⟩ : Mat))) := by
 show Ht (std (Ci N) N) (xOf _) = _
 generalize hres : (some (XU (S4 (⟨⟨m0, m1, m2, m3, m4, m5, m6, m7, m8, m9, m10, m11, m12, m13⟩, m14, m15, m16, m17, m18, m19, m20, m21, m22⟩ : Mat))) : Option (List PV)) = RR
 simp only [Ht, NE, Na, NI, Kb, std, xOf, PXb, PXi, TS hf hN hl hs, HK, H6, OD hN (show m17.length ≤ 1048576 by omega)]
 subst hres; simp only [S4, Bz, lnx]
 cases hv : G9 (⟨⟨m0, m1, m2, m3, m4, m5, m6, m7, m8, m9, m10, m11, m12, m13⟩, m14, m15, m16, m17, m18, m19, m20, m21, m22⟩ : Mat)
 case false => rfl
 cases h0 : (m17.length : Int) == 0
 case true => rfl
 simp only [PXb, Rw h0 hl]
 generalize inn m17 (IntKind.i64.wrap ((m17.length : Int) - 1)).toNat = x
 cases x.ending == 5
 case true => rfl
 cases x.ending == 0
 case true => rfl
 cases (m17.length : Int) == IntKind.i64.wrap (2 * m2) <;> cases iLe x.target x.runs <;> cases x.runs == IntKind.i64.wrap (x.target - 1) <;> try rfl
 all_goals (cases (m17.length : Int) == 3 <;> try rfl)
 all_goals (simp only [PXb]; cases iLt (CX (⟨⟨m0, m1, m2, m3, m4, m5, m6, m7, m8, m9, m10, m11, m12, m13⟩, m14, m15, m16, m17, m18, m19, m20, m21, m22⟩ : Mat) x.side) (CX (⟨⟨m0, m1, m2, m3, m4, m5, m6, m7, m8, m9, m10, m11, m12, m13⟩, m14, m15, m16, m17, m18, m19, m20, m21, m22⟩ : Mat) (DD x.side)) <;> rfl)
theorem bD : ∀ (n k : Nat) (f : Nat → Nat), (∀ i, i < k → 1 ≤ f i ∧ f i ≤ n) → (∀ i j, i < j → j < k → f i ≠ f j) → k ≤ n
 | 0, k, f, h, _ => by
  rcases Nat.eq_zero_or_pos k with e | e
  ·omega
  ·have := h 0 e; omega
 | n + 1, 0, f, _, _ => by omega
 | n + 1, k + 1, f, h, hi => by
  by_cases he : ∃ j, j < k + 1 ∧ f j = n + 1
  ·obtain ⟨j, hj, hfj⟩ := he
   have := bD n k (fun i => if i = j then f k else f i) (fun i hik => by
    show 1 ≤ (if i = j then f k else f i) ∧ (if i = j then f k else f i) ≤ n
    by_cases e : i = j
    ·rw [if_pos e]
     have h1 := h k (by omega)
     have : f k ≠ f j := fun e2 => hi j k (by omega) (by omega) e2.symm
     omega
    ·rw [if_neg e]
     have h1 := h i (by omega)
     have : f i ≠ f j := by
      rcases Nat.lt_or_gt_of_ne e with e2 | e2
      ·exact hi i j e2 hj
      ·exact fun e3 => hi j i e2 (by omega) e3.symm
     omega) (fun a b hab hb => by
    show (if a = j then f k else f a) ≠ (if b = j then f k else f b)
    by_cases e1 : a = j
    ·have e2 : b ≠ j := by omega
     rw [if_pos e1, if_neg e2]
     exact fun e3 => hi b k hb (by omega) e3.symm
    ·rw [if_neg e1]
     by_cases e2 : b = j
     ·rw [if_pos e2]; exact hi a k (by omega) (by omega)
     ·rw [if_neg e2]; exact hi a b hab (by omega))
   omega
  ·have := bD n (k + 1) f (fun i hik => by
    have h1 := h i hik
    have : f i ≠ n + 1 := fun e => he ⟨i, hik, e⟩
    omega) hi
   omega
theorem cE {L : Rows} {n : Int} (h : Jr L n = true) (hn : 0 ≤ n) : (L.length : Int) ≤ n := by
 unfold Jr at h
 rw [Bool.not_eq_true', Im] at h
 have hb : ∀ i, i < L.length → 1 ≤ atI L i 0 ∧ atI L i 0 ≤ n := fun i hi => by
  have := h i (by omega) (by omega)
  unfold PH at this
  rw [Bool.or_eq_false_iff, Bool.not_eq_false', VQ] at this
  exact this.1
 have := bD n.toNat L.length (fun i => (atI L i 0).toNat) (fun i hi => by have := hb i hi; show 1 ≤ (atI L i 0).toNat ∧ (atI L i 0).toNat ≤ n.toNat; omega) (fun i j hij hj => by
  show (atI L i 0).toNat ≠ (atI L j 0).toNat
  have h1 := hb i (by omega)
  have h2 := hb j hj
  have h3 := h j (by omega) (by omega)
  unfold PH at h3
  rw [Bool.or_eq_false_iff] at h3
  have h4 := Im.1 h3.2 i (by omega) (by omega)
  rw [beq_eq_false_iff_ne] at h4
  omega)
 omega
theorem Sl {r : Rul} {s : Inn} (h : JV r s = true) : s.bowlers.length ≤ 11 ∧ s.before.length ≤ 11 ∧ s.Fit := by
 have ok := fL.1 h
 have hs := jP ok
 have h1 := cE ok.dw (by omega)
 have h2 := cE ok.df (by omega)
 have h3 := ok.lb
 have h4 := ok.ld
 have h5 := ok.lz
 exact ⟨by omega, by omega, by omega, by omega, by omega, by omega, by omega⟩
end Go.Px
end
section
namespace Go.Px
set_option maxRecDepth 100000
def aN (m : Mat) (e : Ev) : Mat × Int :=
  let sd := HL m (m.inns.length : Int)
  let b := Dp m.rules sd (It m sd) (cond (sd == 2) m.pen2 m.pen1)
  let t := D8 m.rules b.1 e
  cond (!(b.2 == 0)) (m, 1) (cond (!(t.2 == 0)) (m, t.2)
    ({ m with stage := 3, inns := m.inns ++ [t.1], pen1 := cond (sd == 1) 0 m.pen1, pen2 := cond (sd == 2) 0 m.pen2 }, 0))
def Q1 (xs : List Inn) (sd : Int) : Nat → Option Nat
 | 0 => none
 | k + 1 => cond ((inn xs k).side == sd) (some k) (Q1 xs sd k)
def LA (m : Mat) (sd : Int) : Mat := match Q1 m.inns sd m.inns.length with
 | some k => { m with inns := m.inns.set k (VA (inn m.inns k)) }
 | none => { m with pen1 := cond (sd == 1) (IntKind.i64.wrap (m.pen1 + 5)) m.pen1, pen2 := cond (sd == 2) (IntKind.i64.wrap (m.pen2 + 5)) m.pen2 }
def aK (m : Mat) (e : Ev) : Mat × Int :=
 let t := D8 m.rules (Bz m) e
 cond (!(t.2 == 0)) (m, t.2) (cond (e.kind == 13 && !(e.side == t.1.side)) (LA { m with inns := m.inns.set (lnx m.inns) t.1 } e.side) { m with inns := m.inns.set (lnx m.inns) t.1 }, 0)
def eW (m : Mat) : Mat := { m with inns := cond (m.stage == 3) (m.inns.set (lnx m.inns) { Bz m with ending := 5 }) m.inns, stage := 5, win := X0 m.rules, wside := 0, margin := 0 }
def JE (m : Mat) (e : Ev) : Mat × Int :=
  cond (e.kind == 1) (cond (!(m.stage == 1)) (m, 1) ({ m with first := cond e.yes e.side (DD e.side), stage := 2 }, 0))
    (cond (e.kind == 2) (cond (!(m.stage == 2)) (m, 1) (aN m e))
      (cond (e.kind == 12) (cond (!(m.stage == 4)) (m, 1) (cond (!(e.side == m.first)) (m, 2) ({ m with follow := e.yes, stage := 2 }, 0)))
        (cond (e.kind == 16) (eW m, 0) (cond (!(m.stage == 3)) (m, 1) (aK m e)))))
def Rz (m : Mat) : Mat :=
  let n : Int := m.inns.length
  let sd := (Bz m).side
  let o := S4 { m with stage := 5 }
  cond (n == IntKind.i64.wrap (2 * m.rules.innings) || (n == 3 && iLt (CX m sd) (CX m (DD sd)))) { m with stage := 5, win := o.1, wside := o.2.1, margin := o.2.2 }
    (cond (n == 2 && iLt 0 m.rules.followon && iLe m.rules.followon (IntKind.i64.wrap (CX m m.first - CX m (DD m.first)))) { m with stage := 4 } { m with stage := 2 })
def NM (m : Mat) : Mat := cond (m.stage == 3 && !((Bz m).ending == 0)) (Rz m) m
def Cf (m : Mat) (e : Ev) : Mat × Int :=
 cond (!G9 m || !(evS e == 0)) (m, 1) (cond (m.stage == 5) (m, 26) (cond (!((JE m e).2 == 0)) (m, (JE m e).2) (NM (JE m e).1, 0)))
theorem bind_ok {X : Option (List PV)} {r : List PV} {k : List PV → Option (List PV)} {g : Option (List PV)} (h : X = some r) (hk : k r = g) : X.bind k = g := by rw [h]; exact hk
structure MatOk (m : Mat) : Prop where
 code : A2 m.rules = 0
 len : m.inns.length ≤ 4
 innv : ∀ i, i < m.inns.length → JV m.rules (inn m.inns i) = true ∧ (inn m.inns i).side = HL m (i : Int)
 begun : (m.stage == 3) = true → ((m.inns.length : Int) == 0) = false
 toss : (m.stage == 2) = true → m.first = 1 ∨ m.first = 2
 room : (m.stage == 2) = true → (m.inns.length : Int) < 2 * m.rules.innings
 most : IntKind.i64.wrap (2 * m.rules.innings) = 2 * m.rules.innings ∧ (m.inns.length : Int) ≤ 2 * m.rules.innings
theorem cT {m : Mat} (h : G9 m = true) : MatOk m := by
 unfold G9 eG at h
 simp only [Bool.and_eq_true, Bool.not_eq_true'] at h
 obtain ⟨⟨h1, h2, h3, h4, h5, h6, h7, h8, h9, h10⟩, h11, h12⟩ := h
 have hc := beq_iff_eq.1 h1
 have rk := (PP hc).innings
 have e2 : IntKind.i64.wrap (2 * m.rules.innings) = 2 * m.rules.innings := EJ (by omega) (by omega)
 rw [e2] at h5 h8
 rw [Bool.or_eq_false_iff, Bool.or_eq_false_iff] at h5
 have hn := h5.2
 have hf1 := h5.1.1
 have hf2 := h5.1.2
 simp only [iLt, decide_eq_false_iff_not] at hn hf1 hf2
 refine ⟨hc, by omega, fun i hi => ?_, fun hs => ?_, fun hs => ?_, fun hs => ?_, e2, by omega⟩
 ·have := Im.1 h11 i (by omega) (by omega)
  unfold UX at this
  rw [Bool.or_eq_false_iff, Bool.not_eq_false', Bool.not_eq_false', beq_iff_eq] at this
  exact this
 ·unfold UA at h12
  rw [hs, Bool.and_eq_true] at h12
  have := h12.2
  simp only [iLt, Bool.not_true, Bool.false_or, decide_eq_true_eq] at this
  exact beq_false_of_ne (by omega)
 ·rw [beq_iff_eq.1 hs] at h6
  cases h0 : m.first == 0 with
  | true => rw [h0] at h6; simp at h6
  | false =>
   rw [beq_eq_false_iff_ne] at h0
   omega
 ·rw [hs, Bool.true_and, beq_eq_false_iff_ne] at h8
  omega
theorem go {m : Mat} (h : m.first = 1 ∨ m.first = 2) (i : Int) : HL m i = 1 ∨ HL m i = 2 := by
 unfold HL
 cases cond (m.follow && iLe 2 i) (i == 2) (i.tmod 2 == 1) with
 | false => exact h
 | true => rcases h with h | h <;> rw [h] <;> decide
theorem fg {m : Mat} (h : MatOk m) : HZ m.inns := fun i hi => (Sl (h.innv i hi).1).2.2
theorem X9 {F : (List Ab → Option (List PV)) → List PV → Option (List PV)} {len : Nat} (enc : Nat → List Ab) (ans : Nat → Option (List PV))
    (h0 : ∀ self, F self ((enc len).map Leaf.pv) = some [.int 1]) (h1 : ∀ i self, i < len → F self ((enc i).map Leaf.pv) = match ans i with | some r => some (.int 0 :: r) | none => self (enc (i + 1))) :
    ∀ (k i n : Nat), i + k = len → k < n → Hd F n ((enc i).map Leaf.pv) = some (VH (B0 ans k i))
  | 0, i, n, hk, hn => by
    obtain ⟨n, rfl⟩ : ∃ m, n = m + 1 := ⟨n - 1, by omega⟩
    obtain rfl : i = len := by omega
    exact h0 _
  | k + 1, i, n, hk, hn => by
    obtain ⟨n, rfl⟩ : ∃ m, n = m + 1 := ⟨n - 1, by omega⟩
    show F _ _ = _
    rw [h1 i _ (by omega)]
    simp only [B0]
    cases ans i with
    | some r => rfl
    | none => exact X9 enc ans h0 h1 k (i + 1) n (by omega) (by omega)
theorem dW (ys : List Inn) (sd : Int) (g : Nat → List PV) (n : Nat) : ∀ k, k ≤ n → B0 (fun j => cond ((inn ys (n - 1 - j)).side == sd) (some (g (n - 1 - j))) none) k (n - k) = (Q1 ys sd k).map g
 | 0, _ => rfl
 | k + 1, h => by
  have ih := dW ys sd g n k (by omega)
  have e : n - 1 - (n - (k + 1)) = k := by omega
  have e2 : n - (k + 1) + 1 = n - k := by omega
  simp only [B0, Q1, e, e2, ih]
  cases (inn ys k).side == sd <;> rfl
theorem ic (xs : List Inn) (k : Nat) (s : Inn) (i : Nat) (hi : i < xs.length) : inn (xs.set k s) i = (if k = i then s else inn xs i) := by
 rw [Pt, Pt, List.getElem?_set]
 by_cases h : k = i
 ·subst h
  rw [if_pos rfl, if_pos rfl, if_pos hi]
 ·rw [if_neg h, if_neg h]
theorem Sr {xs : List Inn} {s : Inn} (k : Nat) (h : HZ xs) (hs : s.Fit) : HZ (xs.set k s) := fun i hi => by
 rw [List.length_set] at hi
 rw [ic xs k s i hi]
 by_cases e : k = i
 ·rw [if_pos e]; exact hs
 ·rw [if_neg e]; exact h i hi
theorem fc {e : Ev} (h : (evS e == 0) = true) (hk : (e.kind == 13) = true) : e.side = 1 ∨ e.side = 2 := by
 have h0 := Y3 h
 rw [beq_iff_eq] at hk
 unfold evS at h
 rw [h0] at h
 cases h1 : bX e with
 | true => rw [h1] at h; cases h
 | false =>
  cases h2 : WX e with
  | true => rw [h1, h2] at h; cases h
  | false =>
   unfold WX at h2
   rw [Bool.or_eq_false_iff] at h2
   have h3 := h2.1
   rw [hk, show uS 13 = true from rfl, Bool.and_true] at h3
   simp only [btw, iLe, Bool.not_eq_false', Bool.and_eq_true, decide_eq_true_eq] at h3
   omega
theorem jK (xs : List Inn) (s : Inn) (i : Nat) (hi : i < xs.length + 1) : inn (xs ++ [s]) i = (if i < xs.length then inn xs i else s) := by
 rw [Pt, Pt]
 by_cases h : i < xs.length
 ·rw [if_pos h, List.getElem?_append_left h]
 ·have : i = xs.length := by omega
  subst this
  rw [if_neg h, List.getElem?_append_right (Nat.le_refl _), Nat.sub_self]
  rfl
theorem iE {xs : List Inn} {s : Inn} (h : HZ xs) (hs : s.Fit) : HZ (xs ++ [s]) := fun i hi => by
 rw [List.length_append] at hi
 rw [jK xs s i hi]
 by_cases e : i < xs.length
 ·rw [if_pos e]; exact h i e
 ·rw [if_neg e]; exact hs
theorem Yv (r : Rul) (a b c : Int) (e : Ev) : (D8 r (Dp r a b c).1 e).1.Fit := by
 obtain ⟨f, h1, h2⟩ := O1 r a b c
 exact Rm (UH r _ e) f (by rw [h1, h2]; exact Nat.zero_le _)
structure ActOk (m : Mat) (x : Mat × Int) : Prop where
 rules : x.1.rules = m.rules
 fit : HZ x.1.inns
 len : x.1.inns.length ≤ 5
 some' : (x.2 == 0) = true → (x.1.stage == 3) = true → ((x.1.inns.length : Int) == 0) = false
theorem A_c {m : Mat} (b : Bool) (x y : Mat × Int) (hx : ActOk m x) (hy : ActOk m y) : ActOk m (cond b x y) := by cases b <;> assumption
theorem iH {m : Mat} (sd : Int) (hf : HZ m.inns) : (LA m sd).rules = m.rules ∧ HZ (LA m sd).inns ∧ (LA m sd).inns.length = m.inns.length ∧ (LA m sd).stage = m.stage := by
 unfold LA
 cases h : Q1 m.inns sd m.inns.length with
 | none => exact ⟨rfl, hf, rfl, rfl⟩
 | some k =>
  have hk : k < m.inns.length := by
   have : ∀ n, Q1 m.inns sd n = some k → k < n := by
    intro n
    induction n with
    | zero => intro h; cases h
    | succ n ih =>
     intro h
     unfold Q1 at h
     cases hq : (inn m.inns n).side == sd with
     | true => rw [hq] at h; cases h; omega
     | false => rw [hq] at h; have := ih h; omega
   exact this _ h
  exact ⟨rfl, Sr k hf (i3 (hf k hk)), List.length_set, rfl⟩
theorem fV {m : Mat} (ok : MatOk m) (e : Ev) : ActOk m (JE m e) := by
 have hf := fg ok
 have hl := ok.len
 have self : ∀ n : Int, (n == 0) = false → ActOk m (m, n) := fun n hn => ⟨rfl, hf, by show m.inns.length ≤ 5; omega, fun h => by rw [hn] at h; cases h⟩
 unfold JE
 refine A_c _ _ _ (A_c _ _ _ (self 1 rfl) ⟨rfl, hf, by show m.inns.length ≤ 5; omega, fun _ h => by cases h⟩) (A_c _ _ _ ?_ (A_c _ _ _ ?_ (A_c _ _ _ ?_ ?_)))
 ·refine A_c _ _ _ (self 1 rfl) ?_
  unfold aN
  refine A_c _ _ _ (self 1 rfl) ?_
  cases hq : (D8 m.rules (Dp m.rules (HL m (m.inns.length : Int)) (It m (HL m (m.inns.length : Int))) (cond (HL m (m.inns.length : Int) == 2) m.pen2 m.pen1)).1 e).2 == 0 with
  | false =>
   simp only [Bool.not_false, cond_true]
   exact self _ hq
  | true =>
   simp only [Bool.not_true, cond_false]
   exact ⟨rfl, iE hf (Yv _ _ _ _ e), by simp; omega, fun _ _ => by
    show ((((m.inns ++ [_]).length : Nat) : Int) == 0) = false
    rw [List.length_append]
    exact beq_false_of_ne (by simp; omega)⟩
 ·exact A_c _ _ _ (self 1 rfl) (A_c _ _ _ (self 2 rfl) ⟨rfl, hf, by show m.inns.length ≤ 5; omega, fun _ h => by cases h⟩)
 ·unfold eW
  cases h3 : m.stage == 3 with
  | false => exact ⟨rfl, hf, by show m.inns.length ≤ 5; omega, fun _ h => by cases h⟩
  | true =>
   have h0 := ok.begun h3
   have fl := hf (lnx m.inns) (bi h0 (by omega))
   exact ⟨rfl, Sr _ hf ⟨fl.bt, fl.bw, fl.bf, fl.bd, fl.sb⟩, by show (m.inns.set _ _).length ≤ 5; rw [List.length_set]; omega, fun _ h => by cases h⟩
 ·cases h3 : m.stage == 3 with
  | false => exact self 1 rfl
  | true =>
   have h0 := ok.begun h3
   have lv := Sl (ok.innv (lnx m.inns) (bi h0 (by omega))).1
   have h1 := lv.1
   have h2 := lv.2.1
   have ft := Rm (UH m.rules (Bz m) e) lv.2.2 (show (inn m.inns (lnx m.inns)).before.length + (inn m.inns (lnx m.inns)).bowlers.length ≤ 1048575 by omega)
   simp only [Bool.not_true, cond_false, aK]
   cases hq : (D8 m.rules (Bz m) e).2 == 0 with
   | false =>
    simp only [Bool.not_false, Bool.not_true, cond_true, cond_false]
    exact self _ hq
   | true =>
    have fs := Sr (lnx m.inns) hf ft
    have ln : (m.inns.set (lnx m.inns) (D8 m.rules (Bz m) e).1).length = m.inns.length := List.length_set
    simp only [Bool.not_true, cond_false]
    cases (e.kind == 13 && !(e.side == (D8 m.rules (Bz m) e).1.side)) with
    | false =>
     exact ⟨rfl, fs, by show (m.inns.set _ _).length ≤ 5; omega, fun _ _ => by
      show ((((m.inns.set _ _).length : Nat) : Int) == 0) = false
      rw [ln]; exact h0⟩
    | true =>
     obtain ⟨a1, a2, a3, a4⟩ := iH (m := { m with inns := m.inns.set (lnx m.inns) (D8 m.rules (Bz m) e).1 }) e.side fs
     exact ⟨a1, a2, by show (LA _ _).inns.length ≤ 5; rw [a3]; show (m.inns.set _ _).length ≤ 5; omega, fun _ _ => by
      show ((((LA _ _).inns.length : Nat) : Int) == 0) = false
      rw [a3]
      show ((((m.inns.set _ _).length : Nat) : Int) == 0) = false
      rw [ln]; exact h0⟩
end Go.Px
end
section
namespace Go.Px
set_option maxRecDepth 100000
set_option maxHeartbeats 8000000 in
theorem PZ {N : Nat} {m1 m2 m3 m4 m5 m6 m7 m9 m10 m11 m12 m14 m15 m18 m19 m20 m21 m22 : Int} {m8 m16 : Bool} {m0 : ByteArray} {m13 : Rows} {m17 : List Inn} {e0 e1 e2 e3 e5 e6 e7 e8 e9 e10 e11 e13 e14 e15 e16 e18 : Int} {e4 e12 e17 : Bool} (hN : 2097152 < N) (hf : HZ m17) (hl : m17.length ≤ 1000000) (hs : m0.size ≤ 1048576) (h13 : m13.length ≤ 1048576) : EZ N [.str m0, .int m1, .int m2, .int m3, .int m4, .int m5, .int m6, .int m7, .bool m8, .int m9, .int m10, .int m11, .int m12, .rows m13, .int m14, .int m15, .bool m16, .rows (AR m17), .int m18, .int m19, .int m20, .int m21, .int m22, .int e0, .int e1, .int e2, .int e3, .bool e4, .int e5, .int e6, .int e7, .int e8, .int e9, .int e10, .int e11, .bool e12, .int e13, .int e14, .int e15, .int e16, .bool e17, .int e18] = some (Om (Cf (⟨⟨m0, m1, m2, m3, m4, m5, m6, m7, m8, m9, m10, m11, m12, m13⟩, m14, m15, m16, m17, m18, m19, m20, m21, m22⟩ : Mat) (⟨e0, e1, e2, e3, e4, e5, e6, ⟨e7, e8, e9, e10, e11, e12, e13, e14, e15, e16, e17, e18⟩⟩ : Ev))) := by
 show Ll (std (Ay N) N) (xOf _) = _
 generalize hres : (some (Om (Cf (⟨⟨m0, m1, m2, m3, m4, m5, m6, m7, m8, m9, m10, m11, m12, m13⟩, m14, m15, m16, m17, m18, m19, m20, m21, m22⟩ : Mat) (⟨e0, e1, e2, e3, e4, e5, e6, ⟨e7, e8, e9, e10, e11, e12, e13, e14, e15, e16, e17, e18⟩⟩ : Ev))) : Option (List PV)) = RR
 simp only [Ll, P3, Pj, Pg, El, EN, IY, G8, De, EA, Ca, Cu, GV, std, xOf, PXb, TS hf hN hl hs, Tc hN, TY hf hN hl h13]
 subst hres; simp only [Cf]
 cases hv : G9 (⟨⟨m0, m1, m2, m3, m4, m5, m6, m7, m8, m9, m10, m11, m12, m13⟩, m14, m15, m16, m17, m18, m19, m20, m21, m22⟩ : Mat)
 case false => rfl
 cases he : evS (⟨e0, e1, e2, e3, e4, e5, e6, ⟨e7, e8, e9, e10, e11, e12, e13, e14, e15, e16, e17, e18⟩⟩ : Ev) == 0
 case false => simp only [PXb, he]; rfl
 simp only [PXb, he]
 cases h5 : m14 == 5
 case true => rfl
 simp only [PXb]
 have ok := cT hv
 refine bind_ok (r := .int (JE (⟨⟨m0, m1, m2, m3, m4, m5, m6, m7, m8, m9, m10, m11, m12, m13⟩, m14, m15, m16, m17, m18, m19, m20, m21, m22⟩ : Mat) (⟨e0, e1, e2, e3, e4, e5, e6, ⟨e7, e8, e9, e10, e11, e12, e13, e14, e15, e16, e17, e18⟩⟩ : Ev)).2 :: (JE (⟨⟨m0, m1, m2, m3, m4, m5, m6, m7, m8, m9, m10, m11, m12, m13⟩, m14, m15, m16, m17, m18, m19, m20, m21, m22⟩ : Mat) (⟨e0, e1, e2, e3, e4, e5, e6, ⟨e7, e8, e9, e10, e11, e12, e13, e14, e15, e16, e17, e18⟩⟩ : Ev)).1.ls) ?_ ?_
 ·unfold JE
  cases hk1 : e0 == 1
  case true =>
   simp only [PXb, EN, HK]
   cases m14 == 1 <;> cases e4 <;> rfl
  cases hk2 : e0 == 2
  case true =>
   simp only [PXb]
   cases hs2 : m14 == 2
   case false => rfl
   have hl2 : m17.length ≤ 1048576 := by omega
   have h304 : iSm ((m17.length + 1 : Nat) : Int) 304 = true := J6 (by omega) (by omega)
   have fb := fun a b c => (O1 (⟨⟨m0, m1, m2, m3, m4, m5, m6, m7, m8, m9, m10, m11, m12, m13⟩, m14, m15, m16, m17, m18, m19, m20, m21, m22⟩ : Mat).rules a b c).1
   have wb : ∀ a b c, (Dp (⟨⟨m0, m1, m2, m3, m4, m5, m6, m7, m8, m9, m10, m11, m12, m13⟩, m14, m15, m16, m17, m18, m19, m20, m21, m22⟩ : Mat).rules a b c).1.before.length + (Dp (⟨⟨m0, m1, m2, m3, m4, m5, m6, m7, m8, m9, m10, m11, m12, m13⟩, m14, m15, m16, m17, m18, m19, m20, m21, m22⟩ : Mat).rules a b c).1.bowlers.length ≤ 1000000 := fun a b c => by
    rw [(O1 (⟨⟨m0, m1, m2, m3, m4, m5, m6, m7, m8, m9, m10, m11, m12, m13⟩, m14, m15, m16, m17, m18, m19, m20, m21, m22⟩ : Mat).rules a b c).2.1, (O1 (⟨⟨m0, m1, m2, m3, m4, m5, m6, m7, m8, m9, m10, m11, m12, m13⟩, m14, m15, m16, m17, m18, m19, m20, m21, m22⟩ : Mat).rules a b c).2.2]
    exact Nat.zero_le _
   rcases go (m := (⟨⟨m0, m1, m2, m3, m4, m5, m6, m7, m8, m9, m10, m11, m12, m13⟩, m14, m15, m16, m17, m18, m19, m20, m21, m22⟩ : Mat)) (ok.toss hs2) (m17.length : Int) with ho | ho
   ·simp only [PXb, PXc, Jg, cU, Nat.reduceAdd, Int.reduceBEq, PXi, PXr, Inn.eta, BB, List.length_append, List.length_cons, List.length_nil, h304, aN, El, EA, De, Ca, N4, Rb hN hl2, QN hN hs, Mj (fb _ _ _) (wb _ _ _) hN hs h13, ho, wr1, wr2, cX, bA]
    cases (Dp (⟨⟨m0, m1, m2, m3, m4, m5, m6, m7, m8, m9, m10, m11, m12, m13⟩, m14, m15, m16, m17, m18, m19, m20, m21, m22⟩ : Mat).rules 1 (It (⟨⟨m0, m1, m2, m3, m4, m5, m6, m7, m8, m9, m10, m11, m12, m13⟩, m14, m15, m16, m17, m18, m19, m20, m21, m22⟩ : Mat) 1) m18).2 == 0 <;> try rfl
    cases (D8 (⟨⟨m0, m1, m2, m3, m4, m5, m6, m7, m8, m9, m10, m11, m12, m13⟩, m14, m15, m16, m17, m18, m19, m20, m21, m22⟩ : Mat).rules (Dp (⟨⟨m0, m1, m2, m3, m4, m5, m6, m7, m8, m9, m10, m11, m12, m13⟩, m14, m15, m16, m17, m18, m19, m20, m21, m22⟩ : Mat).rules 1 (It (⟨⟨m0, m1, m2, m3, m4, m5, m6, m7, m8, m9, m10, m11, m12, m13⟩, m14, m15, m16, m17, m18, m19, m20, m21, m22⟩ : Mat) 1) m18).1 (⟨e0, e1, e2, e3, e4, e5, e6, ⟨e7, e8, e9, e10, e11, e12, e13, e14, e15, e16, e17, e18⟩⟩ : Ev)).2 == 0 <;> rfl
   ·simp only [PXb, PXc, Jg, cU, Nat.reduceAdd, Int.reduceBEq, PXi, PXr, Inn.eta, BB, List.length_append, List.length_cons, List.length_nil, h304, aN, El, EA, De, Ca, N4, Rb hN hl2, QN hN hs, Mj (fb _ _ _) (wb _ _ _) hN hs h13, ho, wr1, wr2, cX, bA]
    cases (Dp (⟨⟨m0, m1, m2, m3, m4, m5, m6, m7, m8, m9, m10, m11, m12, m13⟩, m14, m15, m16, m17, m18, m19, m20, m21, m22⟩ : Mat).rules 2 (It (⟨⟨m0, m1, m2, m3, m4, m5, m6, m7, m8, m9, m10, m11, m12, m13⟩, m14, m15, m16, m17, m18, m19, m20, m21, m22⟩ : Mat) 2) m19).2 == 0 <;> try rfl
    cases (D8 (⟨⟨m0, m1, m2, m3, m4, m5, m6, m7, m8, m9, m10, m11, m12, m13⟩, m14, m15, m16, m17, m18, m19, m20, m21, m22⟩ : Mat).rules (Dp (⟨⟨m0, m1, m2, m3, m4, m5, m6, m7, m8, m9, m10, m11, m12, m13⟩, m14, m15, m16, m17, m18, m19, m20, m21, m22⟩ : Mat).rules 2 (It (⟨⟨m0, m1, m2, m3, m4, m5, m6, m7, m8, m9, m10, m11, m12, m13⟩, m14, m15, m16, m17, m18, m19, m20, m21, m22⟩ : Mat) 2) m19).1 (⟨e0, e1, e2, e3, e4, e5, e6, ⟨e7, e8, e9, e10, e11, e12, e13, e14, e15, e16, e17, e18⟩⟩ : Ev)).2 == 0 <;> rfl
  cases hk3 : e0 == 12
  case true =>
   simp only [PXb]
   cases m14 == 4 <;> cases e1 == m15 <;> rfl
  cases hk4 : e0 == 16
  case true =>
   simp only [PXb, eW]
   cases h3 : m14 == 3
   case false => simp only [PXb, PXc, PXi, PXr, Jg, Nat.reduceAdd, Cu, H6]; rfl
   simp only [PXb, PXc, PXi, PXr, Jg, Nat.reduceAdd, Rw (ok.begun h3) hl, Cu, H6]
   rfl
  simp only [PXb]
  cases h3 : m14 == 3
  case false => rfl
  have h0 := ok.begun h3
  have lv := Sl (ok.innv (lnx m17) (bi h0 hl)).1
  have fl : (inn m17 (IntKind.i64.wrap ((m17.length : Int) - 1)).toNat).Fit := lv.2.2
  have wl : (inn m17 (IntKind.i64.wrap ((m17.length : Int) - 1)).toNat).before.length + (inn m17 (IntKind.i64.wrap ((m17.length : Int) - 1)).toNat).bowlers.length ≤ 1000000 := by
   have h1 := lv.1
   have h2 := lv.2.1
   change (inn m17 (IntKind.i64.wrap ((m17.length : Int) - 1)).toNat).bowlers.length ≤ 11 at h1
   change (inn m17 (IntKind.i64.wrap ((m17.length : Int) - 1)).toNat).before.length ≤ 11 at h2
   omega
  have f1 := Rm (UH (⟨⟨m0, m1, m2, m3, m4, m5, m6, m7, m8, m9, m10, m11, m12, m13⟩, m14, m15, m16, m17, m18, m19, m20, m21, m22⟩ : Mat).rules (inn m17 (IntKind.i64.wrap ((m17.length : Int) - 1)).toNat) (⟨e0, e1, e2, e3, e4, e5, e6, ⟨e7, e8, e9, e10, e11, e12, e13, e14, e15, e16, e17, e18⟩⟩ : Ev)) fl (by omega)
  simp only [PXb, PXc, PXi, PXr, BB, Inn.eta, Jg, Nat.reduceAdd, List.length_set, Rw h0 hl, Ca, Mj fl wl hN hs h13, aK, Bz, lnx]
  generalize hX : D8 (⟨⟨m0, m1, m2, m3, m4, m5, m6, m7, m8, m9, m10, m11, m12, m13⟩, m14, m15, m16, m17, m18, m19, m20, m21, m22⟩ : Mat).rules (inn m17 (IntKind.i64.wrap ((m17.length : Int) - 1)).toNat) (⟨e0, e1, e2, e3, e4, e5, e6, ⟨e7, e8, e9, e10, e11, e12, e13, e14, e15, e16, e17, e18⟩⟩ : Ev) = X at f1
  have fy := Sr (IntKind.i64.wrap ((m17.length : Int) - 1)).toNat hf f1
  generalize hy : m17.set (IntKind.i64.wrap ((m17.length : Int) - 1)).toNat X.1 = ys at fy
  have ly : ys.length = m17.length := by rw [← hy, List.length_set]
  cases X.2 == 0 <;> try rfl
  cases h13k : e0 == 13
  case false => rfl
  cases hsd : e1 == X.1.side
  case true => rfl
  simp only [PXb, Option.bind_assoc]
  have e0w : IntKind.i64.wrap ((m17.length : Int) - 1) = (m17.length : Int) - 1 - ((0 : Nat) : Int) := by
   rw [beq_eq_false_iff_ne] at h0
   rw [EJ (by omega) (by omega)]; omega
  rw [e0w]
  have hside := fc (e := (⟨e0, e1, e2, e3, e4, e5, e6, ⟨e7, e8, e9, e10, e11, e12, e13, e14, e15, e16, e17, e18⟩⟩ : Ev)) he h13k
  simp only at hside
  refine AZ (X9 (len := m17.length) (fun j => [.int ((m17.length : Int) - 1 - (j : Int))]) (fun j => cond ((inn ys (m17.length - 1 - j)).side == e1) (some [PV.str m0, PV.int m1, PV.int m2, PV.int m3, PV.int m4, PV.int m5, PV.int m6, PV.int m7, PV.bool m8, PV.int m9, PV.int m10, PV.int m11, PV.int m12, PV.rows m13, PV.int m14, PV.int m15, PV.bool m16, PV.rows (AR (ys.set (m17.length - 1 - j) (VA (inn ys (m17.length - 1 - j))))), PV.int m18, PV.int m19, PV.int m20, PV.int m21, PV.int m22]) none) ?_ ?_ m17.length 0 N (by omega) (by omega)) ?_
  ·intro self
   have q1 : iLe 0 ((m17.length : Int) - 1 - (m17.length : Int)) = false := by simp only [iLe, decide_eq_false_iff_not]; omega
   simp only [PXb, q1]
  ·intro i self hi
   have q1 : iLe 0 ((m17.length : Int) - 1 - (i : Int)) = true := by simp only [iLe, decide_eq_true_eq]; omega
   have q2 : iIn ((m17.length : Int) - 1 - (i : Int)) (m17.length : Int) = true := by simp only [iIn, decide_eq_true_eq]; omega
   have q3 : ((m17.length : Int) - 1 - (i : Int)).toNat = m17.length - 1 - i := by omega
   have q4 : IntKind.i64.wrap ((m17.length : Int) - 1 - (i : Int) - 1) = (m17.length : Int) - 1 - ((i + 1 : Nat) : Int) := by rw [EJ (by omega) (by omega)]; omega
   have q5 := fy (m17.length - 1 - i) (by omega)
   simp only [PXb, PXc, q1, q2, q3, q4, GV, OG q5, PXm]
   cases (inn ys (m17.length - 1 - i)).side == e1 <;> rfl
  ·have hfa := dW ys e1 (fun k => [PV.str m0, PV.int m1, PV.int m2, PV.int m3, PV.int m4, PV.int m5, PV.int m6, PV.int m7, PV.bool m8, PV.int m9, PV.int m10, PV.int m11, PV.int m12, PV.rows m13, PV.int m14, PV.int m15, PV.bool m16, PV.rows (AR (ys.set k (VA (inn ys k)))), PV.int m18, PV.int m19, PV.int m20, PV.int m21, PV.int m22]) m17.length m17.length (Nat.le_refl _)
   rw [Nat.sub_self] at hfa
   rw [hfa]
   unfold LA
   simp only [ly]
   cases Q1 ys e1 m17.length with
   | some k => rfl
   | none =>
    rcases hside with h | h <;> subst h
    ·simp only [Option.map_none, VH, PXb, PXc, Jg, Int.reduceBEq, wr1, cX]
     rfl
    ·simp only [Option.map_none, VH, PXb, PXc, Jg, Int.reduceBEq, wr2, bA]
     rfl
 ·have ak := fV ok (⟨e0, e1, e2, e3, e4, e5, e6, ⟨e7, e8, e9, e10, e11, e12, e13, e14, e15, e16, e17, e18⟩⟩ : Ev)
  generalize JE (⟨⟨m0, m1, m2, m3, m4, m5, m6, m7, m8, m9, m10, m11, m12, m13⟩, m14, m15, m16, m17, m18, m19, m20, m21, m22⟩ : Mat) (⟨e0, e1, e2, e3, e4, e5, e6, ⟨e7, e8, e9, e10, e11, e12, e13, e14, e15, e16, e17, e18⟩⟩ : Ev) = A at ak
  obtain ⟨⟨⟨a0, a1, a2, a3, a4, a5, a6, a7, a8, a9, a10, a11, a12, a13⟩, a14, a15, a16, a17, a18, a19, a20, a21, a22⟩, l⟩ := A
  obtain ⟨k1, k2, k3, k4⟩ := ak
  simp only at k1 k2 k3 k4
  have hl5 : a17.length ≤ 1048576 := by omega
  have hs5 : a0.size ≤ 1048576 := by
   have := congrArg Rul.name k1
   simp only at this
   rw [this]; exact hs
  simp only [PXb, PXc, PXk, PXi, Jg, Nat.reduceAdd]
  cases hl0 : l == 0
  case false => rfl
  simp only [PXb, NM]
  cases h3 : a14 == 3
  case false => rfl
  have h0 := k4 hl0 h3
  have li := Rw h0 (show a17.length ≤ 1000000 by omega)
  simp only [PXb, PXc, PXi, li]
  cases he2 : (inn a17 (IntKind.i64.wrap ((a17.length : Int) - 1)).toNat).ending == 0
  case true => simp only [PXb, Bz, lnx, he2]
  simp only [PXb, PXc, PXi, Bz, lnx, he2, IY, EN, G8, OD hN hl5, HK, X6 k2 hN (show a17.length ≤ 1000000 by omega) hs5]
  unfold Rz
  simp only [Bz, lnx]
  simp only [CX, Bz, lnx]
  cases hq1 : ((a17.length : Int) == IntKind.i64.wrap (2 * a2))
  case true => rfl
  cases hq2 : ((a17.length : Int) == 3)
  case true =>
   simp only [PXb]
   cases iLt (Nx a17 (inn a17 (IntKind.i64.wrap ((a17.length : Int) - 1)).toNat).side a17.length) (Nx a17 (DD (inn a17 (IntKind.i64.wrap ((a17.length : Int) - 1)).toNat).side) a17.length)
   case true => rfl
   simp only [PXb]
   cases ((a17.length : Int) == 2) && iLt 0 a10 && iLe a10 (IntKind.i64.wrap (Nx a17 a15 a17.length - Nx a17 (DD a15) a17.length)) <;> rfl
  simp only [PXb]
  cases ((a17.length : Int) == 2) && iLt 0 a10 && iLe a10 (IntKind.i64.wrap (Nx a17 a15 a17.length - Nx a17 (DD a15) a17.length)) <;> rfl
end Go.Px
end
section
namespace Go.Px
set_option maxRecDepth 100000
theorem dG (m : Mat) : (Rz m).rules = m.rules ∧ (Rz m).inns = m.inns := by
 unfold Rz
 dsimp only
 cases ((m.inns.length : Int) == IntKind.i64.wrap (2 * m.rules.innings) || ((m.inns.length : Int) == 3 && iLt (CX m (Bz m).side) (CX m (DD (Bz m).side)))) with
 | true => exact ⟨rfl, rfl⟩
 | false =>
  cases ((m.inns.length : Int) == 2 && iLt 0 m.rules.followon && iLe m.rules.followon (IntKind.i64.wrap (CX m m.first - CX m (DD m.first)))) <;> exact ⟨rfl, rfl⟩
theorem Xt (m : Mat) : (NM m).rules = m.rules ∧ (NM m).inns = m.inns := by
 unfold NM
 cases (m.stage == 3 && !((Bz m).ending == 0)) with
 | true => exact dG m
 | false => exact ⟨rfl, rfl⟩
structure StepOk (r : Rul) (m : Mat) : Prop where
 rules : m.rules = r
 fit : HZ m.inns
 len : m.inns.length ≤ 5
theorem SY {r : Rul} {m : Mat} (h : StepOk r m) (e : Ev) : StepOk r (Cf m e).1 := by
 unfold Cf
 cases hv : G9 m with
 | false => exact h
 | true =>
  cases he : evS e == 0 with
  | false => exact h
  | true =>
   cases h5 : m.stage == 5 with
   | true => exact h
   | false =>
    have a := fV (cT hv) e
    cases hx : (JE m e).2 == 0 with
    | false => exact h
    | true =>
     have k := Xt (JE m e).1
     exact ⟨k.1.trans (a.rules.trans h.rules), by show HZ (NM _).inns; rw [k.2]; exact a.fit, by show (NM _).inns.length ≤ 5; rw [k.2]; exact a.len⟩
theorem dZ (r : Rul) (h : ((Cs r).2 == 0) = true) : StepOk r (Cs r).1 := by
 unfold Cs at h ⊢
 cases hc : A2 r == 0 with
 | false => rw [hc] at h; exact absurd (show (A2 r == 0) = true from h) (by rw [hc]; decide)
 | true => exact ⟨rfl, fun i hi => absurd hi (Nat.not_lt_zero i), Nat.zero_le _⟩
theorem iM {m : Mat} {e : Ev} (h : ((Cf m e).2 == 0) = true) : G9 m = true ∧ (evS e == 0) = true ∧ (m.stage == 5) = false ∧ ((JE m e).2 == 0) = true ∧ (Cf m e).1 = NM (JE m e).1 := by
 unfold Cf at h ⊢
 cases hv : G9 m with
 | false => rw [hv] at h; exact absurd (show ((1 : Int) == 0) = true from h) (by decide)
 | true =>
  cases he : evS e == 0 with
  | false => rw [hv, he] at h; exact absurd (show ((1 : Int) == 0) = true from h) (by decide)
  | true =>
   cases h5 : m.stage == 5 with
   | true => rw [hv, he, h5] at h; exact absurd (show ((26 : Int) == 0) = true from h) (by decide)
   | false =>
    cases hx : (JE m e).2 == 0 with
    | false => rw [hv, he, h5, hx] at h; exact absurd (show ((JE m e).2 == 0) = true from h) (by rw [hx]; decide)
    | true => exact ⟨rfl, rfl, rfl, rfl, rfl⟩
theorem eA {m : Mat} {e : Ev} (h : ((Cf m e).2 == 0) = true) (hk : (e.kind == 4) = true) : (m.stage == 3) = true ∧ ((m.inns.length : Int) == 0) = false ∧ ((D8 m.rules (Bz m) e).2 == 0) = true ∧ (Cf m e).1.inns = m.inns.set (lnx m.inns) (D8 m.rules (Bz m) e).1 := by
 obtain ⟨hv, he, h5, ha, hs⟩ := iM h
 have hk4 := beq_iff_eq.1 hk
 rw [hs, (Xt _).2]
 unfold JE at ha ⊢
 simp only [hk4, Int.reduceBEq, cond_false] at ha ⊢
 cases h3 : m.stage == 3 with
 | false => rw [h3] at ha; exact absurd (show ((1 : Int) == 0) = true from ha) (by decide)
 | true =>
  rw [h3] at ha
  simp only [Bool.not_true, cond_false] at ha ⊢
  unfold aK at ha ⊢
  cases hq : (D8 m.rules (Bz m) e).2 == 0 with
  | false => simp only [hq, Bool.not_false, cond_true] at ha; exact absurd ha Bool.false_ne_true
  | true =>
   simp only [hk4, Int.reduceBEq, Bool.false_and, hq, Bool.not_true, cond_false]
   exact ⟨trivial, (cT hv).begun h3, trivial, trivial⟩
theorem dz (b : ByteArray) : (b.toList == b.toList) = true := beq_self_eq_true _
theorem Oy {N : Nat} {L : Rows} (hN : 2097152 < N) (h13 : L.length ≤ 1048576) : Cg N [.rows L, .rows L] = some [.bool true] := by
 show D7 (std (Ja N) N) (xOf _) = _
 simp only [D7, std, xOf, PXb, PXm]
 refine AZ (Gr (len := L.length) (fun i => [.int (i : Int)]) [.int 1] ?_ ?_ N (by omega)) ?_
 ·intro self
  simp only [PXb, PXc, PXn, AD, BK]
 ·intro i self hi
  simp only [PXb, PXc, PXn, PXm, Nat.reduceAdd, Int.reduceBEq, Ah (show i ≤ 1099511627776 by omega), A1 hi, Ad hi]
  rfl
 ·simp only [PXb, PXc, PXn, PXm, Nat.reduceAdd, Int.reduceBEq]
theorem XZ {N : Nat} {r1 r2 r3 r4 r5 r6 r7 r9 r10 r11 r12 : Int} {r8 : Bool} {r0 : ByteArray} {r13 : Rows}  : FQ N [.str r0, .int r1, .int r2, .int r3, .int r4, .int r5, .int r6, .int r7, .bool r8, .int r9, .int r10, .int r11, .int r12, .rows r13] = some [.int r1, .int r2, .int r3, .int r4, .int r5, .int r6, .int r7, .int r9, .int r10, .int r11, .int r12] := by
 show Hj (std (OM N) N) (xOf _) = _
 simp only [Hj, std, xOf, PXb, PXc, PXn, PXm, Nat.reduceAdd, Int.reduceBEq]
theorem Vs {N : Nat} {r1 r2 r3 r4 r5 r6 r7 r9 r10 r11 r12 : Int} {r8 : Bool} {r0 : ByteArray} {r13 : Rows} (hN : 2097152 < N) (h13 : r13.length ≤ 1048576) : Lx N [.str r0, .int r1, .int r2, .int r3, .int r4, .int r5, .int r6, .int r7, .bool r8, .int r9, .int r10, .int r11, .int r12, .rows r13, .str r0, .int r1, .int r2, .int r3, .int r4, .int r5, .int r6, .int r7, .bool r8, .int r9, .int r10, .int r11, .int r12, .rows r13] = some [.bool true] := by
 show Le (std (Iw N) N) (xOf _) = _
 simp only [Le, N1, Kx, std, xOf, PXb, PXc, PXn, PXm, Nat.reduceAdd, Int.reduceBEq, dz, XZ, Oy hN h13]
end Go.Px
end
section
namespace Go.Px
set_option maxRecDepth 100000
def evR (L : Rows) (i : Nat) : Ev := ⟨atI L i 0, atI L i 1, atI L i 2, atI L i 3, atB L i 4, atI L i 5, atI L i 6, ⟨atI L i 7, atI L i 8, atI L i 9, atI L i 10, atI L i 11, atB L i 12, atI L i 13, atI L i 14, atI L i 15, atI L i 16, atB L i 17, atI L i 18⟩⟩
theorem aM (L : Rows) (i : Nat) : (⟨atI L i 0, atI L i 1, atI L i 2, atI L i 3, atB L i 4, atI L i 5, atI L i 6, ⟨atI L i 7, atI L i 8, atI L i 9, atI L i 10, atI L i 11, atB L i 12, atI L i 13, atI L i 14, atI L i 15, atI L i 16, atB L i 17, atI L i 18⟩⟩ : Ev) = evR L i := rfl
def Az (i : Int) (m : Mat) (e : Ev) : Mat × Int := cond (iLe 4000 i) (m, 26) (Cf m e)
def Gy (L : Rows) : Nat → Nat → Mat → Mat × Int × Int
 | 0, _, m => (m, -1, 0)
 | k + 1, i, m => cond (!((Az i m (evR L i)).2 == 0)) (m, (i : Int), (Az i m (evR L i)).2) (Gy L k (i + 1) (Az i m (evR L i)).1)
def Xb (i : Int) (m t : Mat) (d : Del) : List PV :=
 [.int i, .int (IntKind.i64.wrap ((m.inns.length : Int) - 1)), .int (Bz m).complete, .int (Bz m).inover, .int (Bz m).bowler, .int (Bz m).striker, .int (Bz m).other, .bool (Bz m).freehit,
  .int d.type, .int d.source, .int d.runs, .int d.short, .int d.boundary, .bool d.crossed, .int d.how, .int d.victim, .int d.fielder, .int d.second, .bool d.sub, .int d.sector,
  .int (Ba m.rules d).batter, .int (Ba m.rules d).wides, .int (Ba m.rules d).noballs, .int (Ba m.rules d).byes, .int (Ba m.rules d).legbyes, .int (Ba m.rules d).bowler, .bool (Ba m.rules d).counts, .bool (Ba m.rules d).faced, .bool (Ba m.rules d).wicket, .bool (Ba m.rules d).swap,
  .int (inn t.inns (lnx m.inns)).runs, .int (inn t.inns (lnx m.inns)).wickets]
def Qw (L : Rows) : Nat → Nat → Mat → Rows → Rows
 | 0, _, _, out => out
 | k + 1, i, m, out => cond (!((Az i m (evR L i)).2 == 0)) out (Qw L k (i + 1) (Az i m (evR L i)).1 (cond ((evR L i).kind == 4) (out ++ [Xb i m (Az i m (evR L i)).1 (evR L i).ball]) out))
def et (f : Mat × Int × Int) : List PV := [.str f.1.rules.name, .int f.1.rules.side, .int f.1.rules.innings, .int f.1.rules.overs, .int f.1.rules.balls, .int f.1.rules.quota, .int f.1.rules.wide, .int f.1.rules.noball, .bool f.1.rules.freehit, .int f.1.rules.newball, .int f.1.rules.followon, .int f.1.rules.reviews, .int f.1.rules.outside, .rows f.1.rules.power, .int f.1.stage, .int f.1.first, .bool f.1.follow, .rows (AR f.1.inns), .int f.1.pen1, .int f.1.pen2, .int f.1.win, .int f.1.wside, .int f.1.margin, .int f.2.1, .int f.2.2]
def Bd (r : Rul) (L : Rows) : Mat × Int × Int := cond (!((Cs r).2 == 0)) (iU, 0, 1) (Gy L L.length 0 (Cs r).1)
def Yi (r : Rul) (L : Rows) : Rows := cond (!((Cs r).2 == 0)) [] (Qw L L.length 0 (Cs r).1 [])
theorem cR (L : Rows) : ∀ k i m, ((Gy L k i m).2.1 == -1) = true → (Gy L k i m).2.2 = 0
 | 0, _, _, _ => rfl
 | k + 1, i, m, h => by
  unfold Gy at h ⊢
  cases hq : (Az i m (evR L i)).2 == 0 with
  | false =>
   rw [hq] at h
   have := beq_iff_eq.1 (show ((i : Int) == -1) = true from h)
   omega
  | true => rw [hq] at h; exact cR L k (i + 1) _ h
theorem aP {r : Rul} {m : Mat} (h : StepOk r m) (i : Int) (e : Ev) : StepOk r (Az i m e).1 := by
 unfold Az
 cases iLe 4000 i with
 | true => exact h
 | false => exact SY h e
theorem fM {m : Mat} {i : Int} {e : Ev} (h : ((Az i m e).2 == 0) = true) : Az i m e = Cf m e ∧ iLe 4000 i = false := by
 unfold Az at h ⊢
 cases h4 : iLe 4000 i with
 | true => rw [h4] at h; exact absurd (show ((26 : Int) == 0) = true from h) (by decide)
 | false => exact ⟨rfl, rfl⟩
theorem eC {N : Nat} {m1 m2 m3 m4 m5 m6 m7 m9 m10 m11 m12 m14 m15 m18 m19 m20 m21 m22 : Int} {m8 m16 : Bool} {m0 : ByteArray} {m13 : Rows} {m17 : List Inn} {i : Int} {e0 e1 e2 e3 e5 e6 e7 e8 e9 e10 e11 e13 e14 e15 e16 e18 : Int} {e4 e12 e17 : Bool} (hN : 2097152 < N) (hf : HZ m17) (hl : m17.length ≤ 1000000) (hs : m0.size ≤ 1048576) (h13 : m13.length ≤ 1048576) : Lg N [.str m0, .int m1, .int m2, .int m3, .int m4, .int m5, .int m6, .int m7, .bool m8, .int m9, .int m10, .int m11, .int m12, .rows m13, .int m14, .int m15, .bool m16, .rows (AR m17), .int m18, .int m19, .int m20, .int m21, .int m22, .int i, .int e0, .int e1, .int e2, .int e3, .bool e4, .int e5, .int e6, .int e7, .int e8, .int e9, .int e10, .int e11, .bool e12, .int e13, .int e14, .int e15, .int e16, .bool e17, .int e18] = some (Om (Az i (⟨⟨m0, m1, m2, m3, m4, m5, m6, m7, m8, m9, m10, m11, m12, m13⟩, m14, m15, m16, m17, m18, m19, m20, m21, m22⟩ : Mat) (⟨e0, e1, e2, e3, e4, e5, e6, ⟨e7, e8, e9, e10, e11, e12, e13, e14, e15, e16, e17, e18⟩⟩ : Ev))) := by
 show L3 (std (GY N) N) (xOf _) = _
 generalize hres : (some (Om (Az i (⟨⟨m0, m1, m2, m3, m4, m5, m6, m7, m8, m9, m10, m11, m12, m13⟩, m14, m15, m16, m17, m18, m19, m20, m21, m22⟩ : Mat) (⟨e0, e1, e2, e3, e4, e5, e6, ⟨e7, e8, e9, e10, e11, e12, e13, e14, e15, e16, e17, e18⟩⟩ : Ev))) : Option (List PV)) = RR
 simp only [L3, Rx, std, xOf, PXb, PZ hN hf hl hs h13]
 subst hres; simp only [Az]
 cases iLe 4000 i <;> rfl
theorem X3 {N : Nat} {i : Int} {m1 m2 m3 m4 m5 m6 m7 m9 m10 m11 m12 m14 m15 m18 m19 m20 m21 m22 : Int} {m8 m16 : Bool} {m0 : ByteArray} {m13 : Rows} {m17 : List Inn} {t1 t2 t3 t4 t5 t6 t7 t9 t10 t11 t12 t14 t15 t18 t19 t20 t21 t22 : Int} {t8 t16 : Bool} {t0 : ByteArray} {t13 : Rows} {t17 : List Inn} {d0 d1 d2 d3 d4 d6 d7 d8 d9 d11 : Int} {d5 d10 : Bool} (h1 : iIn (IntKind.i64.wrap ((m17.length : Int) - 1)) (m17.length : Int) = true) (h2 : iIn (IntKind.i64.wrap ((m17.length : Int) - 1)) (t17.length : Int) = true) : Hm N [.int i, .str m0, .int m1, .int m2, .int m3, .int m4, .int m5, .int m6, .int m7, .bool m8, .int m9, .int m10, .int m11, .int m12, .rows m13, .int m14, .int m15, .bool m16, .rows (AR m17), .int m18, .int m19, .int m20, .int m21, .int m22, .str t0, .int t1, .int t2, .int t3, .int t4, .int t5, .int t6, .int t7, .bool t8, .int t9, .int t10, .int t11, .int t12, .rows t13, .int t14, .int t15, .bool t16, .rows (AR t17), .int t18, .int t19, .int t20, .int t21, .int t22, .int d0, .int d1, .int d2, .int d3, .int d4, .bool d5, .int d6, .int d7, .int d8, .int d9, .bool d10, .int d11] = some (Xb i (⟨⟨m0, m1, m2, m3, m4, m5, m6, m7, m8, m9, m10, m11, m12, m13⟩, m14, m15, m16, m17, m18, m19, m20, m21, m22⟩ : Mat) (⟨⟨t0, t1, t2, t3, t4, t5, t6, t7, t8, t9, t10, t11, t12, t13⟩, t14, t15, t16, t17, t18, t19, t20, t21, t22⟩ : Mat) (⟨d0, d1, d2, d3, d4, d5, d6, d7, d8, d9, d10, d11⟩ : Del)) := by
 show Hq (std (JF N) N) (xOf _) = _
 simp only [Hq, K5, std, xOf, PXb, PXi, h1, h2, OH]
 rfl
end Go.Px
end
section
namespace Go.Px
set_option maxRecDepth 100000
def PX (L : Rows) (i : Nat) (s : Rows × Mat) : List PV ⊕ Rows × Mat := cond (!((Az i s.2 (evR L i)).2 == 0)) (.inl (.int 0 :: .rows s.1 :: .int i :: .int (Az i s.2 (evR L i)).2 :: s.2.ls)) (.inr (cond ((evR L i).kind == 4) (s.1 ++ [Xb i s.2 (Az i s.2 (evR L i)).1 (evR L i).ball]) s.1, (Az i s.2 (evR L i)).1))
def eD (out : Rows) (f : Mat × Int × Int) : List PV := cond (f.2.1 == -1) (.int 1 :: .rows out :: f.1.ls) (.int 0 :: .rows out :: .int f.2.1 :: .int f.2.2 :: f.1.ls)
theorem ZU (L : Rows) : ∀ k i s, S8 (PX L) (fun s => .int 1 :: .rows s.1 :: s.2.ls) k i s = eD (Qw L k i s.2 s.1) (Gy L k i s.2)
 | 0, _, _ => rfl
 | k + 1, i, s => by
  simp only [S8, PX, Gy, Qw]
  cases (Az i s.2 (evR L i)).2 == 0 with
  | false =>
   simp only [Bool.not_false, cond_true, eD]
   rw [show ((i : Int) == -1) = false from beq_false_of_ne (show (i : Int) ≠ -1 by omega)]
   rfl
  | true => exact ZU L k (i + 1) _
def fu (out : Rows) (f : Mat × Int × Int) : List PV := [.rows out, .str f.1.rules.name, .int f.1.rules.side, .int f.1.rules.innings, .int f.1.rules.overs, .int f.1.rules.balls, .int f.1.rules.quota, .int f.1.rules.wide, .int f.1.rules.noball, .bool f.1.rules.freehit, .int f.1.rules.newball, .int f.1.rules.followon, .int f.1.rules.reviews, .int f.1.rules.outside, .rows f.1.rules.power, .int f.1.stage, .int f.1.first, .bool f.1.follow, .rows (AR f.1.inns), .int f.1.pen1, .int f.1.pen2, .int f.1.win, .int f.1.wside, .int f.1.margin, .int f.2.1, .int f.2.2]
theorem jy {m t : Mat} {e : Ev} (hl : m.inns.length ≤ 5) (h : ((Cf m e).2 == 0) = true) (hk : (e.kind == 4) = true) (ht : (Cf m e).1 = t) : iIn (IntKind.i64.wrap ((m.inns.length : Int) - 1)) (m.inns.length : Int) = true ∧ iIn (IntKind.i64.wrap ((m.inns.length : Int) - 1)) (t.inns.length : Int) = true := by
 obtain ⟨_, h2, _, h4⟩ := eA h hk
 have := Rw h2 (show m.inns.length ≤ 1000000 by omega)
 rw [← ht, h4, List.length_set]
 exact ⟨this, this⟩
set_option maxHeartbeats 8000000 in
theorem em {N : Nat} {r1 r2 r3 r4 r5 r6 r7 r9 r10 r11 r12 : Int} {r8 : Bool} {r0 : ByteArray} {r13 : Rows} {L : Rows} (hN : 2097152 < N) (hs : r0.size ≤ 1048576) (h13 : r13.length ≤ 1048576) (hL : L.length ≤ 1048576) : Lh N [.str r0, .int r1, .int r2, .int r3, .int r4, .int r5, .int r6, .int r7, .bool r8, .int r9, .int r10, .int r11, .int r12, .rows r13, .rows L] = some (fu (Yi (⟨r0, r1, r2, r3, r4, r5, r6, r7, r8, r9, r10, r11, r12, r13⟩ : Rul) L) (Bd (⟨r0, r1, r2, r3, r4, r5, r6, r7, r8, r9, r10, r11, r12, r13⟩ : Rul) L)) := by
  show Lu (std (DL N) N) (xOf _) = _
  generalize hres : (some (fu (Yi (⟨r0, r1, r2, r3, r4, r5, r6, r7, r8, r9, r10, r11, r12, r13⟩ : Rul) L) (Bd (⟨r0, r1, r2, r3, r4, r5, r6, r7, r8, r9, r10, r11, r12, r13⟩ : Rul) L)) : Option (List PV)) = RR
  simp only [Lu, SN, MH, H5, std, xOf, PXb, V7 hN hs h13]
  subst hres; simp only [Yi, Bd]
  have nk := dZ (⟨r0, r1, r2, r3, r4, r5, r6, r7, r8, r9, r10, r11, r12, r13⟩ : Rul)
  generalize Cs (⟨r0, r1, r2, r3, r4, r5, r6, r7, r8, r9, r10, r11, r12, r13⟩ : Rul) = X at nk
  obtain ⟨⟨⟨m0, m1, m2, m3, m4, m5, m6, m7, m8, m9, m10, m11, m12, m13⟩, m14, m15, m16, m17, m18, m19, m20, m21, m22⟩, l⟩ := X
  simp only at nk
  simp only [PXb, PXc, PXk, Nat.reduceAdd]
  cases hl : l == 0
  case false => rfl
  have ok := nk hl
  simp only [PXb]
  refine AZ (Ue (St := Rows × Mat) (len := L.length) (enc := fun i s => [.rows s.1, .int (i : Int), .str s.2.rules.name, .int s.2.rules.side, .int s.2.rules.innings, .int s.2.rules.overs, .int s.2.rules.balls, .int s.2.rules.quota, .int s.2.rules.wide, .int s.2.rules.noball, .bool s.2.rules.freehit, .int s.2.rules.newball, .int s.2.rules.followon, .int s.2.rules.reviews, .int s.2.rules.outside, .rows s.2.rules.power, .int s.2.stage, .int s.2.first, .bool s.2.follow, .rows (AR s.2.inns), .int s.2.pen1, .int s.2.pen2, .int s.2.win, .int s.2.wside, .int s.2.margin])
    (body := PX L) (fin := fun s => .int 1 :: .rows s.1 :: s.2.ls) (fun i s => StepOk (⟨r0, r1, r2, r3, r4, r5, r6, r7, r8, r9, r10, r11, r12, r13⟩ : Rul) s.2 ∧ s.1.length ≤ i) ?_ ?_ L.length 0 ([], (⟨⟨m0, m1, m2, m3, m4, m5, m6, m7, m8, m9, m10, m11, m12, m13⟩, m14, m15, m16, m17, m18, m19, m20, m21, m22⟩ : Mat)) N (by omega) (by omega) ⟨ok, Nat.zero_le _⟩) ?_
  · intro m self _
    simp only [PXb, PXc, PXn, AD, BK]
    rfl
  · intro i s self hi ok
    obtain ⟨out, ⟨⟨a0, a1, a2, a3, a4, a5, a6, a7, a8, a9, a10, a11, a12, a13⟩, a14, a15, a16, a17, a18, a19, a20, a21, a22⟩⟩ := s
    obtain ⟨ok, hout⟩ := ok
    have o1 := ok.rules
    have o2 := ok.fit
    have o3 := ok.len
    simp only at o1 o2 o3 hout
    cases o1
    have kp := aP ok (i : Int) (evR L i)
    have acc := fM (m := (⟨⟨r0, r1, r2, r3, r4, r5, r6, r7, r8, r9, r10, r11, r12, r13⟩, a14, a15, a16, a17, a18, a19, a20, a21, a22⟩ : Mat)) (i := (i : Int)) (e := evR L i)
    refine ⟨?_, ?_⟩
    · simp only [PXb, PXc, PXn, AD, Ah (show i ≤ 1099511627776 by omega), A1 hi, Ad hi, MH, eC hN o2 (show a17.length ≤ 1000000 by omega) hs h13, B9, Rr, Nat.reduceAdd, PXk, PXc, aM, List.length_append, List.length_cons, List.length_nil, H5]
      unfold PX
      simp only
      generalize hT : Az (i : Int) (⟨⟨r0, r1, r2, r3, r4, r5, r6, r7, r8, r9, r10, r11, r12, r13⟩, a14, a15, a16, a17, a18, a19, a20, a21, a22⟩ : Mat) (evR L i) = T at acc
      obtain ⟨⟨⟨b0, b1, b2, b3, b4, b5, b6, b7, b8, b9, b10, b11, b12, b13⟩, b14, b15, b16, b17, b18, b19, b20, b21, b22⟩, l2⟩ := T
      simp only at acc
      simp only
      cases hl2 : l2 == 0
      case false => rfl
      have hk0 : (evR L i).kind = atI L i 0 := rfl
      rw [hk0]
      simp only [PXb]
      cases hk : atI L i 0 == 4
      case false => rfl
      have ha := (acc hl2).1
      have hd := jy (m := (⟨⟨r0, r1, r2, r3, r4, r5, r6, r7, r8, r9, r10, r11, r12, r13⟩, a14, a15, a16, a17, a18, a19, a20, a21, a22⟩ : Mat)) (e := evR L i) o3 (by rw [← ha]; exact hl2) hk (congrArg Prod.fst ha).symm
      simp only at hd
      have h216 : iSm ((out.length + 1 : Nat) : Int) 216 = true := J6 (by omega) (by omega)
      simp only [PXb, PXc, X3 hd.1 hd.2, h216]
      rfl
    · intro s' h
      unfold PX at h
      simp only at h
      cases hq : (Az (i : Int) (⟨⟨r0, r1, r2, r3, r4, r5, r6, r7, r8, r9, r10, r11, r12, r13⟩, a14, a15, a16, a17, a18, a19, a20, a21, a22⟩ : Mat) (evR L i)).2 == 0 with
      | false => rw [hq] at h; cases h
      | true =>
        rw [hq] at h; cases h
        refine ⟨kp, ?_⟩
        cases (evR L i).kind == 4 with
        | false => show out.length ≤ _; omega
        | true => show (out ++ [_]).length ≤ _; rw [List.length_append]; simp; omega
  · rw [ZU]
    have he := cR L L.length 0 (⟨⟨m0, m1, m2, m3, m4, m5, m6, m7, m8, m9, m10, m11, m12, m13⟩, m14, m15, m16, m17, m18, m19, m20, m21, m22⟩ : Mat)
    simp only
    generalize Qw L L.length 0 (⟨⟨m0, m1, m2, m3, m4, m5, m6, m7, m8, m9, m10, m11, m12, m13⟩, m14, m15, m16, m17, m18, m19, m20, m21, m22⟩ : Mat) [] = out
    generalize Gy L L.length 0 (⟨⟨m0, m1, m2, m3, m4, m5, m6, m7, m8, m9, m10, m11, m12, m13⟩, m14, m15, m16, m17, m18, m19, m20, m21, m22⟩ : Mat) = f at he
    obtain ⟨⟨⟨a0, a1, a2, a3, a4, a5, a6, a7, a8, a9, a10, a11, a12, a13⟩, a14, a15, a16, a17, a18, a19, a20, a21, a22⟩, b, l⟩ := f
    simp only at he
    unfold eD
    cases hb : b == -1 with
    | false => rfl
    | true =>
      rw [he hb, beq_iff_eq.1 hb]
      rfl
end Go.Px
end
section
namespace Go.Px
set_option maxRecDepth 100000
theorem T2 {N : Nat} {r1 r2 r3 r4 r5 r6 r7 r9 r10 r11 r12 : Int} {r8 : Bool} {r0 : ByteArray} {r13 : Rows} {L : Rows} (hN : 2097152 < N) (hs : r0.size ≤ 1048576) (h13 : r13.length ≤ 1048576) (hL : L.length ≤ 1048576) : ET N [.str r0, .int r1, .int r2, .int r3, .int r4, .int r5, .int r6, .int r7, .bool r8, .int r9, .int r10, .int r11, .int r12, .rows r13, .rows L] = some (et (Bd (⟨r0, r1, r2, r3, r4, r5, r6, r7, r8, r9, r10, r11, r12, r13⟩ : Rul) L)) := by
 show H8 (std (EF N) N) (xOf _) = _
 generalize hres : (some (et (Bd (⟨r0, r1, r2, r3, r4, r5, r6, r7, r8, r9, r10, r11, r12, r13⟩ : Rul) L)) : Option (List PV)) = RR
 simp only [H8, SE, std, xOf, PXb, em hN hs h13 hL]
 subst hres
 rfl
def Aw (r : Rul) (L : Rows) : Int := cond (!(A2 r == 0)) (A2 r) (cond (iLt 4000 (L.length : Int)) 9 (cond (!((Bd r L).2.2 == 0)) 10 0))
theorem HX {N : Nat} {r1 r2 r3 r4 r5 r6 r7 r9 r10 r11 r12 : Int} {r8 : Bool} {r0 : ByteArray} {r13 : Rows} {L : Rows} (hN : 2097152 < N) (hs : r0.size ≤ 1048576) (h13 : r13.length ≤ 1048576) (hL : L.length ≤ 1048576) : BU N [.str r0, .int r1, .int r2, .int r3, .int r4, .int r5, .int r6, .int r7, .bool r8, .int r9, .int r10, .int r11, .int r12, .rows r13, .rows L] = some [.int (Aw (⟨r0, r1, r2, r3, r4, r5, r6, r7, r8, r9, r10, r11, r12, r13⟩ : Rul) L)] := by
 show JT (std (Dh N) N) (xOf _) = _
 generalize hres : (some [.int (Aw (⟨r0, r1, r2, r3, r4, r5, r6, r7, r8, r9, r10, r11, r12, r13⟩ : Rul) L)] : Option (List PV)) = RR
 simp only [JT, QG, RP, std, xOf, PXb, Ck hN hs, T2 hN hs h13 hL, PXm]
 subst hres; simp only [Aw]
 rfl
def PW (L : Rows) (n : Int) : Rows := (L.take n.toNat).drop (0 : Int).toNat
structure LogOk (m : Mat) : Prop where
 fit : HZ m.inns
 len : m.inns.length ≤ 5
 name : m.rules.name.size ≤ 1048576
 power : m.rules.power.length ≤ 1048576
end Go.Px
end
section
namespace Go.Px
set_option maxRecDepth 100000
def acc (L : Rows) : Nat → Nat → Mat → Prop
 | 0, _, _ => True
 | k + 1, i, m => ((Az i m (evR L i)).2 == 0) = true ∧ acc L k (i + 1) (Az i m (evR L i)).1
def stM (L : Rows) : Nat → Nat → Mat → Mat
 | 0, _, m => m
 | k + 1, i, m => stM L k (i + 1) (Az i m (evR L i)).1
def iT (L : Rows) : Nat → Nat → Mat → Rows → Rows
 | 0, _, _, out => out
 | k + 1, i, m, out => iT L k (i + 1) (Az i m (evR L i)).1 (cond ((evR L i).kind == 4) (out ++ [Xb i m (Az i m (evR L i)).1 (evR L i).ball]) out)
theorem bB (L : Rows) : ∀ K i m, ∃ k, k ≤ K ∧ acc L k i m ∧ (∀ out, Qw L K i m out = iT L k i m out) ∧
    ((k = K ∧ Gy L K i m = (stM L k i m, -1, 0)) ∨ (k < K ∧ ((Az ((i + k : Nat) : Int) (stM L k i m) (evR L (i + k))).2 == 0) = false ∧ Gy L K i m = (stM L k i m, ((i + k : Nat) : Int), (Az ((i + k : Nat) : Int) (stM L k i m) (evR L (i + k))).2)))
  | 0, i, m => ⟨0, Nat.le_refl _, trivial, fun _ => rfl, Or.inl ⟨rfl, rfl⟩⟩
  | K + 1, i, m => by
    cases hq : (Az i m (evR L i)).2 == 0 with
    | false =>
      refine ⟨0, Nat.zero_le _, trivial, fun out => ?_, Or.inr ⟨Nat.succ_pos _, hq, ?_⟩⟩
      · simp only [Qw, hq, Bool.not_false, cond_true]; rfl
      · simp only [Gy, hq, Bool.not_false, cond_true]; rfl
    | true =>
      obtain ⟨k, h1, h2, h3, h4⟩ := bB L K (i + 1) (Az i m (evR L i)).1
      refine ⟨k + 1, Nat.succ_le_succ h1, ⟨hq, h2⟩, fun out => ?_, ?_⟩
      · simp only [Qw, hq, Bool.not_true, cond_false]
        exact h3 _
      · have e : Gy L (K + 1) i m = Gy L K (i + 1) (Az i m (evR L i)).1 := by simp only [Gy, hq, Bool.not_true, cond_false]
        rw [e, show i + (k + 1) = i + 1 + k by omega]
        rcases h4 with ⟨h5, h6⟩ | ⟨h5, h6⟩
        · exact Or.inl ⟨by omega, h6⟩
        · exact Or.inr ⟨by omega, h6⟩
theorem fJ {L : Rows} : ∀ k j i m, j ≤ k → acc L k i m → acc L j i m
 | _, 0, _, _, _, _ => trivial
 | 0, j + 1, _, _, h, _ => absurd h (by omega)
 | k + 1, j + 1, i, m, h, ha => ⟨ha.1, fJ k j (i + 1) _ (by omega) ha.2⟩
theorem WY (r : Rul) : ((Cs r).2 == 0) = (A2 r == 0) := by
 unfold Cs
 cases h : A2 r == 0 with
 | false => exact h
 | true => rfl
theorem iR {r : Rul} {L : Rows} : ∀ k i m, StepOk r m → StepOk r (stM L k i m)
 | 0, _, _, h => h
 | k + 1, i, m, h => iR k (i + 1) _ (aP h _ _)
theorem bh {L : Rows} : ∀ k i m, stM L (k + 1) i m = (Az ((i + k : Nat) : Int) (stM L k i m) (evR L (i + k))).1
 | 0, i, m => rfl
 | k + 1, i, m => by
  show stM L (k + 1) (i + 1) _ = _
  rw [bh k (i + 1), show i + 1 + k = i + (k + 1) by omega]
  rfl
end Go.Px
end
section
namespace Go.Px
set_option maxRecDepth 100000
def aU (xs ys : List Inn) : Bool := ((xs.length : Int) == (ys.length : Int)) && !A6 (fun i => !Va (inn xs i) (inn ys i)) xs.length 0
def VJ (x y : Mat) : Bool := x.stage == y.stage && (x.first == y.first && (x.follow == y.follow && (x.pen1 == y.pen1 && (x.pen2 == y.pen2 && (x.win == y.win && (x.wside == y.wside && (x.margin == y.margin && aU x.inns y.inns)))))))
theorem Nv {N : Nat} {xs ys : List Inn} (hN : 2097152 < N) (hf : HZ xs) (hl : xs.length ≤ 1000000) : Bh N [.rows (AR xs), .rows (AR ys)] = some [.bool (aU xs ys)] := by
 show Bi (std (A8 N) N) (xOf _) = _
 simp only [Bi, Cq, std, xOf, PXb, PXi]
 unfold aU
 cases hm : (xs.length : Int) == (ys.length : Int) with
 | false => rfl
 | true =>
  simp only [PXb, PXc, PXn, AD]
  refine AZ (EX (len := xs.length) (fun i => !Va (inn xs i) (inn ys i)) [.bool false] ?_ ?_ N (by omega)) ?_
  ·intro self
   simp only [PXb, PXc, PXn, AD, BK]
  ·intro i self hi
   simp only [PXb, PXc, PXn, AD, Ah (show i ≤ 1099511627776 by omega), A1 hi, Ad hi, VS hm hi, PXi, Nat.reduceAdd, Cq, ZC (hf i hi) hN]
  ·cases A6 (fun i => !Va (inn xs i) (inn ys i)) xs.length 0 <;> rfl
theorem cN {N : Nat} {m1 m2 m3 m4 m5 m6 m7 m9 m10 m11 m12 m14 m15 m18 m19 m20 m21 m22 : Int} {m8 m16 : Bool} {m0 : ByteArray} {m13 : Rows} {m17 : List Inn} {k1 k2 k3 k4 k5 k6 k7 k9 k10 k11 k12 k14 k15 k18 k19 k20 k21 k22 : Int} {k8 k16 : Bool} {k0 : ByteArray} {k13 : Rows} {k17 : List Inn} (hN : 2097152 < N) (hr : (⟨k0, k1, k2, k3, k4, k5, k6, k7, k8, k9, k10, k11, k12, k13⟩ : Rul) = (⟨m0, m1, m2, m3, m4, m5, m6, m7, m8, m9, m10, m11, m12, m13⟩ : Rul)) (hf : HZ m17) (hl : m17.length ≤ 1000000) (h13 : m13.length ≤ 1048576) : GE N [.str m0, .int m1, .int m2, .int m3, .int m4, .int m5, .int m6, .int m7, .bool m8, .int m9, .int m10, .int m11, .int m12, .rows m13, .int m14, .int m15, .bool m16, .rows (AR m17), .int m18, .int m19, .int m20, .int m21, .int m22, .str k0, .int k1, .int k2, .int k3, .int k4, .int k5, .int k6, .int k7, .bool k8, .int k9, .int k10, .int k11, .int k12, .rows k13, .int k14, .int k15, .bool k16, .rows (AR k17), .int k18, .int k19, .int k20, .int k21, .int k22] = some [.bool (VJ (⟨⟨m0, m1, m2, m3, m4, m5, m6, m7, m8, m9, m10, m11, m12, m13⟩, m14, m15, m16, m17, m18, m19, m20, m21, m22⟩ : Mat) (⟨⟨k0, k1, k2, k3, k4, k5, k6, k7, k8, k9, k10, k11, k12, k13⟩, k14, k15, k16, k17, k18, k19, k20, k21, k22⟩ : Mat))] := by
 cases hr
 show IP (std (C4 N) N) (xOf _) = _
 simp only [IP, QK, H1, std, xOf, PXb, Vs hN h13, Nv hN hf hl]
 unfold VJ
 dsimp only
 cases m14 == k14 <;> try rfl
 cases m15 == k15 <;> try rfl
 cases m16 == k16 <;> try rfl
 cases m18 == k18 <;> try rfl
 cases m19 == k19 <;> try rfl
 cases m20 == k20 <;> try rfl
 cases m21 == k21 <;> try rfl
 cases m22 == k22 <;> try rfl
end Go.Px
end
section
namespace Go.Px
set_option maxRecDepth 100000
def fwd (S : Nat → Bool) : Nat → Int × Int × Bool
 | 0 => (0, 0, true)
 | i + 1 => cond (S (i + 1)) (cond (fwd S i).2.2 ((i + 1 : Nat) : Int) (fwd S i).1, (fwd S i).2.1, (fwd S i).2.2) ((fwd S i).1, ((i + 2 : Nat) : Int), false)
def YR (r : Rul) (A B : Rows) (j : Nat) : Bool := VJ (stM A j 0 (Cs r).1) (stM B j 0 (Cs r).1)
def cj (r : Rul) (A B : Rows) : Int × Int × Int :=
 cond (!(Aw r A == 0)) (0, 0, Aw r A) (cond (!(Aw r B == 0)) (0, 0, Aw r B) (cond (!((A.length : Int) == (B.length : Int))) (0, 0, 1) ((fwd (YR r A B) A.length).1, (fwd (YR r A B) A.length).2.1, 0)))
theorem Zq {r : Rul} {L : Rows} (h : (Aw r L == 0) = true) : (A2 r == 0) = true ∧ acc L L.length 0 (Cs r).1 := by
 unfold Aw at h
 cases hc : A2 r == 0 with
 | false => rw [hc] at h; exact absurd (show (A2 r == 0) = true from h) (by rw [hc]; decide)
 | true =>
  rw [hc] at h
  cases h4 : iLt 4000 (L.length : Int) with
  | true => rw [h4] at h; cases h
  | false =>
   rw [h4] at h
   obtain ⟨k, h1, h2, _, h5⟩ := bB L L.length 0 (Cs r).1
   have hr : Bd r L = Gy L L.length 0 (Cs r).1 := by unfold Bd; rw [WY, hc]; rfl
   rcases h5 with ⟨h6, _⟩ | ⟨_, h6, h7⟩
   ·subst h6; exact ⟨rfl, h2⟩
   ·rw [hr, h7] at h
    simp only [h6] at h
    cases h
theorem Za {St : Type} {body : Nat → St → List PV ⊕ St} {fin : St → List PV} (I : Nat → St → Prop) (nx : Nat → St → St) (hb : ∀ i s, body i s = .inr (nx i s)) (hI : ∀ i s, I i s → I (i + 1) (nx i s)) :
    ∀ k i s, I i s → ∃ s', I (i + k) s' ∧ S8 body fin k i s = fin s'
  | 0, i, s, h => ⟨s, h, rfl⟩
  | k + 1, i, s, h => by
    obtain ⟨s', h1, h2⟩ := Za I nx hb hI k (i + 1) (nx i s) (hI i s h)
    refine ⟨s', by rw [show i + (k + 1) = i + 1 + k by omega]; exact h1, ?_⟩
    simp only [S8, hb]
    exact h2
def gZ (A B : Rows) (i : Nat) (s : Mat × Mat × Int × Int × Bool) : Mat × Mat × Int × Int × Bool :=
  ((Cf s.1 (evR A i)).1, (Cf s.2.1 (evR B i)).1, cond (VJ (Cf s.1 (evR A i)).1 (Cf s.2.1 (evR B i)).1) (cond s.2.2.2.2 ((i + 1 : Nat) : Int) s.2.2.1, s.2.2.2.1, s.2.2.2.2) (s.2.2.1, ((i + 2 : Nat) : Int), false))
theorem SU {L : Rows} {m : Mat} {i : Nat} (h : acc L L.length 0 m) (hi : i < L.length) : stM L (i + 1) 0 m = (Cf (stM L i 0 m) (evR L i)).1 := by
 have h1 := fJ L.length (i + 1) 0 m hi h
 have h2 : ∀ k j x, acc L (k + 1) j x → ((Az ((j + k : Nat) : Int) (stM L k j x) (evR L (j + k))).2 == 0) = true := by
  intro k
  induction k with
  | zero => intro j x hx; exact hx.1
  | succ k ih =>
   intro j x hx
   have := ih (j + 1) _ hx.2
   rw [show j + 1 + k = j + (k + 1) by omega] at this
   exact this
 have h3 := h2 i 0 m h1
 rw [bh i 0 m, Nat.zero_add]
 rw [Nat.zero_add] at h3
 rw [(fM h3).1]
set_option maxHeartbeats 8000000 in
theorem Wl {N : Nat} {r1 r2 r3 r4 r5 r6 r7 r9 r10 r11 r12 : Int} {r8 : Bool} {r0 : ByteArray} {r13 : Rows} {A B : Rows} (hN : 2097152 < N) (hs : r0.size ≤ 1048576) (h13 : r13.length ≤ 1048576) (hA : A.length ≤ 1000000) (hB : B.length ≤ 1000000) : EO N [.str r0, .int r1, .int r2, .int r3, .int r4, .int r5, .int r6, .int r7, .bool r8, .int r9, .int r10, .int r11, .int r12, .rows r13, .rows A, .rows B] = some (XU (cj (⟨r0, r1, r2, r3, r4, r5, r6, r7, r8, r9, r10, r11, r12, r13⟩ : Rul) A B)) := by
  show G1 (std (B5 N) N) (xOf _) = _
  generalize hres : (some (XU (cj (⟨r0, r1, r2, r3, r4, r5, r6, r7, r8, r9, r10, r11, r12, r13⟩ : Rul) A B)) : Option (List PV)) = RR
  simp only [G1, OA, Ny, GX, Gf, Gh, std, xOf, PXb, HX hN hs h13 (show A.length ≤ 1048576 by omega), HX hN hs h13 (show B.length ≤ 1048576 by omega), V7 hN hs h13]
  subst hres
  unfold cj
  cases ha : Aw (⟨r0, r1, r2, r3, r4, r5, r6, r7, r8, r9, r10, r11, r12, r13⟩ : Rul) A == 0
  case false => simp only [PXb, ha]; rfl
  cases hb : Aw (⟨r0, r1, r2, r3, r4, r5, r6, r7, r8, r9, r10, r11, r12, r13⟩ : Rul) B == 0
  case false => simp only [PXb, ha, hb]; rfl
  cases hl : (A.length : Int) == (B.length : Int)
  case false => simp only [PXb, ha, hb, hl]; rfl
  obtain ⟨hc, aa⟩ := Zq ha
  obtain ⟨_, ab⟩ := Zq hb
  have hlen := beq_iff_eq.1 hl
  have okm := dZ (⟨r0, r1, r2, r3, r4, r5, r6, r7, r8, r9, r10, r11, r12, r13⟩ : Rul) ((WY (⟨r0, r1, r2, r3, r4, r5, r6, r7, r8, r9, r10, r11, r12, r13⟩ : Rul)).trans hc)
  have n2 : ((Cs (⟨r0, r1, r2, r3, r4, r5, r6, r7, r8, r9, r10, r11, r12, r13⟩ : Rul)).2 == 0) = true := (WY (⟨r0, r1, r2, r3, r4, r5, r6, r7, r8, r9, r10, r11, r12, r13⟩ : Rul)).trans hc
  have o1 := okm.rules
  have on := fun L i => iR (L := L) i 0 _ okm
  simp only [PXb, PXc, ha, hb, hl, Om, n2, Nat.reduceAdd, GX, TY okm.fit hN (Nat.le_trans okm.len (show 5 ≤ 1000000 by omega)) (show (Cs (⟨r0, r1, r2, r3, r4, r5, r6, r7, r8, r9, r10, r11, r12, r13⟩ : Rul)).1.rules.power.length ≤ 1048576 by rw [o1]; exact h13)]
  refine AZ (Ue (St := Mat × Mat × Int × Int × Bool) (len := A.length) (enc := fun i s => [.int s.2.2.1, .int s.2.2.2.1, .bool s.2.2.2.2, .int (i : Int), .str s.1.rules.name, .int s.1.rules.side, .int s.1.rules.innings, .int s.1.rules.overs, .int s.1.rules.balls, .int s.1.rules.quota, .int s.1.rules.wide, .int s.1.rules.noball, .bool s.1.rules.freehit, .int s.1.rules.newball, .int s.1.rules.followon, .int s.1.rules.reviews, .int s.1.rules.outside, .rows s.1.rules.power, .int s.1.stage, .int s.1.first, .bool s.1.follow, .rows (AR s.1.inns), .int s.1.pen1, .int s.1.pen2, .int s.1.win, .int s.1.wside, .int s.1.margin, .str s.2.1.rules.name, .int s.2.1.rules.side, .int s.2.1.rules.innings, .int s.2.1.rules.overs, .int s.2.1.rules.balls, .int s.2.1.rules.quota, .int s.2.1.rules.wide, .int s.2.1.rules.noball, .bool s.2.1.rules.freehit, .int s.2.1.rules.newball, .int s.2.1.rules.followon, .int s.2.1.rules.reviews, .int s.2.1.rules.outside, .rows s.2.1.rules.power, .int s.2.1.stage, .int s.2.1.first, .bool s.2.1.follow, .rows (AR s.2.1.inns), .int s.2.1.pen1, .int s.2.1.pen2, .int s.2.1.win, .int s.2.1.wside, .int s.2.1.margin])
    (body := fun i s => .inr (gZ A B i s)) (fin := fun s => [.int s.2.2.1, .int s.2.2.2.1]) (fun i s => s.1 = stM A i 0 (Cs (⟨r0, r1, r2, r3, r4, r5, r6, r7, r8, r9, r10, r11, r12, r13⟩ : Rul)).1 ∧ s.2.1 = stM B i 0 (Cs (⟨r0, r1, r2, r3, r4, r5, r6, r7, r8, r9, r10, r11, r12, r13⟩ : Rul)).1) ?_ ?_ A.length 0 ((Cs (⟨r0, r1, r2, r3, r4, r5, r6, r7, r8, r9, r10, r11, r12, r13⟩ : Rul)).1, (Cs (⟨r0, r1, r2, r3, r4, r5, r6, r7, r8, r9, r10, r11, r12, r13⟩ : Rul)).1, 0, 0, true) N (by omega) (by omega) ⟨rfl, rfl⟩) ?_
  · intro s self _
    simp only [PXb, PXc, PXn, AD, BK]
  · intro i s self hi hs2
    have ok1 := on A i
    have ok2 := on B i
    rw [← hs2.1] at ok1
    rw [← hs2.2] at ok2
    have hib : i < B.length := by omega
    have k1 := SY ok1 (evR A i)
    have k2 := SY ok2 (evR B i)
    have nm : ∀ x : Mat, x.rules = (⟨r0, r1, r2, r3, r4, r5, r6, r7, r8, r9, r10, r11, r12, r13⟩ : Rul) → x.rules.name.size ≤ 1048576 ∧ x.rules.power.length ≤ 1048576 := fun x hx => by rw [hx]; exact ⟨hs, h13⟩
    have w2 : IntKind.i64.wrap ((i : Int) + 2) = (i : Int) + 2 := EJ (by omega) (by omega)
    refine ⟨?_, fun s' h => ?_⟩
    · simp only [PXb, PXc, PXn, AD, Ah (show i ≤ 1099511627776 by omega), w2, A1 hi, Ad hi, Ad hib, B9, Rr, Nat.reduceAdd, Gf, PZ hN ok1.fit (Nat.le_trans ok1.len (show 5 ≤ 1000000 by omega)) (nm _ ok1.rules).1 (nm _ ok1.rules).2, PZ hN ok2.fit (Nat.le_trans ok2.len (show 5 ≤ 1000000 by omega)) (nm _ ok2.rules).1 (nm _ ok2.rules).2, Om, PXc, aM,
        Gh, cN hN (k2.rules.trans k1.rules.symm) k1.fit (Nat.le_trans k1.len (show 5 ≤ 1000000 by omega)) (nm _ k1.rules).2]
      change (cond (VJ (Cf s.1 (evR A i)).1 (Cf s.2.1 (evR B i)).1) _ _) = _
      unfold gZ
      cases VJ (Cf s.1 (evR A i)).1 (Cf s.2.1 (evR B i)).1
      · rfl
      · cases s.2.2.2.2 <;> rfl
    · cases h
      have a1 := SU aa hi
      have a2 := SU (i := i) ab hib
      exact ⟨by rw [a1, ← hs2.1]; rfl, by rw [a2, ← hs2.2]; rfl⟩
  · obtain ⟨s', h1, h2⟩ := Za (fin := fun s => [.int s.2.2.1, .int s.2.2.2.1]) (fun i s => i ≤ A.length → (s.1 = stM A i 0 (Cs (⟨r0, r1, r2, r3, r4, r5, r6, r7, r8, r9, r10, r11, r12, r13⟩ : Rul)).1 ∧ s.2.1 = stM B i 0 (Cs (⟨r0, r1, r2, r3, r4, r5, r6, r7, r8, r9, r10, r11, r12, r13⟩ : Rul)).1) ∧ s.2.2 = fwd (YR (⟨r0, r1, r2, r3, r4, r5, r6, r7, r8, r9, r10, r11, r12, r13⟩ : Rul) A B) i) (gZ A B) (fun _ _ => rfl) (fun i s h hi => by
      obtain ⟨⟨e1, e2⟩, e3⟩ := h (by omega)
      have a1 := SU (i := i) aa (by omega)
      have a2 := SU (i := i) ab (by omega)
      refine ⟨⟨by rw [a1, ← e1]; rfl, by rw [a2, ← e2]; rfl⟩, ?_⟩
      rw [fwd, ← e3]
      unfold YR
      rw [a1, a2, ← e1, ← e2]
      rfl) A.length 0 ((Cs (⟨r0, r1, r2, r3, r4, r5, r6, r7, r8, r9, r10, r11, r12, r13⟩ : Rul)).1, (Cs (⟨r0, r1, r2, r3, r4, r5, r6, r7, r8, r9, r10, r11, r12, r13⟩ : Rul)).1, 0, 0, true) (fun _ => ⟨⟨rfl, rfl⟩, rfl⟩)
    rw [h2]
    rw [Nat.zero_add] at h1
    have e3 := (h1 (Nat.le_refl _)).2
    rw [← e3]
    rfl
end Go.Px
end
section
namespace Go.Px
set_option maxRecDepth 100000
def Hf (r : Rul) (L : Rows) : Rows × Int × Int := cond (!((Bd r L).2.2 == 0)) ([], (Bd r L).2.1, (Bd r L).2.2) (L, -1, 0)
def Da (x : Rows × Int × Int) : List PV := [.rows x.1, .int x.2.1, .int x.2.2]
theorem JO {N : Nat} {r1 r2 r3 r4 r5 r6 r7 r9 r10 r11 r12 : Int} {r8 : Bool} {r0 : ByteArray} {r13 : Rows} {L : Rows} (hN : 2097152 < N) (hs : r0.size ≤ 1048576) (h13 : r13.length ≤ 1048576) (hL : L.length ≤ 1048576) : Av N [.str r0, .int r1, .int r2, .int r3, .int r4, .int r5, .int r6, .int r7, .bool r8, .int r9, .int r10, .int r11, .int r12, .rows r13, .rows L] = some (Da (Hf (⟨r0, r1, r2, r3, r4, r5, r6, r7, r8, r9, r10, r11, r12, r13⟩ : Rul) L)) := by
 show Dz (std (CH N) N) (xOf _) = _
 generalize hres : (some (Da (Hf (⟨r0, r1, r2, r3, r4, r5, r6, r7, r8, r9, r10, r11, r12, r13⟩ : Rul) L)) : Option (List PV)) = RR
 simp only [Dz, Mr, std, xOf, PXb, T2 hN hs h13 hL, et, PXc]
 subst hres; simp only [Hf]
 cases (Bd (⟨r0, r1, r2, r3, r4, r5, r6, r7, r8, r9, r10, r11, r12, r13⟩ : Rul) L).2.2 == 0 <;> rfl
def Bx (e : Ev) : List PV := [.int e.kind, .int e.side, .int e.player, .int e.other, .bool e.yes, .int e.runs, .int e.overs] ++ e.ball.ls
def edL (L : Rows) (k : Int) (e : Ev) : Rows := L.set k.toNat (Bv (Ax L k.toNat) 0 (Bx e))
theorem R8 (L : Rows) (k : Int) (e : Ev) : (edL L k e).length = L.length := List.length_set
def edS (r : Rul) (L : Rows) (k : Int) (e : Ev) : Rows × Int × Int := cond (!(Aw r L == 0) || iLt k 0 || iLe (L.length : Int) k) ([], -1, 1) (Hf r (edL L k e))
theorem Fr {N : Nat} {r1 r2 r3 r4 r5 r6 r7 r9 r10 r11 r12 : Int} {r8 : Bool} {r0 : ByteArray} {r13 : Rows} {L : Rows} {k : Int} {e0 e1 e2 e3 e5 e6 e7 e8 e9 e10 e11 e13 e14 e15 e16 e18 : Int} {e4 e12 e17 : Bool} (hN : 2097152 < N) (hs : r0.size ≤ 1048576) (h13 : r13.length ≤ 1048576) (hL : L.length ≤ 1000000) : BQ N [.str r0, .int r1, .int r2, .int r3, .int r4, .int r5, .int r6, .int r7, .bool r8, .int r9, .int r10, .int r11, .int r12, .rows r13, .rows L, .int k, .int e0, .int e1, .int e2, .int e3, .bool e4, .int e5, .int e6, .int e7, .int e8, .int e9, .int e10, .int e11, .bool e12, .int e13, .int e14, .int e15, .int e16, .bool e17, .int e18] = some (Da (edS (⟨r0, r1, r2, r3, r4, r5, r6, r7, r8, r9, r10, r11, r12, r13⟩ : Rul) L k (⟨e0, e1, e2, e3, e4, e5, e6, ⟨e7, e8, e9, e10, e11, e12, e13, e14, e15, e16, e17, e18⟩⟩ : Ev))) := by
 show Ds (std (BP N) N) (xOf _) = _
 generalize hres : (some (Da (edS (⟨r0, r1, r2, r3, r4, r5, r6, r7, r8, r9, r10, r11, r12, r13⟩ : Rul) L k (⟨e0, e1, e2, e3, e4, e5, e6, ⟨e7, e8, e9, e10, e11, e12, e13, e14, e15, e16, e17, e18⟩⟩ : Ev))) : Option (List PV)) = RR
 simp only [Ds, NK, IU, Jq, std, xOf, PXb, HX hN hs h13 (show L.length ≤ 1048576 by omega), D2, BH (show L.length ≤ 1048576 by omega) (show 136 ≤ 4096 by omega), PXc]
 subst hres
 unfold edS
 cases hx : !Aw (⟨r0, r1, r2, r3, r4, r5, r6, r7, r8, r9, r10, r11, r12, r13⟩ : Rul) L == 0 || iLt k 0 || iLe (L.length : Int) k
 case true => rfl
 have hi : iIn k (L.length : Int) = true := by
  simp only [Bool.or_eq_false_iff, iLt, iLe, decide_eq_false_iff_not] at hx
  simp only [iIn, decide_eq_true_eq, Bool.and_eq_true]
  omega
 simp only [hi, PXb]
 have : Av N [.str r0, .int r1, .int r2, .int r3, .int r4, .int r5, .int r6, .int r7, .bool r8, .int r9, .int r10, .int r11, .int r12, .rows r13, .rows (edL L k (⟨e0, e1, e2, e3, e4, e5, e6, ⟨e7, e8, e9, e10, e11, e12, e13, e14, e15, e16, e17, e18⟩⟩ : Ev))] = some (Da (Hf (⟨r0, r1, r2, r3, r4, r5, r6, r7, r8, r9, r10, r11, r12, r13⟩ : Rul) (edL L k (⟨e0, e1, e2, e3, e4, e5, e6, ⟨e7, e8, e9, e10, e11, e12, e13, e14, e15, e16, e17, e18⟩⟩ : Ev)))) := JO hN hs h13 (by rw [R8]; omega)
 simp only [edL, Bx, Del.ls, List.cons_append, List.nil_append] at this
 simp only [this]
 rfl
theorem jb {r : Rul} {L : Rows} {k : Int} {e : Ev} (h : ((edS r L k e).2.2 == 0) = true) :
    (edS r L k e).1 = edL L k e ∧ 0 ≤ k ∧ k < (L.length : Int) ∧ (Aw r L == 0) = true ∧ (Aw r (edL L k e) == 0) = true := by
  unfold edS at h ⊢
  cases hx : !(Aw r L == 0) || iLt k 0 || iLe (L.length : Int) k with
  | true => rw [hx] at h; exact absurd (show ((1 : Int) == 0) = true from h) (by decide)
  | false =>
    rw [hx] at h
    simp only [cond_false] at h ⊢
    simp only [Bool.or_eq_false_iff, iLt, iLe, decide_eq_false_iff_not, Bool.not_eq_false'] at hx
    obtain ⟨⟨h1, h2⟩, h3⟩ := hx
    unfold Hf at h ⊢
    cases h4 : (Bd r (edL L k e)).2.2 == 0 with
    | false => rw [h4] at h; exact absurd (show ((Bd r (edL L k e)).2.2 == 0) = true from h) (by rw [h4]; decide)
    | true =>
      refine ⟨rfl, by omega, by omega, h1, ?_⟩
      unfold Aw at h1 ⊢
      rw [R8, h4]
      cases hc : A2 r == 0 with
      | false => rw [hc] at h1; exact absurd (show (A2 r == 0) = true from h1) (by rw [hc]; decide)
      | true =>
        rw [hc] at h1
        cases h5 : iLt 4000 (L.length : Int) with
        | true => rw [h5] at h1; cases h1
        | false => rfl
end Go.Px
end
