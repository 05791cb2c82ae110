/- Part 11. -/
import Derived.Test.YtapipgdcgmmkaaaGreatPart07
import Derived.Test.YtapipgdcgmmkaaaGreatPart10
import Derived.KernelRfl
set_option linter.unusedVariables false
set_option linter.unusedSimpArgs false
section
namespace Go.Px
def AZ (xs : List Inn) : Rows := xs.map Inn.ls
def dI : Inn := ⟨0, 0, 0, 0, 0, 0, 0, 0, 0, 0, 0, 0, 0, 0, [], 0, [], [], false, [], false, 0, 0, 0, [], 0, 0, 0⟩
def inn (xs : List Inn) (i : Nat) : Inn := xs.getD i dI
structure Mat where
 rules : Rul
 stage : Int
 first : Int
 follow : Bool
 inns : List Inn
 pen1 : Int
 pen2 : Int
 win : Int
 wside : Int
 margin : Int
def Mat.ls (m : Mat) : List PV := [.str m.rules.name, .int m.rules.side, .int m.rules.innings, .int m.rules.overs, .int m.rules.balls, .int m.rules.quota, .int m.rules.wide, .int m.rules.noball, .bool m.rules.freehit, .int m.rules.newball, .int m.rules.followon, .int m.rules.reviews, .int m.rules.outside, .rows m.rules.power, .int m.stage, .int m.first, .bool m.follow, .rows (AZ m.inns), .int m.pen1, .int m.pen2, .int m.win, .int m.wside, .int m.margin]
def LJ (x : Mat × Int) : List PV := [.str x.1.rules.name, .int x.1.rules.side, .int x.1.rules.innings, .int x.1.rules.overs, .int x.1.rules.balls, .int x.1.rules.quota, .int x.1.rules.wide, .int x.1.rules.noball, .bool x.1.rules.freehit, .int x.1.rules.newball, .int x.1.rules.followon, .int x.1.rules.reviews, .int x.1.rules.outside, .rows x.1.rules.power, .int x.1.stage, .int x.1.first, .bool x.1.follow, .rows (AZ x.1.inns), .int x.1.pen1, .int x.1.pen2, .int x.1.win, .int x.1.wside, .int x.1.margin, .int x.2]
theorem Vt (xs : List Inn) (i : Nat) : A0 (AZ xs) i = (match xs[i]? with | some s => s.ls | none => []) := by
 unfold A0 AZ
 rw [List.getD_eq_getElem?_getD, List.getElem?_map]
 cases xs[i]? <;> rfl
theorem Nh (xs : List Inn) (i : Nat) : inn xs i = (match xs[i]? with | some s => s | none => dI) := by
 unfold inn
 rw [List.getD_eq_getElem?_getD]
 cases xs[i]? <;> rfl
theorem Tq (xs : List Inn) : (AZ xs).length = xs.length := List.length_map _
theorem PXi : (∀ xs : List Inn, (AZ xs).length = xs.length) ∧ (∀ (xs : List Inn) (i : Nat), pvI (AH (AZ xs) i 0) = (inn xs i).side) ∧ (∀ (xs : List Inn) (i : Nat), pvI (AH (AZ xs) i 1) = (inn xs i).target) ∧ (∀ (xs : List Inn) (i : Nat), pvI (AH (AZ xs) i 2) = (inn xs i).overs) ∧ (∀ (xs : List Inn) (i : Nat), pvI (AH (AZ xs) i 3) = (inn xs i).runs) ∧
    (∀ (xs : List Inn) (i : Nat), pvI (AH (AZ xs) i 4) = (inn xs i).wickets) ∧ (∀ (xs : List Inn) (i : Nat), pvI (AH (AZ xs) i 5) = (inn xs i).wides) ∧ (∀ (xs : List Inn) (i : Nat), pvI (AH (AZ xs) i 6) = (inn xs i).noballs) ∧ (∀ (xs : List Inn) (i : Nat), pvI (AH (AZ xs) i 7) = (inn xs i).byes) ∧ (∀ (xs : List Inn) (i : Nat), pvI (AH (AZ xs) i 8) = (inn xs i).legbyes) ∧
    (∀ (xs : List Inn) (i : Nat), pvI (AH (AZ xs) i 9) = (inn xs i).pens) ∧ (∀ (xs : List Inn) (i : Nat), pvI (AH (AZ xs) i 10) = (inn xs i).complete) ∧ (∀ (xs : List Inn) (i : Nat), pvI (AH (AZ xs) i 11) = (inn xs i).inover) ∧ (∀ (xs : List Inn) (i : Nat), pvI (AH (AZ xs) i 12) = (inn xs i).striker) ∧ (∀ (xs : List Inn) (i : Nat), pvI (AH (AZ xs) i 13) = (inn xs i).other) ∧
    (∀ (xs : List Inn) (i : Nat), pvL (AH (AZ xs) i 14) = (inn xs i).batters) ∧ (∀ (xs : List Inn) (i : Nat), pvI (AH (AZ xs) i 15) = (inn xs i).bowler) ∧ (∀ (xs : List Inn) (i : Nat), pvL (AH (AZ xs) i 16) = (inn xs i).bowlers) ∧ (∀ (xs : List Inn) (i : Nat), pvL (AH (AZ xs) i 17) = (inn xs i).before) ∧ (∀ (xs : List Inn) (i : Nat), pvB (AH (AZ xs) i 18) = (inn xs i).fresh) ∧
    (∀ (xs : List Inn) (i : Nat), pvL (AH (AZ xs) i 19) = (inn xs i).bowled) ∧ (∀ (xs : List Inn) (i : Nat), pvB (AH (AZ xs) i 20) = (inn xs i).freehit) ∧ (∀ (xs : List Inn) (i : Nat), pvI (AH (AZ xs) i 21) = (inn xs i).ballage) ∧ (∀ (xs : List Inn) (i : Nat), pvI (AH (AZ xs) i 22) = (inn xs i).keeper) ∧ (∀ (xs : List Inn) (i : Nat), pvI (AH (AZ xs) i 23) = (inn xs i).outside) ∧
    (∀ (xs : List Inn) (i : Nat), pvL (AH (AZ xs) i 24) = (inn xs i).subs) ∧ (∀ (xs : List Inn) (i : Nat), pvI (AH (AZ xs) i 25) = (inn xs i).rev1) ∧ (∀ (xs : List Inn) (i : Nat), pvI (AH (AZ xs) i 26) = (inn xs i).rev2) ∧ (∀ (xs : List Inn) (i : Nat), pvI (AH (AZ xs) i 27) = (inn xs i).ending) := by
  refine ⟨Tq, ?_, ?_, ?_, ?_, ?_, ?_, ?_, ?_, ?_, ?_, ?_, ?_, ?_, ?_, ?_, ?_, ?_, ?_, ?_, ?_, ?_, ?_, ?_, ?_, ?_, ?_, ?_, ?_⟩
  all_goals (intro xs i; rw [Nh]; unfold AH; rw [Vt]; cases xs[i]? <;> rfl)
theorem Mat.eta (m : Mat) : Mat.mk m.rules m.stage m.first m.follow m.inns m.pen1 m.pen2 m.win m.wside m.margin = m := rfl
theorem PXk : (∀ m : Mat, m.ls = [.str m.rules.name, .int m.rules.side, .int m.rules.innings, .int m.rules.overs, .int m.rules.balls, .int m.rules.quota, .int m.rules.wide, .int m.rules.noball, .bool m.rules.freehit, .int m.rules.newball, .int m.rules.followon, .int m.rules.reviews, .int m.rules.outside, .rows m.rules.power, .int m.stage, .int m.first, .bool m.follow, .rows (AZ m.inns), .int m.pen1, .int m.pen2, .int m.win, .int m.wside, .int m.margin]) ∧
    (∀ x : Mat × Int, LJ x = [.str x.1.rules.name, .int x.1.rules.side, .int x.1.rules.innings, .int x.1.rules.overs, .int x.1.rules.balls, .int x.1.rules.quota, .int x.1.rules.wide, .int x.1.rules.noball, .bool x.1.rules.freehit, .int x.1.rules.newball, .int x.1.rules.followon, .int x.1.rules.reviews, .int x.1.rules.outside, .rows x.1.rules.power, .int x.1.stage, .int x.1.first, .bool x.1.follow, .rows (AZ x.1.inns), .int x.1.pen1, .int x.1.pen2, .int x.1.win, .int x.1.wside, .int x.1.margin, .int x.2]) ∧
    (∀ m : Mat, Mat.mk m.rules m.stage m.first m.follow m.inns m.pen1 m.pen2 m.win m.wside m.margin = m) := ⟨fun _ => rfl, fun _ => rfl, fun _ => rfl⟩
theorem Ym : ∀ (ps r pre : List PV), r.length = ps.length → Bx (pre ++ r) pre.length ps = pre ++ ps
 | [], r, pre, h => by
  have : r = [] := List.eq_nil_of_length_eq_zero h
  subst this
  rfl
 | p :: ps, [], pre, h => by cases h
 | p :: ps, a :: r, pre, h => by
  have ih := Ym ps r (pre ++ [p]) (by simpa using h)
  simp only [List.length_append, List.length_cons, List.length_nil, List.append_assoc, List.cons_append, List.nil_append] at ih
  unfold Bx
  rw [List.set_append_right _ _ (Nat.le_refl _), Nat.sub_self]
  exact ih
theorem dB (a s : Inn) : Bx a.ls 0 s.ls = s.ls := Ym s.ls a.ls [] rfl
theorem cN (a : Inn) (e : Int) : Bx a.ls 27 [.int e] = Inn.ls { a with ending := e } := by
 show a.ls.set 27 (.int e) = _
 rfl
theorem cH {xs : List Inn} {i : Nat} (h : i < xs.length) (s : Inn) : (AZ xs).set i (Bx (A0 (AZ xs) i) 0 s.ls) = AZ (xs.set i s) := by
 have e : A0 (AZ xs) i = (xs[i]).ls := by rw [Vt, List.getElem?_eq_getElem h]
 rw [e, dB]
 exact List.map_set.symm
theorem cc {xs : List Inn} {i : Nat} (h : i < xs.length) (e : Int) : (AZ xs).set i (Bx (A0 (AZ xs) i) 27 [.int e]) = AZ (xs.set i { inn xs i with ending := e }) := by
 have e1 : A0 (AZ xs) i = (inn xs i).ls := by rw [Vt, Nh, List.getElem?_eq_getElem h]
 rw [e1, cN]
 exact List.map_set.symm
theorem cQ (xs : List Inn) (s : Inn) : AZ xs ++ [s.ls] = AZ (xs ++ [s]) := by
 show List.map Inn.ls xs ++ List.map Inn.ls [s] = List.map Inn.ls (xs ++ [s])
 exact List.map_append.symm
theorem cn (xs : List Inn) (i : Nat) (s : Inn) : (AZ xs).set i (Bx (A0 (AZ xs) i) 0 s.ls) = AZ (xs.set i s) := by
 by_cases h : i < xs.length
 ·exact cH h s
 ·rw [List.set_eq_of_length_le (by rw [Tq]; omega), List.set_eq_of_length_le (by omega)]
theorem Yf (xs : List Inn) (i : Nat) (e : Int) : (AZ xs).set i (Bx (A0 (AZ xs) i) 27 [.int e]) = AZ (xs.set i { inn xs i with ending := e }) := by
 by_cases h : i < xs.length
 ·exact cc h e
 ·rw [List.set_eq_of_length_le (by rw [Tq]; omega), List.set_eq_of_length_le (by omega)]
theorem PXr : (∀ (xs : List Inn) (x0 x1 x2 x3 x4 x5 x6 x7 x8 x9 x10 x11 x12 x13 x15 x21 x22 x23 x25 x26 x27 : Int) (x18 x20 : Bool) (x14 x16 x17 x19 x24 : Rows), AZ xs ++ [([.int x0, .int x1, .int x2, .int x3, .int x4, .int x5, .int x6, .int x7, .int x8, .int x9, .int x10, .int x11, .int x12, .int x13, .rows x14, .int x15, .rows x16, .rows x17, .bool x18, .rows x19, .bool x20, .int x21, .int x22, .int x23, .rows x24, .int x25, .int x26, .int x27] : List PV)] = AZ (xs ++ [⟨x0, x1, x2, x3, x4, x5, x6, x7, x8, x9, x10, x11, x12, x13, x14, x15, x16, x17, x18, x19, x20, x21, x22, x23, x24, x25, x26, x27⟩])) ∧ (∀ (xs : List Inn) (i : Nat) (x0 x1 x2 x3 x4 x5 x6 x7 x8 x9 x10 x11 x12 x13 x15 x21 x22 x23 x25 x26 x27 : Int) (x18 x20 : Bool) (x14 x16 x17 x19 x24 : Rows), (AZ xs).set i (Bx (A0 (AZ xs) i) 0 [.int x0, .int x1, .int x2, .int x3, .int x4, .int x5, .int x6, .int x7, .int x8, .int x9, .int x10, .int x11, .int x12, .int x13, .rows x14, .int x15, .rows x16, .rows x17, .bool x18, .rows x19, .bool x20, .int x21, .int x22, .int x23, .rows x24, .int x25, .int x26, .int x27]) = AZ (xs.set i ⟨x0, x1, x2, x3, x4, x5, x6, x7, x8, x9, x10, x11, x12, x13, x14, x15, x16, x17, x18, x19, x20, x21, x22, x23, x24, x25, x26, x27⟩)) ∧
    (∀ (xs : List Inn) (i : Nat) (e : Int), (AZ xs).set i (Bx (A0 (AZ xs) i) 27 [.int e]) = AZ (xs.set i { inn xs i with ending := e })) :=
  ⟨fun xs x0 x1 x2 x3 x4 x5 x6 x7 x8 x9 x10 x11 x12 x13 x15 x21 x22 x23 x25 x26 x27 x18 x20 x14 x16 x17 x19 x24 => cQ xs ⟨x0, x1, x2, x3, x4, x5, x6, x7, x8, x9, x10, x11, x12, x13, x14, x15, x16, x17, x18, x19, x20, x21, x22, x23, x24, x25, x26, x27⟩, fun xs i x0 x1 x2 x3 x4 x5 x6 x7 x8 x9 x10 x11 x12 x13 x15 x21 x22 x23 x25 x26 x27 x18 x20 x14 x16 x17 x19 x24 => cn xs i ⟨x0, x1, x2, x3, x4, x5, x6, x7, x8, x9, x10, x11, x12, x13, x14, x15, x16, x17, x18, x19, x20, x21, x22, x23, x24, x25, x26, x27⟩, Yf⟩
end Go.Px
end
section
namespace Go.Px
set_option maxRecDepth 100000
def Ck (n : Int) : Int := IntKind.i64.wrap (3 - n)
theorem GU {N : Nat} {n : Int}  : Az N [.int n] = some [.int (Ck n)] := by
 show Ib (std (N7 N) N) (xOf _) = _
 simp only [Ib, std, xOf, PXb, PXc, PXn, PXm, Nat.reduceAdd, Int.reduceBEq, Ck]
def GD (m : Mat) (i : Int) : Int := cond (cond (m.follow && iLe 2 i) (i == 2) (i.tmod 2 == 1)) (Ck m.first) m.first
theorem Lx {N : Nat} {m1 m2 m3 m4 m5 m6 m7 m9 m10 m11 m12 m14 m15 m18 m19 m20 m21 m22 : Int} {m8 m16 : Bool} {m0 : ByteArray} {m13 : Rows} {m17 : List Inn} {i : Int}  : CM N [.str m0, .int m1, .int m2, .int m3, .int m4, .int m5, .int m6, .int m7, .bool m8, .int m9, .int m10, .int m11, .int m12, .rows m13, .int m14, .int m15, .bool m16, .rows (AZ m17), .int m18, .int m19, .int m20, .int m21, .int m22, .int i] = some [.int (GD (⟨⟨m0, m1, m2, m3, m4, m5, m6, m7, m8, m9, m10, m11, m12, m13⟩, m14, m15, m16, m17, m18, m19, m20, m21, m22⟩ : Mat) i)] := by
 show Id (std (JZ N) N) (xOf _) = _
 generalize hres : (some [.int (GD (⟨⟨m0, m1, m2, m3, m4, m5, m6, m7, m8, m9, m10, m11, m12, m13⟩, m14, m15, m16, m17, m18, m19, m20, m21, m22⟩ : Mat) i)] : Option (List PV)) = RR
 simp only [Id, Mm, std, xOf, PXb, PXc, PXn, PXm, Nat.reduceAdd, Int.reduceBEq, GU]
 subst hres; simp only [GD]
def MH (xs : List Inn) (side : Int) : Nat → Int
 | 0 => 0
 | i + 1 => cond ((inn xs i).side == side) (IntKind.i64.wrap (MH xs side i + (inn xs i).runs)) (MH xs side i)
def CA (m : Mat) (side : Int) : Int := MH m.inns side m.inns.length
theorem L2 {N : Nat} {m1 m2 m3 m4 m5 m6 m7 m9 m10 m11 m12 m14 m15 m18 m19 m20 m21 m22 : Int} {m8 m16 : Bool} {m0 : ByteArray} {m13 : Rows} {m17 : List Inn} {n : Int} (hN : 2097152 < N) (hl : m17.length ≤ 1048576) : BN N [.str m0, .int m1, .int m2, .int m3, .int m4, .int m5, .int m6, .int m7, .bool m8, .int m9, .int m10, .int m11, .int m12, .rows m13, .int m14, .int m15, .bool m16, .rows (AZ m17), .int m18, .int m19, .int m20, .int m21, .int m22, .int n] = some [.int (CA (⟨⟨m0, m1, m2, m3, m4, m5, m6, m7, m8, m9, m10, m11, m12, m13⟩, m14, m15, m16, m17, m18, m19, m20, m21, m22⟩ : Mat) n)] := by
 show Iu (std (OE N) N) (xOf _) = _
 generalize hres : (some [.int (CA (⟨⟨m0, m1, m2, m3, m4, m5, m6, m7, m8, m9, m10, m11, m12, m13⟩, m14, m15, m16, m17, m18, m19, m20, m21, m22⟩ : Mat) n)] : Option (List PV)) = RR
 simp only [Iu, std, xOf, PXb, PXi]
 subst hres; simp only [CA]
 refine Af (Nb (len := m17.length) (fun i => [.int (MH m17 n i), .int (i : Int)]) [.int (MH m17 n m17.length)] ?_ ?_ N (by omega)) rfl
 ·intro self
  simp only [PXb, PXc, PXn, AJ, B0]
 ·intro i self hi
  simp only [PXb, PXc, AJ, Al (show i ≤ 1099511627776 by omega), BH hi, Am hi, PXi, MH]
  cases (inn m17 i).side == n <;> rfl
def Hb (m : Mat) (side : Int) : Int :=
 cond (iLt (IntKind.i64.wrap ((m.inns.length : Int) + 1)) (IntKind.i64.wrap (2 * m.rules.innings))) 0 (IntKind.i64.wrap (IntKind.i64.wrap (CA m (Ck side) - CA m side) + 1))
theorem Pe {N : Nat} {m1 m2 m3 m4 m5 m6 m7 m9 m10 m11 m12 m14 m15 m18 m19 m20 m21 m22 : Int} {m8 m16 : Bool} {m0 : ByteArray} {m13 : Rows} {m17 : List Inn} {n : Int} (hN : 2097152 < N) (hl : m17.length ≤ 1048576) : FZ N [.str m0, .int m1, .int m2, .int m3, .int m4, .int m5, .int m6, .int m7, .bool m8, .int m9, .int m10, .int m11, .int m12, .rows m13, .int m14, .int m15, .bool m16, .rows (AZ m17), .int m18, .int m19, .int m20, .int m21, .int m22, .int n] = some [.int (Hb (⟨⟨m0, m1, m2, m3, m4, m5, m6, m7, m8, m9, m10, m11, m12, m13⟩, m14, m15, m16, m17, m18, m19, m20, m21, m22⟩ : Mat) n)] := by
 show He (std (F6 N) N) (xOf _) = _
 generalize hres : (some [.int (Hb (⟨⟨m0, m1, m2, m3, m4, m5, m6, m7, m8, m9, m10, m11, m12, m13⟩, m14, m15, m16, m17, m18, m19, m20, m21, m22⟩ : Mat) n)] : Option (List PV)) = RR
 simp only [He, MF, MD, std, xOf, PXb, PXc, PXn, PXm, Nat.reduceAdd, Int.reduceBEq, PXi, GU, L2 hN hl]
 subst hres; simp only [Hb]
def Ut (stage : Int) (xs : List Inn) (i : Nat) : Bool := !(((inn xs i).ending == 0) == (stage == 3 && ((i : Int) == IntKind.i64.wrap ((xs.length : Int) - 1))))
def RB (m : Mat) : Bool := !BF (Ut m.stage m.inns) m.inns.length 0 && (!(m.stage == 3) || iLt 0 (m.inns.length : Int))
theorem WY {N : Nat} {m1 m2 m3 m4 m5 m6 m7 m9 m10 m11 m12 m14 m15 m18 m19 m20 m21 m22 : Int} {m8 m16 : Bool} {m0 : ByteArray} {m13 : Rows} {m17 : List Inn} (hN : 2097152 < N) (hl : m17.length ≤ 1048576) : GJ N [.str m0, .int m1, .int m2, .int m3, .int m4, .int m5, .int m6, .int m7, .bool m8, .int m9, .int m10, .int m11, .int m12, .rows m13, .int m14, .int m15, .bool m16, .rows (AZ m17), .int m18, .int m19, .int m20, .int m21, .int m22] = some [.bool (RB (⟨⟨m0, m1, m2, m3, m4, m5, m6, m7, m8, m9, m10, m11, m12, m13⟩, m14, m15, m16, m17, m18, m19, m20, m21, m22⟩ : Mat))] := by
 show Il (std (ON N) N) (xOf _) = _
 generalize hres : (some [.bool (RB (⟨⟨m0, m1, m2, m3, m4, m5, m6, m7, m8, m9, m10, m11, m12, m13⟩, m14, m15, m16, m17, m18, m19, m20, m21, m22⟩ : Mat))] : Option (List PV)) = RR
 simp only [Il, std, xOf, PXb, PXi]
 subst hres; simp only [RB]
 refine Af (Iz (len := m17.length) (Ut m14 m17) [.bool false] ?_ ?_ N (by omega)) ?_
 ·intro self
  simp only [PXb, PXc, PXn, AJ, B0]
 ·intro i self hi
  simp only [PXb, PXc, AJ, Al (show i ≤ 1099511627776 by omega), BH hi, Am hi, PXi, Ut]
 ·cases BF (Ut m14 m17) m17.length 0 with
  | true => rfl
  | false => simp only [PXb, PXc, PXn, PXm, Nat.reduceAdd, Int.reduceBEq]
end Go.Px
end
section
namespace Go.Px
set_option maxRecDepth 100000
def I5 (xs : List Inn) : Prop := ∀ i, i < xs.length → (inn xs i).Fit
theorem QY {N : Nat} {r1 r2 r3 r4 r5 r6 r7 r9 r10 r11 r12 : Int} {r8 : Bool} {r0 : ByteArray} {r13 : Rows} (hl : r13.length ≤ 1048576) : CR N [.str r0, .int r1, .int r2, .int r3, .int r4, .int r5, .int r6, .int r7, .bool r8, .int r9, .int r10, .int r11, .int r12, .rows r13] = some [.str r0, .int r1, .int r2, .int r3, .int r4, .int r5, .int r6, .int r7, .bool r8, .int r9, .int r10, .int r11, .int r12, .rows r13] := by
 show Ij (std (J4 N) N) (xOf _) = _
 simp only [Ij, I0, std, xOf, PXb, PXc, PXn, PXm, Nat.reduceAdd, Int.reduceBEq, CK, A8 hl (show 24 ≤ 4096 by omega)]
theorem Wd {xs : List Inn} {i : Nat} (h : i < xs.length) : xs.take i ++ [inn xs i] = xs.take (i + 1) := by
 rw [List.take_add_one, Nh, List.getElem?_eq_getElem h]
 rfl
theorem Wm {N : Nat} {m1 m2 m3 m4 m5 m6 m7 m9 m10 m11 m12 m14 m15 m18 m19 m20 m21 m22 : Int} {m8 m16 : Bool} {m0 : ByteArray} {m13 : Rows} {m17 : List Inn} (hf : I5 m17) (hN : 2097152 < N) (hl : m17.length ≤ 1000000) (h13 : m13.length ≤ 1048576) : GT N [.str m0, .int m1, .int m2, .int m3, .int m4, .int m5, .int m6, .int m7, .bool m8, .int m9, .int m10, .int m11, .int m12, .rows m13, .int m14, .int m15, .bool m16, .rows (AZ m17), .int m18, .int m19, .int m20, .int m21, .int m22] = some [.str m0, .int m1, .int m2, .int m3, .int m4, .int m5, .int m6, .int m7, .bool m8, .int m9, .int m10, .int m11, .int m12, .rows m13, .int m14, .int m15, .bool m16, .rows (AZ m17), .int m18, .int m19, .int m20, .int m21, .int m22] := by
 show Ih (std (G5 N) N) (xOf _) = _
 simp only [Ih, M2, Fr, std, xOf, PXb, QY h13, PXi]
 refine Af (Nb (len := m17.length) (fun i => [.rows (AZ (m17.take i)), .int (i : Int)]) [.rows (AZ m17)] ?_ ?_ N (by omega)) rfl
 ·intro self
  simp only [PXb, PXc, PXn, AJ, B0, List.take_length]
 ·intro i self hi
  have h2 : (m17.take (i + 1)).length ≤ 1048576 := by rw [List.length_take]; omega
  have h3 : iSm ((m17.take (i + 1)).length : Int) 304 = true := Jg (by omega) (by omega)
  simp only [PXb, PXc, AJ, Al (show i ≤ 1099511627776 by omega), BH hi, Am hi, PXi, Fr, Bc (hf i hi), PXr, Inn.eta, h3, Wd hi, Nat.reduceAdd]
  rfl
def bn : Rul := ⟨⟨#[]⟩, 0, 0, 0, 0, 0, 0, 0, false, 0, 0, 0, 0, []⟩
def VE : Mat := ⟨bn, 0, 0, false, [], 0, 0, 0, 0, 0⟩
def ZN (r : Rul) : Mat × Int := cond (!(BA r == 0)) (VE, BA r) (⟨r, 1, 0, false, [], 0, 0, 0, 0, 0⟩, 0)
theorem YS {N : Nat} {r1 r2 r3 r4 r5 r6 r7 r9 r10 r11 r12 : Int} {r8 : Bool} {r0 : ByteArray} {r13 : Rows} (hN : 2097152 < N) (hs : r0.size ≤ 1048576) (h13 : r13.length ≤ 1048576) : IV N [.str r0, .int r1, .int r2, .int r3, .int r4, .int r5, .int r6, .int r7, .bool r8, .int r9, .int r10, .int r11, .int r12, .rows r13] = some (LJ (ZN (⟨r0, r1, r2, r3, r4, r5, r6, r7, r8, r9, r10, r11, r12, r13⟩ : Rul))) := by
 show LD (std (Ia N) N) (xOf _) = _
 generalize hres : (some (LJ (ZN (⟨r0, r1, r2, r3, r4, r5, r6, r7, r8, r9, r10, r11, r12, r13⟩ : Rul))) : Option (List PV)) = RR
 simp only [LD, N2, N5, std, xOf, PXb, PXc, PXn, PXm, Nat.reduceAdd, Int.reduceBEq, CN hN hs, QY h13]
 subst hres; simp only [ZN]
 cases BA (⟨r0, r1, r2, r3, r4, r5, r6, r7, r8, r9, r10, r11, r12, r13⟩ : Rul) == 0 <;> rfl
def XP (m : Mat) : Bool := (iLt m.pen1 0 || iLt 1000000 m.pen1) || (iLt m.pen2 0 || iLt 1000000 m.pen2)
def Rw (m : Mat) (i : Nat) : Bool := !IY m.rules (inn m.inns i) || !((inn m.inns i).side == GD m (i : Int))
def Zk (m : Mat) : Bool :=
  let n : Int := m.inns.length
  let most := IntKind.i64.wrap (2 * m.rules.innings)
  BA m.rules == 0 && (!(iLt m.stage 1) && (!(iLt 5 m.stage) && (!XP m && (!(iLt m.first 0 || iLt 2 m.first || iLt most n) && (!(m.first == 0 && (iLt 0 n || (!(m.stage == 1) && !(m.stage == 5)))) &&
    (!(m.stage == 1 && !(m.first == 0)) && (!(m.stage == 2 && n == most) && (!(m.stage == 4 && (!(m.rules.innings == 2) || !(n == 2))) && !(m.follow && (!(m.rules.innings == 2) || iLt n 2))))))))))
def IX (m : Mat) : Bool := Zk m && (!BF (Rw m) m.inns.length 0 && RB m)
set_option maxHeartbeats 4000000 in
theorem Qx {N : Nat} {m1 m2 m3 m4 m5 m6 m7 m9 m10 m11 m12 m14 m15 m18 m19 m20 m21 m22 : Int} {m8 m16 : Bool} {m0 : ByteArray} {m13 : Rows} {m17 : List Inn} (hf : I5 m17) (hN : 2097152 < N) (hl : m17.length ≤ 1000000) (hs : m0.size ≤ 1048576) : CO N [.str m0, .int m1, .int m2, .int m3, .int m4, .int m5, .int m6, .int m7, .bool m8, .int m9, .int m10, .int m11, .int m12, .rows m13, .int m14, .int m15, .bool m16, .rows (AZ m17), .int m18, .int m19, .int m20, .int m21, .int m22] = some [.bool (IX (⟨⟨m0, m1, m2, m3, m4, m5, m6, m7, m8, m9, m10, m11, m12, m13⟩, m14, m15, m16, m17, m18, m19, m20, m21, m22⟩ : Mat))] := by
 show Ii (std (C3 N) N) (xOf _) = _
 generalize hres : (some [.bool (IX (⟨⟨m0, m1, m2, m3, m4, m5, m6, m7, m8, m9, m10, m11, m12, m13⟩, m14, m15, m16, m17, m18, m19, m20, m21, m22⟩ : Mat))] : Option (List PV)) = RR
 simp only [Ii, Mk, Fu, Gu, Gr, std, xOf, PXb, CN hN hs, PXi]
 subst hres; simp only [IX, Zk]
 cases hc : BA (⟨⟨m0, m1, m2, m3, m4, m5, m6, m7, m8, m9, m10, m11, m12, m13⟩, m14, m15, m16, m17, m18, m19, m20, m21, m22⟩ : Mat).rules == 0 <;> (try rfl)
 cases h1 : iLt m14 1 <;> (try rfl)
 cases h5 : iLt 5 m14 <;> (try rfl)
 simp only [PXb]
 refine Af (Iz (len := 2) (fun i => iLt (cond ((i : Int) == 1) m19 m18) 0 || iLt 1000000 (cond ((i : Int) == 1) m19 m18)) [.bool false] ?_ ?_ N (by omega)) ?_
 ·intro self
  rfl
 ·intro i self hi
  simp only [PXb, Al (show i ≤ 1099511627776 by omega), show iLt (i : Int) 2 = true from BH (len := 2) hi, show iIn (i : Int) 2 = true from Am (len := 2) hi]
 ·have hp : BF (fun i => iLt (cond ((i : Int) == 1) m19 m18) 0 || iLt 1000000 (cond ((i : Int) == 1) m19 m18)) 2 0 = XP (⟨⟨m0, m1, m2, m3, m4, m5, m6, m7, m8, m9, m10, m11, m12, m13⟩, m14, m15, m16, m17, m18, m19, m20, m21, m22⟩ : Mat) := by
   simp only [BW, HN, Bool.or_false]
   rfl
  rw [hp]
  cases XP (⟨⟨m0, m1, m2, m3, m4, m5, m6, m7, m8, m9, m10, m11, m12, m13⟩, m14, m15, m16, m17, m18, m19, m20, m21, m22⟩ : Mat)
  case true => rfl
  simp only [PXb, IE, Int.reduceBEq]
  cases iLt m15 0 <;> try rfl
  cases iLt 2 m15 <;> try rfl
  cases iLt (IntKind.i64.wrap (2 * m2)) (m17.length : Int) <;> try rfl
  cases (m15 == 0 && (iLt 0 (m17.length : Int) || (!(m14 == 1) && !(m14 == 5)))) <;> try rfl
  cases (m14 == 1 && !(m15 == 0)) <;> try rfl
  cases (m14 == 2 && (m17.length : Int) == IntKind.i64.wrap (2 * m2)) <;> try rfl
  cases (m14 == 4 && (!(m2 == 2) || !((m17.length : Int) == 2))) <;> try rfl
  cases (m16 && (!(m2 == 2) || iLt (m17.length : Int) 2)) <;> try rfl
  simp only [PXb]
  refine Af (Iz (len := m17.length) (Rw (⟨⟨m0, m1, m2, m3, m4, m5, m6, m7, m8, m9, m10, m11, m12, m13⟩, m14, m15, m16, m17, m18, m19, m20, m21, m22⟩ : Mat)) [.bool false] ?_ ?_ N (by omega)) ?_
  ·intro self
   simp only [PXb, PXc, PXn, AJ, B0]
  ·intro i self hi
   simp only [PXb, PXc, PXn, PXm, Nat.reduceAdd, Int.reduceBEq, Al (show i ≤ 1099511627776 by omega), BH hi, Am hi, PXi, Fu, Gu, OG (hf i hi) hN hs, Lx, Rw]
   cases IY (⟨⟨m0, m1, m2, m3, m4, m5, m6, m7, m8, m9, m10, m11, m12, m13⟩, m14, m15, m16, m17, m18, m19, m20, m21, m22⟩ : Mat).rules (inn m17 i) <;> first | rfl | simp only [PXb, PXc, PXn, PXm, Nat.reduceAdd, Int.reduceBEq]
  ·cases BF (Rw (⟨⟨m0, m1, m2, m3, m4, m5, m6, m7, m8, m9, m10, m11, m12, m13⟩, m14, m15, m16, m17, m18, m19, m20, m21, m22⟩ : Mat)) m17.length 0
   case true => rfl
   simp only [PXb, PXc, PXn, PXm, Nat.reduceAdd, Int.reduceBEq, Gr, WY hN (show m17.length ≤ 1048576 by omega)]
end Go.Px
end
section
namespace Go.Px
set_option maxRecDepth 100000
def lnx (xs : List Inn) : Nat := (IntKind.i64.wrap ((xs.length : Int) - 1)).toNat
def DT (m : Mat) : Inn := inn m.inns (lnx m.inns)
theorem SO {n : Nat} (h : ((n : Int) == 0) = false) (hl : n ≤ 1000000) : iIn (IntKind.i64.wrap ((n : Int) - 1)) (n : Int) = true := by
 rw [beq_eq_false_iff_ne] at h
 rw [GV (by omega) (by omega)]
 simp only [iIn, decide_eq_true_eq]; omega
theorem XY {xs : List Inn} (h : ((xs.length : Int) == 0) = false) (hl : xs.length ≤ 1000000) : lnx xs < xs.length := by
 rw [beq_eq_false_iff_ne] at h
 unfold lnx
 rw [GV (by omega) (by omega)]
 omega
def UB (r : Rul) : Int := cond (r.overs == 0) 5 6
theorem HA {N : Nat} {r1 r2 r3 r4 r5 r6 r7 r9 r10 r11 r12 : Int} {r8 : Bool} {r0 : ByteArray} {r13 : Rows}  : BI N [.str r0, .int r1, .int r2, .int r3, .int r4, .int r5, .int r6, .int r7, .bool r8, .int r9, .int r10, .int r11, .int r12, .rows r13] = some [.int (UB (⟨r0, r1, r2, r3, r4, r5, r6, r7, r8, r9, r10, r11, r12, r13⟩ : Rul))] := by
 show Ec (std (Jy N) N) (xOf _) = _
 simp only [Ec, std, xOf, PXb, PXc, PXn, PXm, Nat.reduceAdd, Int.reduceBEq, UB]
def bk (x : Int × Int × Int) : List PV := [.int x.1, .int x.2.1, .int x.2.2]
def QN (m : Mat) : Int × Int × Int :=
  let n : Int := m.inns.length
  let most := IntKind.i64.wrap (2 * m.rules.innings)
  let x := DT m
  cond (!IX m || n == 0) (0, 0, 0) (cond (x.ending == 5) (UB m.rules, 0, 0) (cond (x.ending == 0) (0, 0, 0)
    (cond (n == most && iLe x.target x.runs) (2, x.side, IntKind.i64.wrap (IntKind.i64.wrap (m.rules.side - 1) - x.wickets)) (cond (n == most && x.runs == IntKind.i64.wrap (x.target - 1)) (4, 0, 0)
      (cond (n == most) (1, Ck x.side, IntKind.i64.wrap (IntKind.i64.wrap (x.target - 1) - x.runs))
        (cond (n == 3 && iLt (CA m x.side) (CA m (Ck x.side))) (3, Ck x.side, IntKind.i64.wrap (CA m (Ck x.side) - CA m x.side)) (0, 0, 0)))))))
set_option maxHeartbeats 4000000 in
theorem UH {N : Nat} {m1 m2 m3 m4 m5 m6 m7 m9 m10 m11 m12 m14 m15 m18 m19 m20 m21 m22 : Int} {m8 m16 : Bool} {m0 : ByteArray} {m13 : Rows} {m17 : List Inn} (hf : I5 m17) (hN : 2097152 < N) (hl : m17.length ≤ 1000000) (hs : m0.size ≤ 1048576) : El N [.str m0, .int m1, .int m2, .int m3, .int m4, .int m5, .int m6, .int m7, .bool m8, .int m9, .int m10, .int m11, .int m12, .rows m13, .int m14, .int m15, .bool m16, .rows (AZ m17), .int m18, .int m19, .int m20, .int m21, .int m22] = some (bk (QN (⟨⟨m0, m1, m2, m3, m4, m5, m6, m7, m8, m9, m10, m11, m12, m13⟩, m14, m15, m16, m17, m18, m19, m20, m21, m22⟩ : Mat))) := by
 show G0 (std (CL N) N) (xOf _) = _
 generalize hres : (some (bk (QN (⟨⟨m0, m1, m2, m3, m4, m5, m6, m7, m8, m9, m10, m11, m12, m13⟩, m14, m15, m16, m17, m18, m19, m20, m21, m22⟩ : Mat))) : Option (List PV)) = RR
 simp only [G0, Le, Li, LY, I7, std, xOf, PXb, PXi, Qx hf hN hl hs, GU, HA, L2 hN (show m17.length ≤ 1048576 by omega)]
 subst hres; simp only [QN, DT, lnx]
 cases hv : IX (⟨⟨m0, m1, m2, m3, m4, m5, m6, m7, m8, m9, m10, m11, m12, m13⟩, m14, m15, m16, m17, m18, m19, m20, m21, m22⟩ : Mat)
 case false => rfl
 cases h0 : (m17.length : Int) == 0
 case true => rfl
 simp only [PXb, SO h0 hl]
 generalize inn m17 (IntKind.i64.wrap ((m17.length : Int) - 1)).toNat = x
 cases x.ending == 5
 case true => rfl
 cases x.ending == 0
 case true => rfl
 cases (m17.length : Int) == IntKind.i64.wrap (2 * m2) <;> cases iLe x.target x.runs <;> cases x.runs == IntKind.i64.wrap (x.target - 1) <;> try rfl
 all_goals (cases (m17.length : Int) == 3 <;> try rfl)
 all_goals (simp only [PXb]; cases iLt (CA (⟨⟨m0, m1, m2, m3, m4, m5, m6, m7, m8, m9, m10, m11, m12, m13⟩, m14, m15, m16, m17, m18, m19, m20, m21, m22⟩ : Mat) x.side) (CA (⟨⟨m0, m1, m2, m3, m4, m5, m6, m7, m8, m9, m10, m11, m12, m13⟩, m14, m15, m16, m17, m18, m19, m20, m21, m22⟩ : Mat) (Ck x.side)) <;> rfl)
theorem Xc : ∀ (n k : Nat) (f : Nat → Nat), (∀ i, i < k → 1 ≤ f i ∧ f i ≤ n) → (∀ i j, i < j → j < k → f i ≠ f j) → k ≤ n
 | 0, k, f, h, _ => by
  rcases Nat.eq_zero_or_pos k with e | e
  ·omega
  ·have := h 0 e; omega
 | n + 1, 0, f, _, _ => by omega
 | n + 1, k + 1, f, h, hi => by
  by_cases he : ∃ j, j < k + 1 ∧ f j = n + 1
  ·obtain ⟨j, hj, hfj⟩ := he
   have := Xc n k (fun i => if i = j then f k else f i) (fun i hik => by
    show 1 ≤ (if i = j then f k else f i) ∧ (if i = j then f k else f i) ≤ n
    by_cases e : i = j
    ·rw [if_pos e]
     have h1 := h k (by omega)
     have : f k ≠ f j := fun e2 => hi j k (by omega) (by omega) e2.symm
     omega
    ·rw [if_neg e]
     have h1 := h i (by omega)
     have : f i ≠ f j := by
      rcases Nat.lt_or_gt_of_ne e with e2 | e2
      ·exact hi i j e2 hj
      ·exact fun e3 => hi j i e2 (by omega) e3.symm
     omega) (fun a b hab hb => by
    show (if a = j then f k else f a) ≠ (if b = j then f k else f b)
    by_cases e1 : a = j
    ·have e2 : b ≠ j := by omega
     rw [if_pos e1, if_neg e2]
     exact fun e3 => hi b k hb (by omega) e3.symm
    ·rw [if_neg e1]
     by_cases e2 : b = j
     ·rw [if_pos e2]; exact hi a k (by omega) (by omega)
     ·rw [if_neg e2]; exact hi a b hab (by omega))
   omega
  ·have := Xc n (k + 1) f (fun i hik => by
    have h1 := h i hik
    have : f i ≠ n + 1 := fun e => he ⟨i, hik, e⟩
    omega) hi
   omega
theorem XX {L : Rows} {n : Int} (h : IP L n = true) (hn : 0 ≤ n) : (L.length : Int) ≤ n := by
 unfold IP at h
 rw [Bool.not_eq_true', Hi] at h
 have hb : ∀ i, i < L.length → 1 ≤ atI L i 0 ∧ atI L i 0 ≤ n := fun i hi => by
  have := h i (by omega) (by omega)
  unfold ND at this
  rw [Bool.or_eq_false_iff, Bool.not_eq_false', SZ] at this
  exact this.1
 have := Xc n.toNat L.length (fun i => (atI L i 0).toNat) (fun i hi => by have := hb i hi; show 1 ≤ (atI L i 0).toNat ∧ (atI L i 0).toNat ≤ n.toNat; omega) (fun i j hij hj => by
  show (atI L i 0).toNat ≠ (atI L j 0).toNat
  have h1 := hb i (by omega)
  have h2 := hb j hj
  have h3 := h j (by omega) (by omega)
  unfold ND at h3
  rw [Bool.or_eq_false_iff] at h3
  have h4 := Hi.1 h3.2 i (by omega) (by omega)
  rw [beq_eq_false_iff_ne] at h4
  omega)
 omega
theorem P0 {r : Rul} {s : Inn} (h : IY r s = true) : s.bowlers.length ≤ 11 ∧ s.before.length ≤ 11 ∧ s.Fit := by
 have ok := aI.1 h
 have hs := cm ok
 have h1 := XX ok.dw (by omega)
 have h2 := XX ok.df (by omega)
 have h3 := ok.lb
 have h4 := ok.ld
 have h5 := ok.lz
 exact ⟨by omega, by omega, by omega, by omega, by omega, by omega, by omega⟩
end Go.Px
end
section
namespace Go.Px
set_option maxRecDepth 100000
def Wu (m : Mat) (e : Ev) : Mat × Int :=
  let sd := GD m (m.inns.length : Int)
  let b := DE m.rules sd (Hb m sd) (cond (sd == 2) m.pen2 m.pen1)
  let t := E9 m.rules b.1 e
  cond (!(b.2 == 0)) (m, 1) (cond (!(t.2 == 0)) (m, t.2)
    ({ m with stage := 3, inns := m.inns ++ [t.1], pen1 := cond (sd == 1) 0 m.pen1, pen2 := cond (sd == 2) 0 m.pen2 }, 0))
def OB (xs : List Inn) (sd : Int) : Nat → Option Nat
 | 0 => none
 | k + 1 => cond ((inn xs k).side == sd) (some k) (OB xs sd k)
def Jq (m : Mat) (sd : Int) : Mat := match OB m.inns sd m.inns.length with
 | some k => { m with inns := m.inns.set k (RE (inn m.inns k)) }
 | none => { m with pen1 := cond (sd == 1) (IntKind.i64.wrap (m.pen1 + 5)) m.pen1, pen2 := cond (sd == 2) (IntKind.i64.wrap (m.pen2 + 5)) m.pen2 }
def ZS (m : Mat) (e : Ev) : Mat × Int :=
 let t := E9 m.rules (DT m) e
 cond (!(t.2 == 0)) (m, t.2) (cond (e.kind == 13 && !(e.side == t.1.side)) (Jq { m with inns := m.inns.set (lnx m.inns) t.1 } e.side) { m with inns := m.inns.set (lnx m.inns) t.1 }, 0)
def ZR (m : Mat) : Mat := { m with inns := cond (m.stage == 3) (m.inns.set (lnx m.inns) { DT m with ending := 5 }) m.inns, stage := 5, win := UB m.rules, wside := 0, margin := 0 }
def Nt (m : Mat) (e : Ev) : Mat × Int :=
  cond (e.kind == 1) (cond (!(m.stage == 1)) (m, 1) ({ m with first := cond e.yes e.side (Ck e.side), stage := 2 }, 0))
    (cond (e.kind == 2) (cond (!(m.stage == 2)) (m, 1) (Wu m e))
      (cond (e.kind == 12) (cond (!(m.stage == 4)) (m, 1) (cond (!(e.side == m.first)) (m, 2) ({ m with follow := e.yes, stage := 2 }, 0)))
        (cond (e.kind == 16) (ZR m, 0) (cond (!(m.stage == 3)) (m, 1) (ZS m e)))))
def PN (m : Mat) : Mat :=
  let n : Int := m.inns.length
  let sd := (DT m).side
  let o := QN { m with stage := 5 }
  cond (n == IntKind.i64.wrap (2 * m.rules.innings) || (n == 3 && iLt (CA m sd) (CA m (Ck sd)))) { m with stage := 5, win := o.1, wside := o.2.1, margin := o.2.2 }
    (cond (n == 2 && iLt 0 m.rules.followon && iLe m.rules.followon (IntKind.i64.wrap (CA m m.first - CA m (Ck m.first)))) { m with stage := 4 } { m with stage := 2 })
def NW (m : Mat) : Mat := cond (m.stage == 3 && !((DT m).ending == 0)) (PN m) m
def QP (m : Mat) (e : Ev) : Mat × Int :=
 cond (!IX m || !(evS e == 0)) (m, 1) (cond (m.stage == 5) (m, 26) (cond (!((Nt m e).2 == 0)) (m, (Nt m e).2) (NW (Nt m e).1, 0)))
theorem bind_ok {X : Option (List PV)} {r : List PV} {k : List PV → Option (List PV)} {g : Option (List PV)} (h : X = some r) (hk : k r = g) : X.bind k = g := by rw [h]; exact hk
structure MatOk (m : Mat) : Prop where
 code : BA m.rules = 0
 len : m.inns.length ≤ 4
 innv : ∀ i, i < m.inns.length → IY m.rules (inn m.inns i) = true ∧ (inn m.inns i).side = GD m (i : Int)
 begun : (m.stage == 3) = true → ((m.inns.length : Int) == 0) = false
 toss : (m.stage == 2) = true → m.first = 1 ∨ m.first = 2
 room : (m.stage == 2) = true → (m.inns.length : Int) < 2 * m.rules.innings
 most : IntKind.i64.wrap (2 * m.rules.innings) = 2 * m.rules.innings ∧ (m.inns.length : Int) ≤ 2 * m.rules.innings
theorem aM {m : Mat} (h : IX m = true) : MatOk m := by
 unfold IX Zk at h
 simp only [Bool.and_eq_true, Bool.not_eq_true'] at h
 obtain ⟨⟨h1, h2, h3, h4, h5, h6, h7, h8, h9, h10⟩, h11, h12⟩ := h
 have hc := beq_iff_eq.1 h1
 have rk := (M7 hc).innings
 have e2 : IntKind.i64.wrap (2 * m.rules.innings) = 2 * m.rules.innings := GV (by omega) (by omega)
 rw [e2] at h5 h8
 rw [Bool.or_eq_false_iff, Bool.or_eq_false_iff] at h5
 have hn := h5.2
 have hf1 := h5.1.1
 have hf2 := h5.1.2
 simp only [iLt, decide_eq_false_iff_not] at hn hf1 hf2
 refine ⟨hc, by omega, fun i hi => ?_, fun hs => ?_, fun hs => ?_, fun hs => ?_, e2, by omega⟩
 ·have := Hi.1 h11 i (by omega) (by omega)
  unfold Rw at this
  rw [Bool.or_eq_false_iff, Bool.not_eq_false', Bool.not_eq_false', beq_iff_eq] at this
  exact this
 ·unfold RB at h12
  rw [hs, Bool.and_eq_true] at h12
  have := h12.2
  simp only [iLt, Bool.not_true, Bool.false_or, decide_eq_true_eq] at this
  exact beq_false_of_ne (by omega)
 ·rw [beq_iff_eq.1 hs] at h6
  cases h0 : m.first == 0 with
  | true => rw [h0] at h6; simp at h6
  | false =>
   rw [beq_eq_false_iff_ne] at h0
   omega
 ·rw [hs, Bool.true_and, beq_eq_false_iff_ne] at h8
  omega
theorem bZ {m : Mat} (h : m.first = 1 ∨ m.first = 2) (i : Int) : GD m i = 1 ∨ GD m i = 2 := by
 unfold GD
 cases cond (m.follow && iLe 2 i) (i == 2) (i.tmod 2 == 1) with
 | false => exact h
 | true => rcases h with h | h <;> rw [h] <;> decide
theorem aE {m : Mat} (h : MatOk m) : I5 m.inns := fun i hi => (P0 (h.innv i hi).1).2.2
theorem QC {F : (List AY → Option (List PV)) → List PV → Option (List PV)} {len : Nat} (enc : Nat → List AY) (ans : Nat → Option (List PV))
    (h0 : ∀ self, F self ((enc len).map Leaf.pv) = some [.int 1]) (h1 : ∀ i self, i < len → F self ((enc i).map Leaf.pv) = match ans i with | some r => some (.int 0 :: r) | none => self (enc (i + 1))) :
    ∀ (k i n : Nat), i + k = len → k < n → Gm F n ((enc i).map Leaf.pv) = some (SQ (BP ans k i))
  | 0, i, n, hk, hn => by
    obtain ⟨n, rfl⟩ : ∃ m, n = m + 1 := ⟨n - 1, by omega⟩
    obtain rfl : i = len := by omega
    exact h0 _
  | k + 1, i, n, hk, hn => by
    obtain ⟨n, rfl⟩ : ∃ m, n = m + 1 := ⟨n - 1, by omega⟩
    show F _ _ = _
    rw [h1 i _ (by omega)]
    simp only [BP]
    cases ans i with
    | some r => rfl
    | none => exact QC enc ans h0 h1 k (i + 1) n (by omega) (by omega)
theorem Yu (ys : List Inn) (sd : Int) (g : Nat → List PV) (n : Nat) : ∀ k, k ≤ n → BP (fun j => cond ((inn ys (n - 1 - j)).side == sd) (some (g (n - 1 - j))) none) k (n - k) = (OB ys sd k).map g
 | 0, _ => rfl
 | k + 1, h => by
  have ih := Yu ys sd g n k (by omega)
  have e : n - 1 - (n - (k + 1)) = k := by omega
  have e2 : n - (k + 1) + 1 = n - k := by omega
  simp only [BP, OB, e, e2, ih]
  cases (inn ys k).side == sd <;> rfl
theorem cl (xs : List Inn) (k : Nat) (s : Inn) (i : Nat) (hi : i < xs.length) : inn (xs.set k s) i = (if k = i then s else inn xs i) := by
 rw [Nh, Nh, List.getElem?_set]
 by_cases h : k = i
 ·subst h
  rw [if_pos rfl, if_pos rfl, if_pos hi]
 ·rw [if_neg h, if_neg h]
theorem QA {xs : List Inn} {s : Inn} (k : Nat) (h : I5 xs) (hs : s.Fit) : I5 (xs.set k s) := fun i hi => by
 rw [List.length_set] at hi
 rw [cl xs k s i hi]
 by_cases e : k = i
 ·rw [if_pos e]; exact hs
 ·rw [if_neg e]; exact h i hi
theorem Z3 {e : Ev} (h : (evS e == 0) = true) (hk : (e.kind == 13) = true) : e.side = 1 ∨ e.side = 2 := by
 have h0 := Vo h
 rw [beq_iff_eq] at hk
 unfold evS at h
 rw [h0] at h
 cases h1 : W4 e with
 | true => rw [h1] at h; cases h
 | false =>
  cases h2 : TR e with
  | true => rw [h1, h2] at h; cases h
  | false =>
   unfold TR at h2
   rw [Bool.or_eq_false_iff] at h2
   have h3 := h2.1
   rw [hk, show uS 13 = true from rfl, Bool.and_true] at h3
   simp only [btw, iLe, Bool.not_eq_false', Bool.and_eq_true, decide_eq_true_eq] at h3
   omega
theorem co (xs : List Inn) (s : Inn) (i : Nat) (hi : i < xs.length + 1) : inn (xs ++ [s]) i = (if i < xs.length then inn xs i else s) := by
 rw [Nh, Nh]
 by_cases h : i < xs.length
 ·rw [if_pos h, List.getElem?_append_left h]
 ·have : i = xs.length := by omega
  subst this
  rw [if_neg h, List.getElem?_append_right (Nat.le_refl _), Nat.sub_self]
  rfl
theorem au {xs : List Inn} {s : Inn} (h : I5 xs) (hs : s.Fit) : I5 (xs ++ [s]) := fun i hi => by
 rw [List.length_append] at hi
 rw [co xs s i hi]
 by_cases e : i < xs.length
 ·rw [if_pos e]; exact h i e
 ·rw [if_neg e]; exact hs
theorem Vp (r : Rul) (a b c : Int) (e : Ev) : (E9 r (DE r a b c).1 e).1.Fit := by
 obtain ⟨f, h1, h2⟩ := M3 r a b c
 exact PP (Rq r _ e) f (by rw [h1, h2]; exact Nat.zero_le _)
structure ActOk (m : Mat) (x : Mat × Int) : Prop where
 rules : x.1.rules = m.rules
 fit : I5 x.1.inns
 len : x.1.inns.length ≤ 5
 some' : (x.2 == 0) = true → (x.1.stage == 3) = true → ((x.1.inns.length : Int) == 0) = false
theorem A_c {m : Mat} (b : Bool) (x y : Mat × Int) (hx : ActOk m x) (hy : ActOk m y) : ActOk m (cond b x y) := by cases b <;> assumption
theorem bT {m : Mat} (sd : Int) (hf : I5 m.inns) : (Jq m sd).rules = m.rules ∧ I5 (Jq m sd).inns ∧ (Jq m sd).inns.length = m.inns.length ∧ (Jq m sd).stage = m.stage := by
 unfold Jq
 cases h : OB m.inns sd m.inns.length with
 | none => exact ⟨rfl, hf, rfl, rfl⟩
 | some k =>
  have hk : k < m.inns.length := by
   have : ∀ n, OB m.inns sd n = some k → k < n := by
    intro n
    induction n with
    | zero => intro h; cases h
    | succ n ih =>
     intro h
     unfold OB at h
     cases hq : (inn m.inns n).side == sd with
     | true => rw [hq] at h; cases h; omega
     | false => rw [hq] at h; have := ih h; omega
   exact this _ h
  exact ⟨rfl, QA k hf (cF (hf k hk)), List.length_set, rfl⟩
theorem ah {m : Mat} (ok : MatOk m) (e : Ev) : ActOk m (Nt m e) := by
 have hf := aE ok
 have hl := ok.len
 have self : ∀ n : Int, (n == 0) = false → ActOk m (m, n) := fun n hn => ⟨rfl, hf, by show m.inns.length ≤ 5; omega, fun h => by rw [hn] at h; cases h⟩
 unfold Nt
 refine A_c _ _ _ (A_c _ _ _ (self 1 rfl) ⟨rfl, hf, by show m.inns.length ≤ 5; omega, fun _ h => by cases h⟩) (A_c _ _ _ ?_ (A_c _ _ _ ?_ (A_c _ _ _ ?_ ?_)))
 ·refine A_c _ _ _ (self 1 rfl) ?_
  unfold Wu
  refine A_c _ _ _ (self 1 rfl) ?_
  cases hq : (E9 m.rules (DE m.rules (GD m (m.inns.length : Int)) (Hb m (GD m (m.inns.length : Int))) (cond (GD m (m.inns.length : Int) == 2) m.pen2 m.pen1)).1 e).2 == 0 with
  | false =>
   simp only [Bool.not_false, cond_true]
   exact self _ hq
  | true =>
   simp only [Bool.not_true, cond_false]
   exact ⟨rfl, au hf (Vp _ _ _ _ e), by simp; omega, fun _ _ => by
    show ((((m.inns ++ [_]).length : Nat) : Int) == 0) = false
    rw [List.length_append]
    exact beq_false_of_ne (by simp; omega)⟩
 ·exact A_c _ _ _ (self 1 rfl) (A_c _ _ _ (self 2 rfl) ⟨rfl, hf, by show m.inns.length ≤ 5; omega, fun _ h => by cases h⟩)
 ·unfold ZR
  cases h3 : m.stage == 3 with
  | false => exact ⟨rfl, hf, by show m.inns.length ≤ 5; omega, fun _ h => by cases h⟩
  | true =>
   have h0 := ok.begun h3
   have fl := hf (lnx m.inns) (XY h0 (by omega))
   exact ⟨rfl, QA _ hf ⟨fl.bt, fl.bw, fl.bf, fl.bd, fl.sb⟩, by show (m.inns.set _ _).length ≤ 5; rw [List.length_set]; omega, fun _ h => by cases h⟩
 ·cases h3 : m.stage == 3 with
  | false => exact self 1 rfl
  | true =>
   have h0 := ok.begun h3
   have lv := P0 (ok.innv (lnx m.inns) (XY h0 (by omega))).1
   have h1 := lv.1
   have h2 := lv.2.1
   have ft := PP (Rq m.rules (DT m) e) lv.2.2 (show (inn m.inns (lnx m.inns)).before.length + (inn m.inns (lnx m.inns)).bowlers.length ≤ 1048575 by omega)
   simp only [Bool.not_true, cond_false, ZS]
   cases hq : (E9 m.rules (DT m) e).2 == 0 with
   | false =>
    simp only [Bool.not_false, Bool.not_true, cond_true, cond_false]
    exact self _ hq
   | true =>
    have fs := QA (lnx m.inns) hf ft
    have ln : (m.inns.set (lnx m.inns) (E9 m.rules (DT m) e).1).length = m.inns.length := List.length_set
    simp only [Bool.not_true, cond_false]
    cases (e.kind == 13 && !(e.side == (E9 m.rules (DT m) e).1.side)) with
    | false =>
     exact ⟨rfl, fs, by show (m.inns.set _ _).length ≤ 5; omega, fun _ _ => by
      show ((((m.inns.set _ _).length : Nat) : Int) == 0) = false
      rw [ln]; exact h0⟩
    | true =>
     obtain ⟨a1, a2, a3, a4⟩ := bT (m := { m with inns := m.inns.set (lnx m.inns) (E9 m.rules (DT m) e).1 }) e.side fs
     exact ⟨a1, a2, by show (Jq _ _).inns.length ≤ 5; rw [a3]; show (m.inns.set _ _).length ≤ 5; omega, fun _ _ => by
      show ((((Jq _ _).inns.length : Nat) : Int) == 0) = false
      rw [a3]
      show ((((m.inns.set _ _).length : Nat) : Int) == 0) = false
      rw [ln]; exact h0⟩
end Go.Px
end
section
namespace Go.Px
set_option maxRecDepth 100000
set_option maxHeartbeats 8000000 in
theorem Xl {N : Nat} {m1 m2 m3 m4 m5 m6 m7 m9 m10 m11 m12 m14 m15 m18 m19 m20 m21 m22 : Int} {m8 m16 : Bool} {m0 : ByteArray} {m13 : Rows} {m17 : List Inn} {e0 e1 e2 e3 e5 e6 e7 e8 e9 e10 e11 e13 e14 e15 e16 e18 : Int} {e4 e12 e17 : Bool} (hN : 2097152 < N) (hf : I5 m17) (hl : m17.length ≤ 1000000) (hs : m0.size ≤ 1048576) (h13 : m13.length ≤ 1048576) : HB N [.str m0, .int m1, .int m2, .int m3, .int m4, .int m5, .int m6, .int m7, .bool m8, .int m9, .int m10, .int m11, .int m12, .rows m13, .int m14, .int m15, .bool m16, .rows (AZ m17), .int m18, .int m19, .int m20, .int m21, .int m22, .int e0, .int e1, .int e2, .int e3, .bool e4, .int e5, .int e6, .int e7, .int e8, .int e9, .int e10, .int e11, .bool e12, .int e13, .int e14, .int e15, .int e16, .bool e17, .int e18] = some (LJ (QP (⟨⟨m0, m1, m2, m3, m4, m5, m6, m7, m8, m9, m10, m11, m12, m13⟩, m14, m15, m16, m17, m18, m19, m20, m21, m22⟩ : Mat) (⟨e0, e1, e2, e3, e4, e5, e6, ⟨e7, e8, e9, e10, e11, e12, e13, e14, e15, e16, e17, e18⟩⟩ : Ev))) := by
 show KB (std (Ao N) N) (xOf _) = _
 generalize hres : (some (LJ (QP (⟨⟨m0, m1, m2, m3, m4, m5, m6, m7, m8, m9, m10, m11, m12, m13⟩, m14, m15, m16, m17, m18, m19, m20, m21, m22⟩ : Mat) (⟨e0, e1, e2, e3, e4, e5, e6, ⟨e7, e8, e9, e10, e11, e12, e13, e14, e15, e16, e17, e18⟩⟩ : Ev))) : Option (List PV)) = RR
 simp only [KB, NV, De, N0, NT, Dj, HU, GP, DB, DV, CD, CS, FQ, std, xOf, PXb, Qx hf hN hl hs, Qm hN, Wm hf hN hl h13]
 subst hres; simp only [QP]
 cases hv : IX (⟨⟨m0, m1, m2, m3, m4, m5, m6, m7, m8, m9, m10, m11, m12, m13⟩, m14, m15, m16, m17, m18, m19, m20, m21, m22⟩ : Mat)
 case false => rfl
 cases he : evS (⟨e0, e1, e2, e3, e4, e5, e6, ⟨e7, e8, e9, e10, e11, e12, e13, e14, e15, e16, e17, e18⟩⟩ : Ev) == 0
 case false => simp only [PXb, he]; rfl
 simp only [PXb, he]
 cases h5 : m14 == 5
 case true => rfl
 simp only [PXb]
 have ok := aM hv
 refine bind_ok (r := .int (Nt (⟨⟨m0, m1, m2, m3, m4, m5, m6, m7, m8, m9, m10, m11, m12, m13⟩, m14, m15, m16, m17, m18, m19, m20, m21, m22⟩ : Mat) (⟨e0, e1, e2, e3, e4, e5, e6, ⟨e7, e8, e9, e10, e11, e12, e13, e14, e15, e16, e17, e18⟩⟩ : Ev)).2 :: (Nt (⟨⟨m0, m1, m2, m3, m4, m5, m6, m7, m8, m9, m10, m11, m12, m13⟩, m14, m15, m16, m17, m18, m19, m20, m21, m22⟩ : Mat) (⟨e0, e1, e2, e3, e4, e5, e6, ⟨e7, e8, e9, e10, e11, e12, e13, e14, e15, e16, e17, e18⟩⟩ : Ev)).1.ls) ?_ ?_
 ·unfold Nt
  cases hk1 : e0 == 1
  case true =>
   simp only [PXb, Dj, GU]
   cases m14 == 1 <;> cases e4 <;> rfl
  cases hk2 : e0 == 2
  case true =>
   simp only [PXb]
   cases hs2 : m14 == 2
   case false => rfl
   have hl2 : m17.length ≤ 1048576 := by omega
   have h304 : iSm ((m17.length + 1 : Nat) : Int) 304 = true := Jg (by omega) (by omega)
   have fb := fun a b c => (M3 (⟨⟨m0, m1, m2, m3, m4, m5, m6, m7, m8, m9, m10, m11, m12, m13⟩, m14, m15, m16, m17, m18, m19, m20, m21, m22⟩ : Mat).rules a b c).1
   have wb : ∀ a b c, (DE (⟨⟨m0, m1, m2, m3, m4, m5, m6, m7, m8, m9, m10, m11, m12, m13⟩, m14, m15, m16, m17, m18, m19, m20, m21, m22⟩ : Mat).rules a b c).1.before.length + (DE (⟨⟨m0, m1, m2, m3, m4, m5, m6, m7, m8, m9, m10, m11, m12, m13⟩, m14, m15, m16, m17, m18, m19, m20, m21, m22⟩ : Mat).rules a b c).1.bowlers.length ≤ 1000000 := fun a b c => by
    rw [(M3 (⟨⟨m0, m1, m2, m3, m4, m5, m6, m7, m8, m9, m10, m11, m12, m13⟩, m14, m15, m16, m17, m18, m19, m20, m21, m22⟩ : Mat).rules a b c).2.1, (M3 (⟨⟨m0, m1, m2, m3, m4, m5, m6, m7, m8, m9, m10, m11, m12, m13⟩, m14, m15, m16, m17, m18, m19, m20, m21, m22⟩ : Mat).rules a b c).2.2]
    exact Nat.zero_le _
   rcases bZ (m := (⟨⟨m0, m1, m2, m3, m4, m5, m6, m7, m8, m9, m10, m11, m12, m13⟩, m14, m15, m16, m17, m18, m19, m20, m21, m22⟩ : Mat)) (ok.toss hs2) (m17.length : Int) with ho | ho
   ·simp only [PXb, PXc, IE, X6, Nat.reduceAdd, Int.reduceBEq, PXi, PXr, Inn.eta, Ax, List.length_append, List.length_cons, List.length_nil, h304, Wu, De, DV, DB, CD, Lx, Pe hN hl2, OD hN hs, K1 (fb _ _ _) (wb _ _ _) hN hs h13, ho, wr1, wr2, Wz, XW]
    cases (DE (⟨⟨m0, m1, m2, m3, m4, m5, m6, m7, m8, m9, m10, m11, m12, m13⟩, m14, m15, m16, m17, m18, m19, m20, m21, m22⟩ : Mat).rules 1 (Hb (⟨⟨m0, m1, m2, m3, m4, m5, m6, m7, m8, m9, m10, m11, m12, m13⟩, m14, m15, m16, m17, m18, m19, m20, m21, m22⟩ : Mat) 1) m18).2 == 0 <;> try rfl
    cases (E9 (⟨⟨m0, m1, m2, m3, m4, m5, m6, m7, m8, m9, m10, m11, m12, m13⟩, m14, m15, m16, m17, m18, m19, m20, m21, m22⟩ : Mat).rules (DE (⟨⟨m0, m1, m2, m3, m4, m5, m6, m7, m8, m9, m10, m11, m12, m13⟩, m14, m15, m16, m17, m18, m19, m20, m21, m22⟩ : Mat).rules 1 (Hb (⟨⟨m0, m1, m2, m3, m4, m5, m6, m7, m8, m9, m10, m11, m12, m13⟩, m14, m15, m16, m17, m18, m19, m20, m21, m22⟩ : Mat) 1) m18).1 (⟨e0, e1, e2, e3, e4, e5, e6, ⟨e7, e8, e9, e10, e11, e12, e13, e14, e15, e16, e17, e18⟩⟩ : Ev)).2 == 0 <;> rfl
   ·simp only [PXb, PXc, IE, X6, Nat.reduceAdd, Int.reduceBEq, PXi, PXr, Inn.eta, Ax, List.length_append, List.length_cons, List.length_nil, h304, Wu, De, DV, DB, CD, Lx, Pe hN hl2, OD hN hs, K1 (fb _ _ _) (wb _ _ _) hN hs h13, ho, wr1, wr2, Wz, XW]
    cases (DE (⟨⟨m0, m1, m2, m3, m4, m5, m6, m7, m8, m9, m10, m11, m12, m13⟩, m14, m15, m16, m17, m18, m19, m20, m21, m22⟩ : Mat).rules 2 (Hb (⟨⟨m0, m1, m2, m3, m4, m5, m6, m7, m8, m9, m10, m11, m12, m13⟩, m14, m15, m16, m17, m18, m19, m20, m21, m22⟩ : Mat) 2) m19).2 == 0 <;> try rfl
    cases (E9 (⟨⟨m0, m1, m2, m3, m4, m5, m6, m7, m8, m9, m10, m11, m12, m13⟩, m14, m15, m16, m17, m18, m19, m20, m21, m22⟩ : Mat).rules (DE (⟨⟨m0, m1, m2, m3, m4, m5, m6, m7, m8, m9, m10, m11, m12, m13⟩, m14, m15, m16, m17, m18, m19, m20, m21, m22⟩ : Mat).rules 2 (Hb (⟨⟨m0, m1, m2, m3, m4, m5, m6, m7, m8, m9, m10, m11, m12, m13⟩, m14, m15, m16, m17, m18, m19, m20, m21, m22⟩ : Mat) 2) m19).1 (⟨e0, e1, e2, e3, e4, e5, e6, ⟨e7, e8, e9, e10, e11, e12, e13, e14, e15, e16, e17, e18⟩⟩ : Ev)).2 == 0 <;> rfl
  cases hk3 : e0 == 12
  case true =>
   simp only [PXb]
   cases m14 == 4 <;> cases e1 == m15 <;> rfl
  cases hk4 : e0 == 16
  case true =>
   simp only [PXb, ZR]
   cases h3 : m14 == 3
   case false => simp only [PXb, PXc, PXi, PXr, IE, Nat.reduceAdd, CS, HA]; rfl
   simp only [PXb, PXc, PXi, PXr, IE, Nat.reduceAdd, SO (ok.begun h3) hl, CS, HA]
   rfl
  simp only [PXb]
  cases h3 : m14 == 3
  case false => rfl
  have h0 := ok.begun h3
  have lv := P0 (ok.innv (lnx m17) (XY h0 hl)).1
  have fl : (inn m17 (IntKind.i64.wrap ((m17.length : Int) - 1)).toNat).Fit := lv.2.2
  have wl : (inn m17 (IntKind.i64.wrap ((m17.length : Int) - 1)).toNat).before.length + (inn m17 (IntKind.i64.wrap ((m17.length : Int) - 1)).toNat).bowlers.length ≤ 1000000 := by
   have h1 := lv.1
   have h2 := lv.2.1
   change (inn m17 (IntKind.i64.wrap ((m17.length : Int) - 1)).toNat).bowlers.length ≤ 11 at h1
   change (inn m17 (IntKind.i64.wrap ((m17.length : Int) - 1)).toNat).before.length ≤ 11 at h2
   omega
  have f1 := PP (Rq (⟨⟨m0, m1, m2, m3, m4, m5, m6, m7, m8, m9, m10, m11, m12, m13⟩, m14, m15, m16, m17, m18, m19, m20, m21, m22⟩ : Mat).rules (inn m17 (IntKind.i64.wrap ((m17.length : Int) - 1)).toNat) (⟨e0, e1, e2, e3, e4, e5, e6, ⟨e7, e8, e9, e10, e11, e12, e13, e14, e15, e16, e17, e18⟩⟩ : Ev)) fl (by omega)
  simp only [PXb, PXc, PXi, PXr, Ax, Inn.eta, IE, Nat.reduceAdd, List.length_set, SO h0 hl, CD, K1 fl wl hN hs h13, ZS, DT, lnx]
  generalize hX : E9 (⟨⟨m0, m1, m2, m3, m4, m5, m6, m7, m8, m9, m10, m11, m12, m13⟩, m14, m15, m16, m17, m18, m19, m20, m21, m22⟩ : Mat).rules (inn m17 (IntKind.i64.wrap ((m17.length : Int) - 1)).toNat) (⟨e0, e1, e2, e3, e4, e5, e6, ⟨e7, e8, e9, e10, e11, e12, e13, e14, e15, e16, e17, e18⟩⟩ : Ev) = X at f1
  have fy := QA (IntKind.i64.wrap ((m17.length : Int) - 1)).toNat hf f1
  generalize hy : m17.set (IntKind.i64.wrap ((m17.length : Int) - 1)).toNat X.1 = ys at fy
  have ly : ys.length = m17.length := by rw [← hy, List.length_set]
  cases X.2 == 0 <;> try rfl
  cases h13k : e0 == 13
  case false => rfl
  cases hsd : e1 == X.1.side
  case true => rfl
  simp only [PXb, Option.bind_assoc]
  have e0w : IntKind.i64.wrap ((m17.length : Int) - 1) = (m17.length : Int) - 1 - ((0 : Nat) : Int) := by
   rw [beq_eq_false_iff_ne] at h0
   rw [GV (by omega) (by omega)]; omega
  rw [e0w]
  have hside := Z3 (e := (⟨e0, e1, e2, e3, e4, e5, e6, ⟨e7, e8, e9, e10, e11, e12, e13, e14, e15, e16, e17, e18⟩⟩ : Ev)) he h13k
  simp only at hside
  refine Af (QC (len := m17.length) (fun j => [.int ((m17.length : Int) - 1 - (j : Int))]) (fun j => cond ((inn ys (m17.length - 1 - j)).side == e1) (some [PV.str m0, PV.int m1, PV.int m2, PV.int m3, PV.int m4, PV.int m5, PV.int m6, PV.int m7, PV.bool m8, PV.int m9, PV.int m10, PV.int m11, PV.int m12, PV.rows m13, PV.int m14, PV.int m15, PV.bool m16, PV.rows (AZ (ys.set (m17.length - 1 - j) (RE (inn ys (m17.length - 1 - j))))), PV.int m18, PV.int m19, PV.int m20, PV.int m21, PV.int m22]) none) ?_ ?_ m17.length 0 N (by omega) (by omega)) ?_
  ·intro self
   have q1 : iLe 0 ((m17.length : Int) - 1 - (m17.length : Int)) = false := by simp only [iLe, decide_eq_false_iff_not]; omega
   simp only [PXb, q1]
  ·intro i self hi
   have q1 : iLe 0 ((m17.length : Int) - 1 - (i : Int)) = true := by simp only [iLe, decide_eq_true_eq]; omega
   have q2 : iIn ((m17.length : Int) - 1 - (i : Int)) (m17.length : Int) = true := by simp only [iIn, decide_eq_true_eq]; omega
   have q3 : ((m17.length : Int) - 1 - (i : Int)).toNat = m17.length - 1 - i := by omega
   have q4 : IntKind.i64.wrap ((m17.length : Int) - 1 - (i : Int) - 1) = (m17.length : Int) - 1 - ((i + 1 : Nat) : Int) := by rw [GV (by omega) (by omega)]; omega
   have q5 := fy (m17.length - 1 - i) (by omega)
   simp only [PXb, PXc, q1, q2, q3, q4, FQ, MI q5, PXm]
   cases (inn ys (m17.length - 1 - i)).side == e1 <;> rfl
  ·have hfa := Yu ys e1 (fun k => [PV.str m0, PV.int m1, PV.int m2, PV.int m3, PV.int m4, PV.int m5, PV.int m6, PV.int m7, PV.bool m8, PV.int m9, PV.int m10, PV.int m11, PV.int m12, PV.rows m13, PV.int m14, PV.int m15, PV.bool m16, PV.rows (AZ (ys.set k (RE (inn ys k)))), PV.int m18, PV.int m19, PV.int m20, PV.int m21, PV.int m22]) m17.length m17.length (Nat.le_refl _)
   rw [Nat.sub_self] at hfa
   rw [hfa]
   unfold Jq
   simp only [ly]
   cases OB ys e1 m17.length with
   | some k => rfl
   | none =>
    rcases hside with h | h <;> subst h
    ·simp only [Option.map_none, SQ, PXb, PXc, IE, Int.reduceBEq, wr1, Wz]
     rfl
    ·simp only [Option.map_none, SQ, PXb, PXc, IE, Int.reduceBEq, wr2, XW]
     rfl
 ·have ak := ah ok (⟨e0, e1, e2, e3, e4, e5, e6, ⟨e7, e8, e9, e10, e11, e12, e13, e14, e15, e16, e17, e18⟩⟩ : Ev)
  generalize Nt (⟨⟨m0, m1, m2, m3, m4, m5, m6, m7, m8, m9, m10, m11, m12, m13⟩, m14, m15, m16, m17, m18, m19, m20, m21, m22⟩ : Mat) (⟨e0, e1, e2, e3, e4, e5, e6, ⟨e7, e8, e9, e10, e11, e12, e13, e14, e15, e16, e17, e18⟩⟩ : Ev) = A at ak
  obtain ⟨⟨⟨a0, a1, a2, a3, a4, a5, a6, a7, a8, a9, a10, a11, a12, a13⟩, a14, a15, a16, a17, a18, a19, a20, a21, a22⟩, l⟩ := A
  obtain ⟨k1, k2, k3, k4⟩ := ak
  simp only at k1 k2 k3 k4
  have hl5 : a17.length ≤ 1048576 := by omega
  have hs5 : a0.size ≤ 1048576 := by
   have := congrArg Rul.name k1
   simp only at this
   rw [this]; exact hs
  simp only [PXb, PXc, PXk, PXi, IE, Nat.reduceAdd]
  cases hl0 : l == 0
  case false => rfl
  simp only [PXb, NW]
  cases h3 : a14 == 3
  case false => rfl
  have h0 := k4 hl0 h3
  have li := SO h0 (show a17.length ≤ 1000000 by omega)
  simp only [PXb, PXc, PXi, li]
  cases he2 : (inn a17 (IntKind.i64.wrap ((a17.length : Int) - 1)).toNat).ending == 0
  case true => simp only [PXb, DT, lnx, he2]
  simp only [PXb, PXc, PXi, DT, lnx, he2, HU, Dj, GP, L2 hN hl5, GU, UH k2 hN (show a17.length ≤ 1000000 by omega) hs5]
  unfold PN
  simp only [DT, lnx]
  simp only [CA, DT, lnx]
  cases hq1 : ((a17.length : Int) == IntKind.i64.wrap (2 * a2))
  case true => rfl
  cases hq2 : ((a17.length : Int) == 3)
  case true =>
   simp only [PXb]
   cases iLt (MH a17 (inn a17 (IntKind.i64.wrap ((a17.length : Int) - 1)).toNat).side a17.length) (MH a17 (Ck (inn a17 (IntKind.i64.wrap ((a17.length : Int) - 1)).toNat).side) a17.length)
   case true => rfl
   simp only [PXb]
   cases ((a17.length : Int) == 2) && iLt 0 a10 && iLe a10 (IntKind.i64.wrap (MH a17 a15 a17.length - MH a17 (Ck a15) a17.length)) <;> rfl
  simp only [PXb]
  cases ((a17.length : Int) == 2) && iLt 0 a10 && iLe a10 (IntKind.i64.wrap (MH a17 a15 a17.length - MH a17 (Ck a15) a17.length)) <;> rfl
end Go.Px
end
section
namespace Go.Px
set_option maxRecDepth 100000
theorem Ya (m : Mat) : (PN m).rules = m.rules ∧ (PN m).inns = m.inns := by
 unfold PN
 dsimp only
 cases ((m.inns.length : Int) == IntKind.i64.wrap (2 * m.rules.innings) || ((m.inns.length : Int) == 3 && iLt (CA m (DT m).side) (CA m (Ck (DT m).side)))) with
 | true => exact ⟨rfl, rfl⟩
 | false =>
  cases ((m.inns.length : Int) == 2 && iLt 0 m.rules.followon && iLe m.rules.followon (IntKind.i64.wrap (CA m m.first - CA m (Ck m.first)))) <;> exact ⟨rfl, rfl⟩
theorem Y8 (m : Mat) : (NW m).rules = m.rules ∧ (NW m).inns = m.inns := by
 unfold NW
 cases (m.stage == 3 && !((DT m).ending == 0)) with
 | true => exact Ya m
 | false => exact ⟨rfl, rfl⟩
structure StepOk (r : Rul) (m : Mat) : Prop where
 rules : m.rules = r
 fit : I5 m.inns
 len : m.inns.length ≤ 5
theorem ZU {r : Rul} {m : Mat} (h : StepOk r m) (e : Ev) : StepOk r (QP m e).1 := by
 unfold QP
 cases hv : IX m with
 | false => exact h
 | true =>
  cases he : evS e == 0 with
  | false => exact h
  | true =>
   cases h5 : m.stage == 5 with
   | true => exact h
   | false =>
    have a := ah (aM hv) e
    cases hx : (Nt m e).2 == 0 with
    | false => exact h
    | true =>
     have k := Y8 (Nt m e).1
     exact ⟨k.1.trans (a.rules.trans h.rules), by show I5 (NW _).inns; rw [k.2]; exact a.fit, by show (NW _).inns.length ≤ 5; rw [k.2]; exact a.len⟩
end Go.Px
end
section
namespace Go.Px
set_option maxRecDepth 100000
def evR (L : Rows) (i : Nat) : Ev := ⟨atI L i 0, atI L i 1, atI L i 2, atI L i 3, atB L i 4, atI L i 5, atI L i 6, ⟨atI L i 7, atI L i 8, atI L i 9, atI L i 10, atI L i 11, atB L i 12, atI L i 13, atI L i 14, atI L i 15, atI L i 16, atB L i 17, atI L i 18⟩⟩
theorem di (L : Rows) (i : Nat) : (⟨atI L i 0, atI L i 1, atI L i 2, atI L i 3, atB L i 4, atI L i 5, atI L i 6, ⟨atI L i 7, atI L i 8, atI L i 9, atI L i 10, atI L i 11, atB L i 12, atI L i 13, atI L i 14, atI L i 15, atI L i 16, atB L i 17, atI L i 18⟩⟩ : Ev) = evR L i := rfl
def GS (i : Int) (m : Mat) (e : Ev) : Mat × Int := cond (iLe 4000 i) (m, 26) (QP m e)
def OP (L : Rows) : Nat → Nat → Mat → Mat × Int × Int
 | 0, _, m => (m, -1, 0)
 | k + 1, i, m => cond (!((GS i m (evR L i)).2 == 0)) (m, (i : Int), (GS i m (evR L i)).2) (OP L k (i + 1) (GS i m (evR L i)).1)
def ZE (f : Mat × Int × Int) : List PV := [.str f.1.rules.name, .int f.1.rules.side, .int f.1.rules.innings, .int f.1.rules.overs, .int f.1.rules.balls, .int f.1.rules.quota, .int f.1.rules.wide, .int f.1.rules.noball, .bool f.1.rules.freehit, .int f.1.rules.newball, .int f.1.rules.followon, .int f.1.rules.reviews, .int f.1.rules.outside, .rows f.1.rules.power, .int f.1.stage, .int f.1.first, .bool f.1.follow, .rows (AZ f.1.inns), .int f.1.pen1, .int f.1.pen2, .int f.1.win, .int f.1.wside, .int f.1.margin, .int f.2.1, .int f.2.2]
theorem Xs (L : Rows) : ∀ k i m, ((OP L k i m).2.1 == -1) = true → (OP L k i m).2.2 = 0
 | 0, _, _, _ => rfl
 | k + 1, i, m, h => by
  unfold OP at h ⊢
  cases hq : (GS i m (evR L i)).2 == 0 with
  | false =>
   rw [hq] at h
   have := beq_iff_eq.1 (show ((i : Int) == -1) = true from h)
   omega
  | true => rw [hq] at h; exact Xs L k (i + 1) _ h
theorem ax {r : Rul} {m : Mat} (h : StepOk r m) (i : Int) (e : Ev) : StepOk r (GS i m e).1 := by
 unfold GS
 cases iLe 4000 i with
 | true => exact h
 | false => exact ZU h e
def Nn (L : Rows) (i : Nat) (m : Mat) : List PV ⊕ Mat := cond (!((GS i m (evR L i)).2 == 0)) (.inl (.int 0 :: .int i :: .int (GS i m (evR L i)).2 :: m.ls)) (.inr (GS i m (evR L i)).1)
def Zm (f : Mat × Int × Int) : List PV := cond (f.2.1 == -1) (.int 1 :: f.1.ls) (.int 0 :: .int f.2.1 :: .int f.2.2 :: f.1.ls)
theorem WE (L : Rows) : ∀ k i m, N8 (Nn L) (fun m => .int 1 :: m.ls) k i m = Zm (OP L k i m)
 | 0, _, _ => rfl
 | k + 1, i, m => by
  simp only [N8, Nn, OP]
  cases (GS i m (evR L i)).2 == 0 with
  | false =>
   simp only [Bool.not_false, cond_true, Zm]
   rw [show ((i : Int) == -1) = false from beq_false_of_ne (show (i : Int) ≠ -1 by omega)]
   rfl
  | true => exact WE L k (i + 1) _
end Go.Px
end
section
namespace Go.Px
set_option maxRecDepth 100000
structure LogOk (m : Mat) : Prop where
 fit : I5 m.inns
 len : m.inns.length ≤ 5
 name : m.rules.name.size ≤ 1048576
 power : m.rules.power.length ≤ 1048576
end Go.Px
end
section
namespace Go.Px
set_option maxRecDepth 100000
def E1 (r : Rul) (n : Int) : Mat × Int := cond (!(BA r == 0)) (VE, BA r) (cond (!(n == 1) && !(n == 2)) (VE, 2) (⟨r, 2, n, false, [], 0, 0, 0, 0, 0⟩, 0))
theorem Y4 {r : Rul} {n : Int} (h : ((E1 r n).2 == 0) = true) : StepOk r (E1 r n).1 := by
 unfold E1 at h ⊢
 cases hc : BA r == 0 with
 | false => rw [hc] at h; exact absurd (show (BA r == 0) = true from h) (by rw [hc]; decide)
 | true =>
  cases hn : (!(n == 1) && !(n == 2)) with
  | true => rw [hc, hn] at h; cases h
  | false => exact ⟨rfl, fun i hi => absurd hi (Nat.not_lt_zero i), Nat.zero_le _⟩
end Go.Px
end
section
namespace Go.Px
set_option maxRecDepth 100000
def CZ (r : Rul) : Rul × Int := cond (!(BA r == 0)) (bn, BA r) (⟨⟨#[83, 85, 80, 69, 82]⟩, cond (iLt r.side 3) r.side 3, 1, 1, r.balls, 0, r.wide, r.noball, r.freehit, 0, 0, r.reviews, r.outside, []⟩, 0)
def SM (x : Rul × Int) : List PV := [.str x.1.name, .int x.1.side, .int x.1.innings, .int x.1.overs, .int x.1.balls, .int x.1.quota, .int x.1.wide, .int x.1.noball, .bool x.1.freehit, .int x.1.newball, .int x.1.followon, .int x.1.reviews, .int x.1.outside, .rows x.1.power, .int x.2]
theorem MU {N : Nat} {r1 r2 r3 r4 r5 r6 r7 r9 r10 r11 r12 : Int} {r8 : Bool} {r0 : ByteArray} {r13 : Rows} (hN : 2097152 < N) (hs : r0.size ≤ 1048576) : BX N [.str r0, .int r1, .int r2, .int r3, .int r4, .int r5, .int r6, .int r7, .bool r8, .int r9, .int r10, .int r11, .int r12, .rows r13] = some (SM (CZ (⟨r0, r1, r2, r3, r4, r5, r6, r7, r8, r9, r10, r11, r12, r13⟩ : Rul))) := by
 show FA (std (Gj N) N) (xOf _) = _
 generalize hres : (some (SM (CZ (⟨r0, r1, r2, r3, r4, r5, r6, r7, r8, r9, r10, r11, r12, r13⟩ : Rul))) : Option (List PV)) = RR
 simp only [FA, KK, std, xOf, PXb, PXc, PXn, PXm, Nat.reduceAdd, Int.reduceBEq, CN hN hs]
 subst hres; simp only [CZ]
 cases BA (⟨r0, r1, r2, r3, r4, r5, r6, r7, r8, r9, r10, r11, r12, r13⟩ : Rul) == 0 <;> rfl
theorem Uz {N : Nat} {r1 r2 r3 r4 r5 r6 r7 r9 r10 r11 r12 : Int} {r8 : Bool} {r0 : ByteArray} {r13 : Rows} {n : Int} (hN : 2097152 < N) (hs : r0.size ≤ 1048576) (h13 : r13.length ≤ 1048576) : EW N [.str r0, .int r1, .int r2, .int r3, .int r4, .int r5, .int r6, .int r7, .bool r8, .int r9, .int r10, .int r11, .int r12, .rows r13, .int n] = some (LJ (E1 (⟨r0, r1, r2, r3, r4, r5, r6, r7, r8, r9, r10, r11, r12, r13⟩ : Rul) n)) := by
 show Gw (std (H3 N) N) (xOf _) = _
 generalize hres : (some (LJ (E1 (⟨r0, r1, r2, r3, r4, r5, r6, r7, r8, r9, r10, r11, r12, r13⟩ : Rul) n)) : Option (List PV)) = RR
 simp only [Gw, Mt, std, xOf, PXb, PXc, PXn, PXm, Nat.reduceAdd, Int.reduceBEq, YS hN hs h13, LJ]
 subst hres
 unfold E1 ZN
 cases hc : BA (⟨r0, r1, r2, r3, r4, r5, r6, r7, r8, r9, r10, r11, r12, r13⟩ : Rul) == 0
 case false => simp only [hc, Bool.not_false, cond_true, LJ] <;> rfl
 case true => cases (!(n == 1) && !(n == 2)) <;> rfl
end Go.Px
end
section
namespace Go.Px
set_option maxRecDepth 100000
def FN (r : Rul) (n : Int) (L : Rows) : Mat × Int × Int :=
 cond (!((CZ r).2 == 0)) (VE, 0, 1) (cond (!((E1 (CZ r).1 n).2 == 0)) (VE, 0, 1) (OP L L.length 0 (E1 (CZ r).1 n).1))
theorem ZH (r : Rul) : (CZ r).1.name.size ≤ 1048576 := by
 unfold CZ
 cases BA r == 0
 ·exact Nat.zero_le _
 ·show (5 : Nat) ≤ 1048576
  omega
theorem Yc (r : Rul) : (CZ r).1.power.length ≤ 1048576 := by
 unfold CZ
 cases BA r == 0 <;> exact Nat.zero_le _
set_option maxHeartbeats 4000000 in
theorem Rv {N : Nat} {r1 r2 r3 r4 r5 r6 r7 r9 r10 r11 r12 : Int} {r8 : Bool} {r0 : ByteArray} {r13 : Rows} {n : Int} {L : Rows} (hN : 2097152 < N) (hs : r0.size ≤ 1048576) (hL : L.length ≤ 1048576) : Cy N [.str r0, .int r1, .int r2, .int r3, .int r4, .int r5, .int r6, .int r7, .bool r8, .int r9, .int r10, .int r11, .int r12, .rows r13, .int n, .rows L] = some (ZE (FN (⟨r0, r1, r2, r3, r4, r5, r6, r7, r8, r9, r10, r11, r12, r13⟩ : Rul) n L)) := by
  show Et (std (CF N) N) (xOf _) = _
  generalize hres : (some (ZE (FN (⟨r0, r1, r2, r3, r4, r5, r6, r7, r8, r9, r10, r11, r12, r13⟩ : Rul) n L)) : Option (List PV)) = RR
  simp only [Et, H4, Df, E4, std, xOf, PXb, MU hN hs]
  subst hres; simp only [FN]
  cases h1 : (CZ (⟨r0, r1, r2, r3, r4, r5, r6, r7, r8, r9, r10, r11, r12, r13⟩ : Rul)).2 == 0
  case false => simp only [SM, PXb, PXc, h1]; rfl
  have sn := ZH (⟨r0, r1, r2, r3, r4, r5, r6, r7, r8, r9, r10, r11, r12, r13⟩ : Rul)
  have sp := Yc (⟨r0, r1, r2, r3, r4, r5, r6, r7, r8, r9, r10, r11, r12, r13⟩ : Rul)
  simp only [SM, PXb, PXc, h1, Nat.reduceAdd, Df, Uz hN sn sp, LJ]
  cases h2 : (E1 (CZ (⟨r0, r1, r2, r3, r4, r5, r6, r7, r8, r9, r10, r11, r12, r13⟩ : Rul)).1 n).2 == 0
  case false => rfl
  have ok := Y4 h2
  generalize E1 (CZ (⟨r0, r1, r2, r3, r4, r5, r6, r7, r8, r9, r10, r11, r12, r13⟩ : Rul)).1 n = X at *
  generalize (CZ (⟨r0, r1, r2, r3, r4, r5, r6, r7, r8, r9, r10, r11, r12, r13⟩ : Rul)).1 = Q at *
  obtain ⟨m, l⟩ := X
  simp only at ok
  simp only [PXb, Nat.reduceAdd]
  refine Af (RT (St := Mat) (len := L.length) (enc := fun i m => [.int (i : Int), .str m.rules.name, .int m.rules.side, .int m.rules.innings, .int m.rules.overs, .int m.rules.balls, .int m.rules.quota, .int m.rules.wide, .int m.rules.noball, .bool m.rules.freehit, .int m.rules.newball, .int m.rules.followon, .int m.rules.reviews, .int m.rules.outside, .rows m.rules.power, .int m.stage, .int m.first, .bool m.follow, .rows (AZ m.inns), .int m.pen1, .int m.pen2, .int m.win, .int m.wside, .int m.margin])
    (body := Nn L) (fin := fun m => .int 1 :: m.ls) (fun _ m => StepOk Q m) ?_ ?_ L.length 0 m N (by omega) (by omega) ok) ?_
  · intro m self _
    simp only [PXb, PXc, PXn, AJ, B0]
    rfl
  · intro i m self hi ok
    have o1 := ok.rules
    have o2 := ok.fit
    have o3 := ok.len
    have kp := ax ok (i : Int) (evR L i)
    refine ⟨?_, ?_⟩
    · simp only [PXb, PXc, PXn, AJ, Al (show i ≤ 1099511627776 by omega), BH hi, Am hi, E4, Xl hN o2 (show m.inns.length ≤ 1000000 by omega) (show m.rules.name.size ≤ 1048576 by rw [o1]; exact sn) (show m.rules.power.length ≤ 1048576 by rw [o1]; exact sp), Ce, cO, Nat.reduceAdd, PXk, PXc, di]
      unfold Nn GS
      cases iLe 4000 (i : Int)
      case true => rfl
      simp only [cond_false]
      cases (QP m (evR L i)).2 == 0 <;> rfl
    · intro s' h
      unfold Nn at h
      cases hq : (GS (i : Int) m (evR L i)).2 == 0 with
      | false => rw [hq] at h; cases h
      | true => rw [hq] at h; cases h; exact kp
  · rw [WE]
    have he := Xs L L.length 0 m
    generalize OP L L.length 0 m = f at he
    obtain ⟨m2, b, l⟩ := f
    simp only at he
    unfold Zm
    cases hb : b == -1 with
    | false => rfl
    | true =>
      rw [he hb, beq_iff_eq.1 hb]
      rfl
end Go.Px
end
section
namespace Go.Px
set_option maxRecDepth 100000
def Lz (xs : List Rows) : Rows := xs.map fun x => [.rows x]
theorem bK (xs : List Rows) : (Lz xs).length = xs.length := List.length_map _
theorem du (xs : List Rows) (i : Nat) : pvL (AH (Lz xs) i 0) = xs.getD i [] := by
 unfold AH A0 Lz
 rw [List.getD_eq_getElem?_getD, List.getD_eq_getElem?_getD, List.getElem?_map]
 cases xs[i]? <;> rfl
theorem PXl : (∀ xs : List Rows, (Lz xs).length = xs.length) ∧ (∀ (xs : List Rows) (i : Nat), pvL (AH (Lz xs) i 0) = xs.getD i []) ∧ (∀ (xs : List Rows) (x : Rows), Lz xs ++ [[.rows x]] = Lz (xs ++ [x])) := ⟨bK, du, fun xs x => by
 show List.map _ xs ++ List.map (fun x => [PV.rows x]) [x] = List.map _ (xs ++ [x])
 exact List.map_append.symm⟩
def Bd (f : Int) (i : Nat) : Int := cond ((i : Int).tmod 2 == 1) (IntKind.i64.wrap (3 - f)) f
theorem Zu {f : Int} (hf : f = 1 ∨ f = 2) (i : Nat) : IntKind.i64.wrap (3 - Bd f i) = Bd f (i + 1) := by
 have hm : ((i : Int).tmod 2 = 0 ∧ ((i + 1 : Nat) : Int).tmod 2 = 1) ∨ ((i : Int).tmod 2 = 1 ∧ ((i + 1 : Nat) : Int).tmod 2 = 0) := by
  have e : ∀ j : Nat, (j : Int).tmod 2 = ((j % 2 : Nat) : Int) := fun j => rfl
  rw [e, e]
  omega
 unfold Bd
 rcases hm with ⟨h1, h2⟩ | ⟨h1, h2⟩ <;> rw [h1, h2] <;> rcases hf with h | h <;> subst h <;> rfl
def O8 (r : Rul) (f : Int) (xs : List Rows) (i : Nat) : Option (Int × Int × Int) :=
 let m := FN r (Bd f i) (xs.getD i [])
 cond (!(m.2.2 == 0)) (some (0, 0, 10)) (cond (!(m.1.stage == 5) || m.1.win == 6) (some (0, 0, 11)) (cond (m.1.wside == 0) none (cond (iLt ((i + 1 : Nat) : Int) (xs.length : Int)) (some (0, 0, 1)) (some (m.1.wside, ((i + 1 : Nat) : Int), 0)))))
def Xm (x : Int × Int × Int) : List PV := [.int x.1, .int x.2.1, .int x.2.2]
def LN (g : Nat → Option (Int × Int × Int)) : Nat → Nat → Option (Int × Int × Int)
 | 0, _ => none
 | k + 1, i => match g i with
  | some x => some x
  | none => LN g k (i + 1)
theorem Yn (g : Nat → Option (Int × Int × Int)) : ∀ k i, BP (fun i => (g i).map Xm) k i = (LN g k i).map Xm
 | 0, _ => rfl
 | k + 1, i => by
  simp only [BP, LN]
  cases g i with
  | some x => rfl
  | none => exact Yn g k (i + 1)
def Vl (r : Rul) (f : Int) (xs : List Rows) : Int × Int × Int :=
 cond (!((CZ r).2 == 0)) (0, 0, (CZ r).2) (cond (!(f == 1) && !(f == 2)) (0, 0, 2) (cond (iLt 8 (xs.length : Int)) (0, 0, 9) ((LN (O8 r f xs) xs.length 0).getD (0, 0, 6))))
set_option maxHeartbeats 4000000 in
theorem Ra {N : Nat} {r1 r2 r3 r4 r5 r6 r7 r9 r10 r11 r12 : Int} {r8 : Bool} {r0 : ByteArray} {r13 : Rows} {n : Int} {xs : List Rows} (hN : 2097152 < N) (hs : r0.size ≤ 1048576) (hx : ∀ i, (xs.getD i []).length ≤ 1048576) : Bk N [.str r0, .int r1, .int r2, .int r3, .int r4, .int r5, .int r6, .int r7, .bool r8, .int r9, .int r10, .int r11, .int r12, .rows r13, .int n, .rows (Lz xs)] = some (Xm (Vl (⟨r0, r1, r2, r3, r4, r5, r6, r7, r8, r9, r10, r11, r12, r13⟩ : Rul) n xs)) := by
 show Ep (std (DX N) N) (xOf _) = _
 simp only [Ep, Cz, H1, std, xOf, PXb, PXl, MU hN hs]
 unfold Vl
 cases h1 : (CZ (⟨r0, r1, r2, r3, r4, r5, r6, r7, r8, r9, r10, r11, r12, r13⟩ : Rul)).2 == 0
 case false => simp only [SM, PXb, PXc, h1]; rfl
 simp only [SM, PXb, PXc, h1]
 cases hn : (!(n == 1) && !(n == 2))
 case true => rfl
 have hf : n = 1 ∨ n = 2 := by
  cases h1 : n == 1 with
  | true => exact Or.inl (beq_iff_eq.1 h1)
  | false =>
   rw [h1] at hn
   cases h2 : n == 2 with
   | true => exact Or.inr (beq_iff_eq.1 h2)
   | false => rw [h2] at hn; cases hn
 cases h8 : iLt 8 (xs.length : Int)
 case true => rfl
 have hl : xs.length ≤ 8 := by simp only [iLt, decide_eq_false_iff_not] at h8; omega
 simp only [PXb, Nat.reduceAdd]
 refine Af (QC (len := xs.length) (fun i => [.int (Bd n i), .int (i : Int)]) (fun i => (O8 (⟨r0, r1, r2, r3, r4, r5, r6, r7, r8, r9, r10, r11, r12, r13⟩ : Rul) n xs i).map Xm) ?_ ?_ xs.length 0 N (by omega) (by omega)) ?_
 ·intro self
  simp only [PXb, PXc, PXn, AJ, B0]
 ·intro i self hi
  simp only [PXb, PXc, PXn, AJ, Al (show i ≤ 1099511627776 by omega), BH hi, Am hi, PXl, Cz, Rv hN hs (hx i), ZE, PXc, Nat.reduceAdd, Zu hf i]
  unfold O8
  have e : ((i + 1 : Nat) : Int) = (i : Int) + 1 := rfl
  simp only [e]
  generalize FN (⟨r0, r1, r2, r3, r4, r5, r6, r7, r8, r9, r10, r11, r12, r13⟩ : Rul) _ (xs.getD i []) = M
  cases M.2.2 == 0 <;> try rfl
  cases (!(M.1.stage == 5) || M.1.win == 6) <;> try rfl
  cases M.1.wside == 0 <;> try rfl
  cases iLt ((i : Int) + 1) (xs.length : Int) <;> rfl
 ·rw [Yn]
  cases LN (O8 (⟨r0, r1, r2, r3, r4, r5, r6, r7, r8, r9, r10, r11, r12, r13⟩ : Rul) n xs) xs.length 0 <;> rfl
end Go.Px
end
section
namespace Go.Px
set_option maxRecDepth 100000
def Yz : Option (List PV) → Rows
 | some [.rows L] => L
 | _ => []
def Bg (a b : Int) : Rows := Yz (B2 0 [.int a, .int b])
def isR : Option (List PV) → Bool
 | some [.rows _] => true
 | _ => false
theorem dD : ∀ x : Option (List PV), isR x = true → x = some [.rows (Yz x)]
 | none, h => by cases h
 | some [], h => by cases h
 | some [.rows _], _ => rfl
 | some [.int _], h => by cases h
 | some [.bool _], h => by cases h
 | some [.str _], h => by cases h
 | some (a :: b :: l), h => by cases a <;> cases h
def Aq : Rul := ⟨⟨#[84, 87, 79]⟩, 2, 1, 1, 4, 0, 1, 1, false, 0, 0, 0, 0, []⟩
theorem Z7 {N : Nat} : HW N [] = some [.str Aq.name, .int Aq.side, .int Aq.innings, .int Aq.overs, .int Aq.balls, .int Aq.quota, .int Aq.wide, .int Aq.noball, .bool Aq.freehit, .int Aq.newball, .int Aq.followon, .int Aq.reviews, .int Aq.outside, .rows Aq.power] :=
 rfl
def Ke (a b g : Int) : Int := cond (iLt b a) g (cond (iLt a b) (IntKind.i64.wrap (3 - g)) 0)
def chk (a b g : Int) : Bool :=
  let m := FN Aq g (Bg a b)
  (m.2.2 == 0) && ((m.1.stage == 5) && (!(m.1.win == 6) && ((m.1.wside == Ke a b g) && (Nat.ble (Bg a b).length 1000 && isR (B2 0 [.int a, .int b])))))
theorem cf : ((List.range 5).all fun a => (List.range 5).all fun b => [1, 2].all fun g : Nat => chk a b g) = true := by kernel_rfl
theorem SA {a b g : Int} (ha : 0 ≤ a ∧ a < 5) (hb : 0 ≤ b ∧ b < 5) (hg : g = 1 ∨ g = 2) : (FN Aq g (Bg a b)).2.2 = 0 ∧ (FN Aq g (Bg a b)).1.stage = 5 ∧ ((FN Aq g (Bg a b)).1.win == 6) = false ∧ (FN Aq g (Bg a b)).1.wside = Ke a b g ∧ (Bg a b).length ≤ 1000 ∧ isR (B2 0 [.int a, .int b]) = true := by
 have h := cf
 obtain ⟨x, rfl⟩ : ∃ x : Nat, a = x := ⟨a.toNat, by omega⟩
 obtain ⟨y, rfl⟩ : ∃ y : Nat, b = y := ⟨b.toNat, by omega⟩
 obtain ⟨z, rfl, hz⟩ : ∃ z : Nat, g = z ∧ (z = 1 ∨ z = 2) := ⟨g.toNat, by omega, by omega⟩
 have h1 := List.all_eq_true.1 (List.all_eq_true.1 (List.all_eq_true.1 h x (List.mem_range.2 (by omega))) y (List.mem_range.2 (by omega))) z (by rcases hz with e | e <;> subst e <;> simp)
 unfold chk at h1
 simp only [Bool.and_eq_true, beq_iff_eq, Bool.not_eq_true'] at h1
 obtain ⟨q1, q2, q3, q4, q5, q6⟩ := h1
 exact ⟨q1, q2, q3, q4, Nat.le_of_ble_eq_true q5, q6⟩
theorem Zo (N : Nat) (a b : Int) : B2 N [.int a, .int b] = B2 0 [.int a, .int b] := by kernel_rfl
theorem Zd {N : Nat} {a b : Int} (ha : 0 ≤ a ∧ a < 5) (hb : 0 ≤ b ∧ b < 5) : B2 N [.int a, .int b] = some [.rows (Bg a b)] := by
 rw [Zo]
 exact dD _ (SA ha hb (Or.inl rfl)).2.2.2.2.2
end Go.Px
end
section
namespace Go.Px
set_option maxRecDepth 100000
def scA (L : Rows) (i : Nat) : Int := (atI L i 0).tmod 5
def scB (L : Rows) (i : Nat) : Int := (atI L i 1).tmod 5
theorem O4 {n : Int} (h : 0 ≤ n ∧ n ≤ 255) : 0 ≤ n.tmod 5 ∧ n.tmod 5 < 5 := ⟨Int.tmod_nonneg 5 h.1, Int.tmod_lt_of_pos n (by omega)⟩
theorem Ys {f : Int} (hf : f = 1 ∨ f = 2) (i : Nat) : Bd f i = 1 ∨ Bd f i = 2 := by
 unfold Bd
 cases (i : Int).tmod 2 == 1 with
 | false => exact hf
 | true => rcases hf with h | h <;> subst h <;> decide
theorem VH {g : Nat → Option (Int × Int × Int)} : ∀ k i, (∀ j, i ≤ j → j < i + k → g j = none) → LN g k i = none
 | 0, _, _ => rfl
 | k + 1, i, h => by
  unfold LN
  rw [h i (Nat.le_refl _) (by omega)]
  exact VH k (i + 1) fun j h1 h2 => h j (by omega) (by omega)
theorem WG {g : Nat → Option (Int × Int × Int)} {x : Int × Int × Int} : ∀ k i, (∀ j, i ≤ j → j < i + k → g j = none) → g (i + k) = some x → LN g (k + 1) i = some x
 | 0, i, _, hx => by unfold LN; rw [Nat.add_zero] at hx; rw [hx]
 | k + 1, i, h, hx => by
  rw [LN, h i (Nat.le_refl _) (by omega)]
  exact WG k (i + 1) (fun j h1 h2 => h j (by omega) (by omega)) (by rw [show i + 1 + k = i + (k + 1) by omega]; exact hx)
theorem WJ : ((CZ Aq).2 == 0) = true := by kernel_rfl
def Tr (L : Rows) (f : Int) (i : Nat) (s : List Rows × Int × Int) : List PV ⊕ List Rows × Int × Int :=
 cond (s.2.1 == 0) (.inr (s.1 ++ [Bg (scA L i) (scB L i)], Ke (scA L i) (scB L i) (Bd f i), ((i + 1 : Nat) : Int))) (.inl [.rows (Lz s.1), .int s.2.1, .int s.2.2])
def dW (s : List Rows × Int × Int) : List PV := [.rows (Lz s.1), .int s.2.1, .int s.2.2]
theorem Xe {L : Rows} {f : Int} {xs : List Rows} {j : Nat} (hr : (0 ≤ atI L j 0 ∧ atI L j 0 ≤ 255) ∧ 0 ≤ atI L j 1 ∧ atI L j 1 ≤ 255) (hf : f = 1 ∨ f = 2) (hx : xs.getD j [] = Bg (scA L j) (scB L j)) (hw : Ke (scA L j) (scB L j) (Bd f j) = 0) : O8 Aq f xs j = none := by
 obtain ⟨q1, q2, q3, q4, _⟩ := SA (O4 hr.1) (O4 hr.2) (Ys hf j)
 unfold O8
 rw [hx]
 show cond (!((FN Aq (Bd f j) (Bg (scA L j) (scB L j))).2.2 == 0)) _ _ = _
 rw [show (FN Aq (Bd f j) (Bg (scA L j) (scB L j))).2.2 = 0 from q1, show (FN Aq (Bd f j) (Bg (scA L j) (scB L j))).1.stage = 5 from q2, show ((FN Aq (Bd f j) (Bg (scA L j) (scB L j))).1.win == 6) = false from q3, show (FN Aq (Bd f j) (Bg (scA L j) (scB L j))).1.wside = _ from q4]
 rw [show Ke (Int.tmod (atI L j 0) 5) (Int.tmod (atI L j 1) 5) (Bd f j) = 0 from hw]
 rfl
theorem cY {L : Rows} {f : Int} {xs : List Rows} {j : Nat} (hr : (0 ≤ atI L j 0 ∧ atI L j 0 ≤ 255) ∧ 0 ≤ atI L j 1 ∧ atI L j 1 ≤ 255) (hf : f = 1 ∨ f = 2) (hl : xs.length = j + 1) (hx : xs.getD j [] = Bg (scA L j) (scB L j)) (hw : (Ke (scA L j) (scB L j) (Bd f j) == 0) = false) : O8 Aq f xs j = some (Ke (scA L j) (scB L j) (Bd f j), ((j + 1 : Nat) : Int), 0) := by
 obtain ⟨q1, q2, q3, q4, _⟩ := SA (O4 hr.1) (O4 hr.2) (Ys hf j)
 have hz : iLt ((j + 1 : Nat) : Int) ((j + 1 : Nat) : Int) = false := by simp only [iLt, decide_eq_false_iff_not]; omega
 unfold O8
 rw [hx, hl]
 show cond (!((FN Aq (Bd f j) (Bg (scA L j) (scB L j))).2.2 == 0)) _ _ = _
 rw [show (FN Aq (Bd f j) (Bg (scA L j) (scB L j))).2.2 = 0 from q1, show (FN Aq (Bd f j) (Bg (scA L j) (scB L j))).1.stage = 5 from q2, show ((FN Aq (Bd f j) (Bg (scA L j) (scB L j))).1.win == 6) = false from q3, show (FN Aq (Bd f j) (Bg (scA L j) (scB L j))).1.wside = Ke (scA L j) (scB L j) (Bd f j) from q4, hw, hz]
 rfl
theorem bg {xs : List Rows} {x : Rows} {j : Nat} : (xs ++ [x]).getD j [] = if j < xs.length then xs.getD j [] else if j = xs.length then x else [] := by
 rw [List.getD_eq_getElem?_getD, List.getD_eq_getElem?_getD]
 by_cases h : j < xs.length
 ·rw [if_pos h, List.getElem?_append_left h]
 ·rw [if_neg h]
  by_cases e : j = xs.length
  ·rw [if_pos e, e, List.getElem?_append_right (Nat.le_refl _), Nat.sub_self]; rfl
  ·rw [if_neg e, List.getElem?_eq_none (by simp; omega)]; rfl
theorem WR {L : Rows} {f : Int} {n : Nat} (hf : f = 1 ∨ f = 2) (hn : n ≤ 8) (hr : ∀ i, i < n → (0 ≤ atI L i 0 ∧ atI L i 0 ≤ 255) ∧ 0 ≤ atI L i 1 ∧ atI L i 1 ≤ 255) : ∀ k i s, i + k = n → (s.2.1 == 0) = true → s.1.length = i → (∀ j, j < i → s.1.getD j [] = Bg (scA L j) (scB L j) ∧ Ke (scA L j) (scB L j) (Bd f j) = 0) →
    ∃ xs w u, N8 (Tr L f) dW k i s = [.rows (Lz xs), .int w, .int u] ∧ Vl Aq f xs = cond (w == 0) (0, 0, 6) (w, u, 0) ∧ ∀ j, (xs.getD j []).length ≤ 1048576
  | 0, i, s, hk, hw, hl, ht => by
    refine ⟨s.1, s.2.1, s.2.2, rfl, ?_, fun j => ?_⟩
    · have h8 : iLt 8 (s.1.length : Int) = false := by simp only [iLt, decide_eq_false_iff_not]; omega
      have hz := VH (g := O8 Aq f s.1) s.1.length 0 fun j _ hj => Xe (hr j (by omega)) hf (ht j (by omega)).1 (ht j (by omega)).2
      unfold Vl
      rw [WJ, h8, hz, hw]
      rcases hf with h | h <;> subst h <;> rfl
    · by_cases e : j < i
      · rw [(ht j e).1]
        exact Nat.le_trans (SA (O4 (hr j (by omega)).1) (O4 (hr j (by omega)).2) (Or.inl rfl)).2.2.2.2.1 (by omega)
      · rw [List.getD_eq_getElem?_getD, List.getElem?_eq_none (by omega)]
        exact Nat.zero_le _
  | k + 1, i, s, hk, hw, hl, ht => by
    have hb : Tr L f i s = .inr (s.1 ++ [Bg (scA L i) (scB L i)], Ke (scA L i) (scB L i) (Bd f i), ((i + 1 : Nat) : Int)) := by unfold Tr; rw [hw]; rfl
    have hg : ∀ j, j < i + 1 → (s.1 ++ [Bg (scA L i) (scB L i)]).getD j [] = Bg (scA L j) (scB L j) := fun j hj => by
      rw [bg, hl]
      by_cases e : j < i
      · rw [if_pos e]; exact (ht j e).1
      · rw [if_neg e, if_pos (by omega), show j = i by omega]
    simp only [N8, hb]
    cases hq : Ke (scA L i) (scB L i) (Bd f i) == 0 with
    | true =>
      refine WR hf hn hr k (i + 1) _ (by omega) hq (by simp; omega) fun j hj => ⟨hg j hj, ?_⟩
      by_cases e : j < i
      · exact (ht j e).2
      · rw [show j = i by omega]; exact beq_iff_eq.1 hq
    | false =>
      refine ⟨s.1 ++ [Bg (scA L i) (scB L i)], Ke (scA L i) (scB L i) (Bd f i), ((i + 1 : Nat) : Int), ?_, ?_, fun j => ?_⟩
      · cases k with
        | zero => rfl
        | succ k =>
          simp only [N8, Tr, hq, cond_false]
      · have hl1 : (s.1 ++ [Bg (scA L i) (scB L i)]).length = i + 1 := by simp; omega
        have h8 : iLt 8 ((i + 1 : Nat) : Int) = false := by simp only [iLt, decide_eq_false_iff_not]; omega
        have hz := WG (g := O8 Aq f (s.1 ++ [Bg (scA L i) (scB L i)])) i 0 (fun j _ hj => Xe (hr j (by omega)) hf (hg j (by omega)) (ht j (by omega)).2) (by rw [Nat.zero_add]; exact cY (hr i (by omega)) hf hl1 (hg i (by omega)) hq)
        unfold Vl
        rw [WJ, hl1, h8, hz, hq]
        rcases hf with h | h <;> subst h <;> rfl
      · by_cases e : j < i + 1
        · rw [hg j e]
          exact Nat.le_trans (SA (O4 (hr j (by omega)).1) (O4 (hr j (by omega)).2) (Or.inl rfl)).2.2.2.2.1 (by omega)
        · rw [List.getD_eq_getElem?_getD, List.getElem?_eq_none (by simp; omega)]
          exact Nat.zero_le _
set_option maxHeartbeats 4000000 in
theorem Q2 {N : Nat} {b : Bool} {L : Rows} (ha : GZ N [] = some [.bool true]) (hN : 2097152 < N) (hr : ∀ i, i < L.length → (0 ≤ atI L i 0 ∧ atI L i 0 ≤ 255) ∧ 0 ≤ atI L i 1 ∧ atI L i 1 ≤ 255) : Dz N [.bool b, .rows L] = some [.bool true] := by
 show D6 (std (Bf N) N) (xOf _) = _
 simp only [D6, KP, Cm, Fl, LU, std, xOf, PXb, ha, Z7]
 obtain ⟨f, hf, hc⟩ : ∃ f : Int, (f = 1 ∨ f = 2) ∧ (cond b (some [PV.int 2]) (some [PV.int 1])) = some [.int f] := by
  cases b
  ·exact ⟨1, Or.inl rfl, rfl⟩
  ·exact ⟨2, Or.inr rfl, rfl⟩
 rw [hc]
 simp only [PXb]
 refine Af (RT (St := List Rows × Int × Int) (len := min L.length 8) (enc := fun i s => [.rows (Lz s.1), .int s.2.1, .int s.2.2, .int (i : Int)]) (body := Tr L f) (fin := dW) (fun i s => s.1.length ≤ i) ?_ ?_ (min L.length 8) 0 ([], 0, 0) N (by omega) (by omega) (Nat.le_refl _)) ?_
 ·intro s self _
  have : (iLt ((min L.length 8 : Nat) : Int) (L.length : Int) && iLt ((min L.length 8 : Nat) : Int) 8) = false := by
   rw [Bool.and_eq_false_iff]
   simp only [iLt, decide_eq_false_iff_not]
   omega
  simp only [PXb, PXc, PXn, AJ, this]
  rfl
 ·intro i s self hi hs
  have h1 : i < L.length := by omega
  have h8 : iLt (i : Int) 8 = true := by simp only [iLt, decide_eq_true_eq]; omega
  have h24 : iSm ((s.1.length + 1 : Nat) : Int) 24 = true := Jg (by omega) (by omega)
  have r := hr i h1
  have w1 : IntKind.i64.wrap (atI L i 0) = atI L i 0 := GV (by omega) (by omega)
  have w2 : IntKind.i64.wrap (atI L i 1) = atI L i 1 := GV (by omega) (by omega)
  refine ⟨?_, fun s' h => ?_⟩
  ·simp only [PXb, PXc, PXn, AJ, Al (show i ≤ 1099511627776 by omega), BH h1, Am h1, h8, Ce, w1, w2, Fl, Zd (O4 r.1) (O4 r.2), PXl, List.length_append, List.length_cons, List.length_nil, Nat.zero_add, Nat.reduceAdd, h24]
   unfold Tr
   cases hq : s.2.1 == 0
   case false => rfl
   have hz : s.2.1 = 0 := beq_iff_eq.1 hq
   simp only [cond_true, hz]
   unfold Ke scA scB Bd
   cases iLt ((atI L i 1).tmod 5) ((atI L i 0).tmod 5) <;> cases iLt ((atI L i 0).tmod 5) ((atI L i 1).tmod 5) <;> rfl
  ·unfold Tr at h
   cases hq : s.2.1 == 0 with
   | false => rw [hq] at h; cases h
   | true => rw [hq] at h; cases h; simp; omega
 ·obtain ⟨xs, w, u, e1, e2, e3⟩ := WR hf (show min L.length 8 ≤ 8 by omega) (fun i hi => hr i (by omega)) (min L.length 8) 0 ([], 0, 0) (by omega) rfl rfl (fun j hj => absurd hj (Nat.not_lt_zero j))
  rw [e1]
  simp only [PXb, Cm, Ra hN (show Aq.name.size ≤ 1048576 by decide) e3, Xm]
  have e4 : Vl ⟨Aq.name, Aq.side, Aq.innings, Aq.overs, Aq.balls, Aq.quota, Aq.wide, Aq.noball, Aq.freehit, Aq.newball, Aq.followon, Aq.reviews, Aq.outside, Aq.power⟩ f xs = cond (w == 0) (0, 0, 6) (w, u, 0) := e2
  rw [e4]
  cases hw : w == 0
  ·simp only [cond_false, beq_self_eq_true, Bool.and_self]
  ·rfl
end Go.Px
end
