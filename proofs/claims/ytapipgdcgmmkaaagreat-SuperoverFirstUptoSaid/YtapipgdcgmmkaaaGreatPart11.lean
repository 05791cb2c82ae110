/- Part 11. -/
import Derived.Test.YtapipgdcgmmkaaaGreatPart10
import Derived.Test.YtapipgdcgmmkaaaGreatPart07
set_option linter.unusedVariables false
set_option linter.unusedSimpArgs false
section
namespace Go.Px
def AQ (xs : List Inn) : Rows := xs.map Inn.ls
def dI : Inn := ⟨0, 0, 0, 0, 0, 0, 0, 0, 0, 0, 0, 0, 0, 0, [], 0, [], [], false, [], false, 0, 0, 0, [], 0, 0, 0⟩
def inn (xs : List Inn) (i : Nat) : Inn := xs.getD i dI
structure Mat where
 rules : Rul
 stage : Int
 first : Int
 follow : Bool
 inns : List Inn
 pen1 : Int
 pen2 : Int
 win : Int
 wside : Int
 margin : Int
def Mat.ls (m : Mat) : List PV := [.str m.rules.name, .int m.rules.side, .int m.rules.innings, .int m.rules.overs, .int m.rules.balls, .int m.rules.quota, .int m.rules.wide, .int m.rules.noball, .bool m.rules.freehit, .int m.rules.newball, .int m.rules.followon, .int m.rules.reviews, .int m.rules.outside, .rows m.rules.power, .int m.stage, .int m.first, .bool m.follow, .rows (AQ m.inns), .int m.pen1, .int m.pen2, .int m.win, .int m.wside, .int m.margin]
def XQ (x : Mat × Int) : List PV := [.str x.1.rules.name, .int x.1.rules.side, .int x.1.rules.innings, .int x.1.rules.overs, .int x.1.rules.balls, .int x.1.rules.quota, .int x.1.rules.wide, .int x.1.rules.noball, .bool x.1.rules.freehit, .int x.1.rules.newball, .int x.1.rules.followon, .int x.1.rules.reviews, .int x.1.rules.outside, .rows x.1.rules.power, .int x.1.stage, .int x.1.first, .bool x.1.follow, .rows (AQ x.1.inns), .int x.1.pen1, .int x.1.pen2, .int x.1.win, .int x.1.wside, .int x.1.margin, .int x.2]
theorem RJ (xs : List Inn) (i : Nat) : A1 (AQ xs) i = (match xs[i]? with | some s => s.ls | none => []) := by
 unfold A1 AQ
 rw [List.getD_eq_getElem?_getD, List.getElem?_map]
 cases xs[i]? <;> rfl
theorem Nh (xs : List Inn) (i : Nat) : inn xs i = (match xs[i]? with | some s => s | none => dI) := by
 unfold inn
 rw [List.getD_eq_getElem?_getD]
 cases xs[i]? <;> rfl
theorem Py (xs : List Inn) : (AQ xs).length = xs.length := List.length_map _
theorem PXi : (∀ xs : List Inn, (AQ xs).length = xs.length) ∧ (∀ (xs : List Inn) (i : Nat), pvI (AJ (AQ xs) i 0) = (inn xs i).side) ∧ (∀ (xs : List Inn) (i : Nat), pvI (AJ (AQ xs) i 1) = (inn xs i).target) ∧ (∀ (xs : List Inn) (i : Nat), pvI (AJ (AQ xs) i 2) = (inn xs i).overs) ∧ (∀ (xs : List Inn) (i : Nat), pvI (AJ (AQ xs) i 3) = (inn xs i).runs) ∧
    (∀ (xs : List Inn) (i : Nat), pvI (AJ (AQ xs) i 4) = (inn xs i).wickets) ∧ (∀ (xs : List Inn) (i : Nat), pvI (AJ (AQ xs) i 5) = (inn xs i).wides) ∧ (∀ (xs : List Inn) (i : Nat), pvI (AJ (AQ xs) i 6) = (inn xs i).noballs) ∧ (∀ (xs : List Inn) (i : Nat), pvI (AJ (AQ xs) i 7) = (inn xs i).byes) ∧ (∀ (xs : List Inn) (i : Nat), pvI (AJ (AQ xs) i 8) = (inn xs i).legbyes) ∧
    (∀ (xs : List Inn) (i : Nat), pvI (AJ (AQ xs) i 9) = (inn xs i).pens) ∧ (∀ (xs : List Inn) (i : Nat), pvI (AJ (AQ xs) i 10) = (inn xs i).complete) ∧ (∀ (xs : List Inn) (i : Nat), pvI (AJ (AQ xs) i 11) = (inn xs i).inover) ∧ (∀ (xs : List Inn) (i : Nat), pvI (AJ (AQ xs) i 12) = (inn xs i).striker) ∧ (∀ (xs : List Inn) (i : Nat), pvI (AJ (AQ xs) i 13) = (inn xs i).other) ∧
    (∀ (xs : List Inn) (i : Nat), pvL (AJ (AQ xs) i 14) = (inn xs i).batters) ∧ (∀ (xs : List Inn) (i : Nat), pvI (AJ (AQ xs) i 15) = (inn xs i).bowler) ∧ (∀ (xs : List Inn) (i : Nat), pvL (AJ (AQ xs) i 16) = (inn xs i).bowlers) ∧ (∀ (xs : List Inn) (i : Nat), pvL (AJ (AQ xs) i 17) = (inn xs i).before) ∧ (∀ (xs : List Inn) (i : Nat), pvB (AJ (AQ xs) i 18) = (inn xs i).fresh) ∧
    (∀ (xs : List Inn) (i : Nat), pvL (AJ (AQ xs) i 19) = (inn xs i).bowled) ∧ (∀ (xs : List Inn) (i : Nat), pvB (AJ (AQ xs) i 20) = (inn xs i).freehit) ∧ (∀ (xs : List Inn) (i : Nat), pvI (AJ (AQ xs) i 21) = (inn xs i).ballage) ∧ (∀ (xs : List Inn) (i : Nat), pvI (AJ (AQ xs) i 22) = (inn xs i).keeper) ∧ (∀ (xs : List Inn) (i : Nat), pvI (AJ (AQ xs) i 23) = (inn xs i).outside) ∧
    (∀ (xs : List Inn) (i : Nat), pvL (AJ (AQ xs) i 24) = (inn xs i).subs) ∧ (∀ (xs : List Inn) (i : Nat), pvI (AJ (AQ xs) i 25) = (inn xs i).rev1) ∧ (∀ (xs : List Inn) (i : Nat), pvI (AJ (AQ xs) i 26) = (inn xs i).rev2) ∧ (∀ (xs : List Inn) (i : Nat), pvI (AJ (AQ xs) i 27) = (inn xs i).ending) := by
  refine ⟨Py, ?_, ?_, ?_, ?_, ?_, ?_, ?_, ?_, ?_, ?_, ?_, ?_, ?_, ?_, ?_, ?_, ?_, ?_, ?_, ?_, ?_, ?_, ?_, ?_, ?_, ?_, ?_, ?_⟩
  all_goals (intro xs i; rw [Nh]; unfold AJ; rw [RJ]; cases xs[i]? <;> rfl)
theorem Mat.eta (m : Mat) : Mat.mk m.rules m.stage m.first m.follow m.inns m.pen1 m.pen2 m.win m.wside m.margin = m := rfl
theorem PXk : (∀ m : Mat, m.ls = [.str m.rules.name, .int m.rules.side, .int m.rules.innings, .int m.rules.overs, .int m.rules.balls, .int m.rules.quota, .int m.rules.wide, .int m.rules.noball, .bool m.rules.freehit, .int m.rules.newball, .int m.rules.followon, .int m.rules.reviews, .int m.rules.outside, .rows m.rules.power, .int m.stage, .int m.first, .bool m.follow, .rows (AQ m.inns), .int m.pen1, .int m.pen2, .int m.win, .int m.wside, .int m.margin]) ∧
    (∀ x : Mat × Int, XQ x = [.str x.1.rules.name, .int x.1.rules.side, .int x.1.rules.innings, .int x.1.rules.overs, .int x.1.rules.balls, .int x.1.rules.quota, .int x.1.rules.wide, .int x.1.rules.noball, .bool x.1.rules.freehit, .int x.1.rules.newball, .int x.1.rules.followon, .int x.1.rules.reviews, .int x.1.rules.outside, .rows x.1.rules.power, .int x.1.stage, .int x.1.first, .bool x.1.follow, .rows (AQ x.1.inns), .int x.1.pen1, .int x.1.pen2, .int x.1.win, .int x.1.wside, .int x.1.margin, .int x.2]) ∧
    (∀ m : Mat, Mat.mk m.rules m.stage m.first m.follow m.inns m.pen1 m.pen2 m.win m.wside m.margin = m) := ⟨fun _ => rfl, fun _ => rfl, fun _ => rfl⟩
theorem UQ : ∀ (ps r pre : List PV), r.length = ps.length → Bi (pre ++ r) pre.length ps = pre ++ ps
 | [], r, pre, h => by
  have : r = [] := List.eq_nil_of_length_eq_zero h
  subst this
  rfl
 | p :: ps, [], pre, h => by cases h
 | p :: ps, a :: r, pre, h => by
  have ih := UQ ps r (pre ++ [p]) (by simpa using h)
  simp only [List.length_append, List.length_cons, List.length_nil, List.append_assoc, List.cons_append, List.nil_append] at ih
  unfold Bi
  rw [List.set_append_right _ _ (Nat.le_refl _), Nat.sub_self]
  exact ih
theorem XH (a s : Inn) : Bi a.ls 0 s.ls = s.ls := UQ s.ls a.ls [] rfl
theorem Wc (a : Inn) (e : Int) : Bi a.ls 27 [.int e] = Inn.ls { a with ending := e } := by
 show a.ls.set 27 (.int e) = _
 rfl
theorem Wo {xs : List Inn} {i : Nat} (h : i < xs.length) (s : Inn) : (AQ xs).set i (Bi (A1 (AQ xs) i) 0 s.ls) = AQ (xs.set i s) := by
 have e : A1 (AQ xs) i = (xs[i]).ls := by rw [RJ, List.getElem?_eq_getElem h]
 rw [e, XH]
 exact List.map_set.symm
theorem Wb {xs : List Inn} {i : Nat} (h : i < xs.length) (e : Int) : (AQ xs).set i (Bi (A1 (AQ xs) i) 27 [.int e]) = AQ (xs.set i { inn xs i with ending := e }) := by
 have e1 : A1 (AQ xs) i = (inn xs i).ls := by rw [RJ, Nh, List.getElem?_eq_getElem h]
 rw [e1, Wc]
 exact List.map_set.symm
theorem Wl (xs : List Inn) (s : Inn) : AQ xs ++ [s.ls] = AQ (xs ++ [s]) := by
 show List.map Inn.ls xs ++ List.map Inn.ls [s] = List.map Inn.ls (xs ++ [s])
 exact List.map_append.symm
theorem Wy (xs : List Inn) (i : Nat) (s : Inn) : (AQ xs).set i (Bi (A1 (AQ xs) i) 0 s.ls) = AQ (xs.set i s) := by
 by_cases h : i < xs.length
 ·exact Wo h s
 ·rw [List.set_eq_of_length_le (by rw [Py]; omega), List.set_eq_of_length_le (by omega)]
theorem Tt (xs : List Inn) (i : Nat) (e : Int) : (AQ xs).set i (Bi (A1 (AQ xs) i) 27 [.int e]) = AQ (xs.set i { inn xs i with ending := e }) := by
 by_cases h : i < xs.length
 ·exact Wb h e
 ·rw [List.set_eq_of_length_le (by rw [Py]; omega), List.set_eq_of_length_le (by omega)]
theorem PXr : (∀ (xs : List Inn) (x0 x1 x2 x3 x4 x5 x6 x7 x8 x9 x10 x11 x12 x13 x15 x21 x22 x23 x25 x26 x27 : Int) (x18 x20 : Bool) (x14 x16 x17 x19 x24 : Rows), AQ xs ++ [([.int x0, .int x1, .int x2, .int x3, .int x4, .int x5, .int x6, .int x7, .int x8, .int x9, .int x10, .int x11, .int x12, .int x13, .rows x14, .int x15, .rows x16, .rows x17, .bool x18, .rows x19, .bool x20, .int x21, .int x22, .int x23, .rows x24, .int x25, .int x26, .int x27] : List PV)] = AQ (xs ++ [⟨x0, x1, x2, x3, x4, x5, x6, x7, x8, x9, x10, x11, x12, x13, x14, x15, x16, x17, x18, x19, x20, x21, x22, x23, x24, x25, x26, x27⟩])) ∧ (∀ (xs : List Inn) (i : Nat) (x0 x1 x2 x3 x4 x5 x6 x7 x8 x9 x10 x11 x12 x13 x15 x21 x22 x23 x25 x26 x27 : Int) (x18 x20 : Bool) (x14 x16 x17 x19 x24 : Rows), (AQ xs).set i (Bi (A1 (AQ xs) i) 0 [.int x0, .int x1, .int x2, .int x3, .int x4, .int x5, .int x6, .int x7, .int x8, .int x9, .int x10, .int x11, .int x12, .int x13, .rows x14, .int x15, .rows x16, .rows x17, .bool x18, .rows x19, .bool x20, .int x21, .int x22, .int x23, .rows x24, .int x25, .int x26, .int x27]) = AQ (xs.set i ⟨x0, x1, x2, x3, x4, x5, x6, x7, x8, x9, x10, x11, x12, x13, x14, x15, x16, x17, x18, x19, x20, x21, x22, x23, x24, x25, x26, x27⟩)) ∧
    (∀ (xs : List Inn) (i : Nat) (e : Int), (AQ xs).set i (Bi (A1 (AQ xs) i) 27 [.int e]) = AQ (xs.set i { inn xs i with ending := e })) :=
  ⟨fun xs x0 x1 x2 x3 x4 x5 x6 x7 x8 x9 x10 x11 x12 x13 x15 x21 x22 x23 x25 x26 x27 x18 x20 x14 x16 x17 x19 x24 => Wl xs ⟨x0, x1, x2, x3, x4, x5, x6, x7, x8, x9, x10, x11, x12, x13, x14, x15, x16, x17, x18, x19, x20, x21, x22, x23, x24, x25, x26, x27⟩, fun xs i x0 x1 x2 x3 x4 x5 x6 x7 x8 x9 x10 x11 x12 x13 x15 x21 x22 x23 x25 x26 x27 x18 x20 x14 x16 x17 x19 x24 => Wy xs i ⟨x0, x1, x2, x3, x4, x5, x6, x7, x8, x9, x10, x11, x12, x13, x14, x15, x16, x17, x18, x19, x20, x21, x22, x23, x24, x25, x26, x27⟩, Tt⟩
end Go.Px
end
section
namespace Go.Px
set_option maxRecDepth 100000
def NJ (n : Int) : Int := IntKind.i64.wrap (3 - n)
theorem SM {N : Nat} {n : Int}  : BD N [.int n] = some [.int (NJ n)] := by
 show Er (std (JN N) N) (xOf _) = _
 simp only [Er, std, xOf, PXb, PXc, PXn, PXm, Nat.reduceAdd, Int.reduceBEq, NJ]
theorem Tz {N : Nat} {n : Int}  : Eh N [.int n] = some [.int (NJ n)] := by
 show Gj (std (L9 N) N) (xOf _) = _
 simp only [Gj, std, xOf, PXb, PXc, PXn, PXm, Nat.reduceAdd, Int.reduceBEq, NJ]
def G3 (m : Mat) (i : Int) : Int := cond (cond (m.follow && iLe 2 i) (i == 2) (i.tmod 2 == 1)) (NJ m.first) m.first
theorem SH {N : Nat} {m1 m2 m3 m4 m5 m6 m7 m9 m10 m11 m12 m14 m15 m18 m19 m20 m21 m22 : Int} {m8 m16 : Bool} {m0 : ByteArray} {m13 : Rows} {m17 : List Inn} {i : Int}  : B6 N [.str m0, .int m1, .int m2, .int m3, .int m4, .int m5, .int m6, .int m7, .bool m8, .int m9, .int m10, .int m11, .int m12, .rows m13, .int m14, .int m15, .bool m16, .rows (AQ m17), .int m18, .int m19, .int m20, .int m21, .int m22, .int i] = some [.int (G3 (⟨⟨m0, m1, m2, m3, m4, m5, m6, m7, m8, m9, m10, m11, m12, m13⟩, m14, m15, m16, m17, m18, m19, m20, m21, m22⟩ : Mat) i)] := by
 show Em (std (Fm N) N) (xOf _) = _
 generalize hres : (some [.int (G3 (⟨⟨m0, m1, m2, m3, m4, m5, m6, m7, m8, m9, m10, m11, m12, m13⟩, m14, m15, m16, m17, m18, m19, m20, m21, m22⟩ : Mat) i)] : Option (List PV)) = RR
 simp only [Em, H1, std, xOf, PXb, PXc, PXn, PXm, Nat.reduceAdd, Int.reduceBEq, SM]
 subst hres; simp only [G3]
theorem TU {N : Nat} {m1 m2 m3 m4 m5 m6 m7 m9 m10 m11 m12 m14 m15 m18 m19 m20 m21 m22 : Int} {m8 m16 : Bool} {m0 : ByteArray} {m13 : Rows} {m17 : List Inn} {i : Int} (hi : 0 ≤ i ∧ i ≤ 3) : EC N [.str m0, .int m1, .int m2, .int m3, .int m4, .int m5, .int m6, .int m7, .bool m8, .int m9, .int m10, .int m11, .int m12, .rows m13, .int m14, .int m15, .bool m16, .rows (AQ m17), .int m18, .int m19, .int m20, .int m21, .int m22, .int i] = some [.int (G3 (⟨⟨m0, m1, m2, m3, m4, m5, m6, m7, m8, m9, m10, m11, m12, m13⟩, m14, m15, m16, m17, m18, m19, m20, m21, m22⟩ : Mat) i)] := by
 show Fi (std (GU N) N) (xOf _) = _
 generalize hres : (some [.int (G3 (⟨⟨m0, m1, m2, m3, m4, m5, m6, m7, m8, m9, m10, m11, m12, m13⟩, m14, m15, m16, m17, m18, m19, m20, m21, m22⟩ : Mat) i)] : Option (List PV)) = RR
 simp only [Fi, J5, std, xOf, PXb, PXc, PXn, PXm, Nat.reduceAdd, Int.reduceBEq, Tz]
 subst hres; simp only [G3]
 have : i = 0 ∨ i = 1 ∨ i = 2 ∨ i = 3 := by omega
 rcases this with h | h | h | h <;> subst h <;> cases m16 <;> rfl
def EX (stage : Int) (xs : List Inn) (i : Nat) : Bool := !(((inn xs i).ending == 0) == (stage == 3 && ((i : Int) == IntKind.i64.wrap ((xs.length : Int) - 1))))
def NG (m : Mat) : Bool := !Aa (EX m.stage m.inns) m.inns.length 0 && (!(m.stage == 3) || iLt 0 (m.inns.length : Int))
theorem SB {N : Nat} {m1 m2 m3 m4 m5 m6 m7 m9 m10 m11 m12 m14 m15 m18 m19 m20 m21 m22 : Int} {m8 m16 : Bool} {m0 : ByteArray} {m13 : Rows} {m17 : List Inn} (hN : 2097152 < N) (hl : m17.length ≤ 1048576) : DN N [.str m0, .int m1, .int m2, .int m3, .int m4, .int m5, .int m6, .int m7, .bool m8, .int m9, .int m10, .int m11, .int m12, .rows m13, .int m14, .int m15, .bool m16, .rows (AQ m17), .int m18, .int m19, .int m20, .int m21, .int m22] = some [.bool (NG (⟨⟨m0, m1, m2, m3, m4, m5, m6, m7, m8, m9, m10, m11, m12, m13⟩, m14, m15, m16, m17, m18, m19, m20, m21, m22⟩ : Mat))] := by
 show Ew (std (Js N) N) (xOf _) = _
 generalize hres : (some [.bool (NG (⟨⟨m0, m1, m2, m3, m4, m5, m6, m7, m8, m9, m10, m11, m12, m13⟩, m14, m15, m16, m17, m18, m19, m20, m21, m22⟩ : Mat))] : Option (List PV)) = RR
 simp only [Ew, std, xOf, PXb, PXi]
 subst hres; simp only [NG]
 refine Ap (B4 (len := m17.length) (EX m14 m17) [.bool false] ?_ ?_ N (by omega)) ?_
 ·intro self
  simp only [PXb, PXc, PXn, AK, Bu]
 ·intro i self hi
  simp only [PXb, PXc, AK, A5 (show i ≤ 1099511627776 by omega), Bc hi, A3 hi, PXi, EX]
 ·cases Aa (EX m14 m17) m17.length 0 with
  | true => rfl
  | false => simp only [PXb, PXc, PXn, PXm, Nat.reduceAdd, Int.reduceBEq]
end Go.Px
end
section
namespace Go.Px
set_option maxRecDepth 100000
def K3 (xs : List Inn) : Prop := ∀ i, i < xs.length → (inn xs i).Fit
def Nv (m : Mat) : Bool := (iLt m.pen1 0 || iLt 1000000 m.pen1) || (iLt m.pen2 0 || iLt 1000000 m.pen2)
def EZ (m : Mat) (i : Nat) : Bool := !Ki m.rules (inn m.inns i) || !((inn m.inns i).side == G3 m (i : Int))
def Ub (m : Mat) : Bool :=
  let n : Int := m.inns.length
  let most := IntKind.i64.wrap (2 * m.rules.innings)
  H4 m.rules == 0 && (!(iLt m.stage 1) && (!(iLt 5 m.stage) && (!Nv m && (!(iLt m.first 0 || iLt 2 m.first || iLt most n) && (!(m.first == 0 && (iLt 0 n || (!(m.stage == 1) && !(m.stage == 5)))) &&
    (!(m.stage == 1 && !(m.first == 0)) && (!(m.stage == 2 && n == most) && (!(m.stage == 4 && (!(m.rules.innings == 2) || !(n == 2))) && !(m.follow && (!(m.rules.innings == 2) || iLt n 2))))))))))
def EY (m : Mat) : Bool := Ub m && (!Aa (EZ m) m.inns.length 0 && NG m)
set_option maxHeartbeats 4000000 in
theorem SN {N : Nat} {m1 m2 m3 m4 m5 m6 m7 m9 m10 m11 m12 m14 m15 m18 m19 m20 m21 m22 : Int} {m8 m16 : Bool} {m0 : ByteArray} {m13 : Rows} {m17 : List Inn} (hf : K3 m17) (hN : 2097152 < N) (hl : m17.length ≤ 1000000) (hs : m0.size ≤ 1048576) : BV N [.str m0, .int m1, .int m2, .int m3, .int m4, .int m5, .int m6, .int m7, .bool m8, .int m9, .int m10, .int m11, .int m12, .rows m13, .int m14, .int m15, .bool m16, .rows (AQ m17), .int m18, .int m19, .int m20, .int m21, .int m22] = some [.bool (EY (⟨⟨m0, m1, m2, m3, m4, m5, m6, m7, m8, m9, m10, m11, m12, m13⟩, m14, m15, m16, m17, m18, m19, m20, m21, m22⟩ : Mat))] := by
 show E0 (std (B2 N) N) (xOf _) = _
 generalize hres : (some [.bool (EY (⟨⟨m0, m1, m2, m3, m4, m5, m6, m7, m8, m9, m10, m11, m12, m13⟩, m14, m15, m16, m17, m18, m19, m20, m21, m22⟩ : Mat))] : Option (List PV)) = RR
 simp only [E0, IC, DA, Dn, Dm, std, xOf, PXb, SA hN hs, PXi]
 subst hres; simp only [EY, Ub]
 cases hc : H4 (⟨⟨m0, m1, m2, m3, m4, m5, m6, m7, m8, m9, m10, m11, m12, m13⟩, m14, m15, m16, m17, m18, m19, m20, m21, m22⟩ : Mat).rules == 0 <;> (try rfl)
 cases h1 : iLt m14 1 <;> (try rfl)
 cases h5 : iLt 5 m14 <;> (try rfl)
 simp only [PXb]
 refine Ap (B4 (len := 2) (fun i => iLt (cond ((i : Int) == 1) m19 m18) 0 || iLt 1000000 (cond ((i : Int) == 1) m19 m18)) [.bool false] ?_ ?_ N (by omega)) ?_
 ·intro self
  rfl
 ·intro i self hi
  simp only [PXb, A5 (show i ≤ 1099511627776 by omega), show iLt (i : Int) 2 = true from Bc (len := 2) hi, show iIn (i : Int) 2 = true from A3 (len := 2) hi]
 ·have hp : Aa (fun i => iLt (cond ((i : Int) == 1) m19 m18) 0 || iLt 1000000 (cond ((i : Int) == 1) m19 m18)) 2 0 = Nv (⟨⟨m0, m1, m2, m3, m4, m5, m6, m7, m8, m9, m10, m11, m12, m13⟩, m14, m15, m16, m17, m18, m19, m20, m21, m22⟩ : Mat) := by
   simp only [A8, HF, Bool.or_false]
   rfl
  rw [hp]
  cases Nv (⟨⟨m0, m1, m2, m3, m4, m5, m6, m7, m8, m9, m10, m11, m12, m13⟩, m14, m15, m16, m17, m18, m19, m20, m21, m22⟩ : Mat)
  case true => rfl
  simp only [PXb, TN, Int.reduceBEq]
  cases iLt m15 0 <;> try rfl
  cases iLt 2 m15 <;> try rfl
  cases iLt (IntKind.i64.wrap (2 * m2)) (m17.length : Int) <;> try rfl
  cases (m15 == 0 && (iLt 0 (m17.length : Int) || (!(m14 == 1) && !(m14 == 5)))) <;> try rfl
  cases (m14 == 1 && !(m15 == 0)) <;> try rfl
  cases (m14 == 2 && (m17.length : Int) == IntKind.i64.wrap (2 * m2)) <;> try rfl
  cases (m14 == 4 && (!(m2 == 2) || !((m17.length : Int) == 2))) <;> try rfl
  cases (m16 && (!(m2 == 2) || iLt (m17.length : Int) 2)) <;> try rfl
  simp only [PXb]
  refine Ap (B4 (len := m17.length) (EZ (⟨⟨m0, m1, m2, m3, m4, m5, m6, m7, m8, m9, m10, m11, m12, m13⟩, m14, m15, m16, m17, m18, m19, m20, m21, m22⟩ : Mat)) [.bool false] ?_ ?_ N (by omega)) ?_
  ·intro self
   simp only [PXb, PXc, PXn, AK, Bu]
  ·intro i self hi
   simp only [PXb, PXc, PXn, PXm, Nat.reduceAdd, Int.reduceBEq, A5 (show i ≤ 1099511627776 by omega), Bc hi, A3 hi, PXi, DA, Dn, QG (hf i hi) hN hs, SH, EZ]
   cases Ki (⟨⟨m0, m1, m2, m3, m4, m5, m6, m7, m8, m9, m10, m11, m12, m13⟩, m14, m15, m16, m17, m18, m19, m20, m21, m22⟩ : Mat).rules (inn m17 i) <;> first | rfl | simp only [PXb, PXc, PXn, PXm, Nat.reduceAdd, Int.reduceBEq]
  ·cases Aa (EZ (⟨⟨m0, m1, m2, m3, m4, m5, m6, m7, m8, m9, m10, m11, m12, m13⟩, m14, m15, m16, m17, m18, m19, m20, m21, m22⟩ : Mat)) m17.length 0
   case true => rfl
   simp only [PXb, PXc, PXn, PXm, Nat.reduceAdd, Int.reduceBEq, Dm, SB hN (show m17.length ≤ 1048576 by omega)]
theorem UV (f g : Nat → Bool) : ∀ k i, Aa (fun j => f j || g j) k i = (Aa f k i || Aa g k i)
 | 0, i => rfl
 | k + 1, i => by
  rw [A8, A8, A8, UV f g k (i + 1)]
  cases f i <;> cases g i <;> cases Aa f k (i + 1) <;> cases Aa g k (i + 1) <;> rfl
theorem QS {N : Nat} {m1 m2 m3 m4 m5 m6 m7 m9 m10 m11 m12 m14 m15 m18 m19 m20 m21 m22 : Int} {m8 m16 : Bool} {m0 : ByteArray} {m13 : Rows} {m17 : List Inn} (hf : K3 m17) (hN : 2097152 < N) (hl : m17.length ≤ 4) (hs : m0.size ≤ 1048576) : Cc N [.str m0, .int m1, .int m2, .int m3, .int m4, .int m5, .int m6, .int m7, .bool m8, .int m9, .int m10, .int m11, .int m12, .rows m13, .int m14, .int m15, .bool m16, .rows (AQ m17), .int m18, .int m19, .int m20, .int m21, .int m22] = some [.bool (!Aa (EZ (⟨⟨m0, m1, m2, m3, m4, m5, m6, m7, m8, m9, m10, m11, m12, m13⟩, m14, m15, m16, m17, m18, m19, m20, m21, m22⟩ : Mat)) m17.length 0 && !Aa (EX m14 m17) m17.length 0)] := by
 show Dr (std (Cr N) N) (xOf _) = _
 generalize hres : (some [.bool (!Aa (EZ (⟨⟨m0, m1, m2, m3, m4, m5, m6, m7, m8, m9, m10, m11, m12, m13⟩, m14, m15, m16, m17, m18, m19, m20, m21, m22⟩ : Mat)) m17.length 0 && !Aa (EX m14 m17) m17.length 0)] : Option (List PV)) = RR
 simp only [Dr, Ds, DT, std, xOf, PXb, PXi]
 subst hres
 rw [← Bool.not_or, ← UV]
 refine Ap (B4 (len := m17.length) (fun j => EZ (⟨⟨m0, m1, m2, m3, m4, m5, m6, m7, m8, m9, m10, m11, m12, m13⟩, m14, m15, m16, m17, m18, m19, m20, m21, m22⟩ : Mat) j || EX m14 m17 j) [.bool false] ?_ ?_ N (by omega)) ?_
 ·intro self
  simp only [PXb, PXc, PXn, AK, Bu]
 ·intro i self hi
  have hi3 : 0 ≤ (i : Int) ∧ (i : Int) ≤ 3 := by omega
  simp only [PXb, PXc, PXn, PXm, Nat.reduceAdd, Int.reduceBEq, A5 (show i ≤ 1099511627776 by omega), Bc hi, A3 hi, PXi, Ds, DT, Tw (hf i hi) hN hs, TU hi3, EZ, EX]
  cases Ki (⟨⟨m0, m1, m2, m3, m4, m5, m6, m7, m8, m9, m10, m11, m12, m13⟩, m14, m15, m16, m17, m18, m19, m20, m21, m22⟩ : Mat).rules (inn m17 i) <;> rfl
 ·cases Aa (fun j => EZ (⟨⟨m0, m1, m2, m3, m4, m5, m6, m7, m8, m9, m10, m11, m12, m13⟩, m14, m15, m16, m17, m18, m19, m20, m21, m22⟩ : Mat) j || EX m14 m17 j) m17.length 0 <;> rfl
set_option maxHeartbeats 4000000 in
theorem UA {N : Nat} {m1 m2 m3 m4 m5 m6 m7 m9 m10 m11 m12 m14 m15 m18 m19 m20 m21 m22 : Int} {m8 m16 : Bool} {m0 : ByteArray} {m13 : Rows} {m17 : List Inn} (hf : K3 m17) (hN : 2097152 < N) (hl : m17.length ≤ 1000000) (hs : m0.size ≤ 1048576) : Ek N [.str m0, .int m1, .int m2, .int m3, .int m4, .int m5, .int m6, .int m7, .bool m8, .int m9, .int m10, .int m11, .int m12, .rows m13, .int m14, .int m15, .bool m16, .rows (AQ m17), .int m18, .int m19, .int m20, .int m21, .int m22] = some [.bool (EY (⟨⟨m0, m1, m2, m3, m4, m5, m6, m7, m8, m9, m10, m11, m12, m13⟩, m14, m15, m16, m17, m18, m19, m20, m21, m22⟩ : Mat))] := by
 show Ge (std (El N) N) (xOf _) = _
 generalize hres : (some [.bool (EY (⟨⟨m0, m1, m2, m3, m4, m5, m6, m7, m8, m9, m10, m11, m12, m13⟩, m14, m15, m16, m17, m18, m19, m20, m21, m22⟩ : Mat))] : Option (List PV)) = RR
 simp only [Ge, Ky, Dl, std, xOf, PXb, T6 hN hs, PXi]
 subst hres; simp only [EY, Ub]
 cases hc : H4 (⟨⟨m0, m1, m2, m3, m4, m5, m6, m7, m8, m9, m10, m11, m12, m13⟩, m14, m15, m16, m17, m18, m19, m20, m21, m22⟩ : Mat).rules == 0
 case false => simp only [PXb, PXc, PXn, PXm, Nat.reduceAdd, Int.reduceBEq]
 have rk := (WY (beq_iff_eq.1 hc)).innings
 simp only at rk
 have e2 : IntKind.i64.wrap (2 * m2) = 2 * m2 := NN (by omega) (by omega)
 have e4 : (2 * m2 == 4) = (m2 == 2) := by rw [Bool.eq_iff_iff, beq_iff_eq, beq_iff_eq]; omega
 simp only [e2, e4]
 cases h1 : iLt m14 1
 case true => simp only [PXb, PXc, PXn, PXm, Nat.reduceAdd, Int.reduceBEq]
 cases h5 : iLt 5 m14
 case true => simp only [PXb, PXc, PXn, PXm, Nat.reduceAdd, Int.reduceBEq]
 cases hm : iLt (2 * m2) (m17.length : Int)
 case true => simp only [PXb, PXc, PXn, PXm, Nat.reduceAdd, Int.reduceBEq]
 have h4 : m17.length ≤ 4 := by
  simp only [iLt, decide_eq_false_iff_not] at hm
  omega
 simp only [PXb]
 refine Ap (B4 (len := 2) (fun i => iLt (cond ((i : Int) == 1) m19 m18) 0 || iLt 1000000 (cond ((i : Int) == 1) m19 m18)) [.bool false] ?_ ?_ N (by omega)) ?_
 ·intro self
  rfl
 ·intro i self hi
  simp only [PXb, A5 (show i ≤ 1099511627776 by omega), show iLt (i : Int) 2 = true from Bc (len := 2) hi, show iIn (i : Int) 2 = true from A3 (len := 2) hi]
 ·have hp : Aa (fun i => iLt (cond ((i : Int) == 1) m19 m18) 0 || iLt 1000000 (cond ((i : Int) == 1) m19 m18)) 2 0 = Nv (⟨⟨m0, m1, m2, m3, m4, m5, m6, m7, m8, m9, m10, m11, m12, m13⟩, m14, m15, m16, m17, m18, m19, m20, m21, m22⟩ : Mat) := by
   simp only [A8, HF, Bool.or_false]
   rfl
  rw [hp]
  cases Nv (⟨⟨m0, m1, m2, m3, m4, m5, m6, m7, m8, m9, m10, m11, m12, m13⟩, m14, m15, m16, m17, m18, m19, m20, m21, m22⟩ : Mat)
  case true => rfl
  simp only [PXb, TN, Int.reduceBEq, Dl, QS hf hN h4 hs, NG, UW (show (0 : Int) ≤ (m17.length : Int) by omega)]
  generalize Aa (EZ (⟨⟨m0, m1, m2, m3, m4, m5, m6, m7, m8, m9, m10, m11, m12, m13⟩, m14, m15, m16, m17, m18, m19, m20, m21, m22⟩ : Mat)) m17.length 0 = q1
  generalize Aa (EX m14 m17) m17.length 0 = q2
  generalize (m15 == 0 && (!((m17.length : Int) == 0) || (!(m14 == 1) && !(m14 == 5)))) = q3
  generalize (m14 == 1 && !(m15 == 0)) = q4
  generalize (m14 == 2 && (m17.length : Int) == 2 * m2) = q5
  cases iLt m15 0 <;> cases iLt 2 m15 <;> cases q3 <;> cases q4 <;> cases q5 <;> try (simp only [PXb, PXc, PXn, PXm, Nat.reduceAdd, Int.reduceBEq]; done)
  cases m14 == 3 <;> cases (m17.length : Int) == 0 <;> cases m14 == 4 <;> cases m2 == 2 <;> cases (m17.length : Int) == 2 <;> cases m16 <;> cases iLt (m17.length : Int) 2 <;> cases q1 <;> cases q2 <;> rfl
end Go.Px
end
section
namespace Go.Px
set_option maxRecDepth 100000
def lnx (xs : List Inn) : Nat := (IntKind.i64.wrap ((xs.length : Int) - 1)).toNat
def WX (m : Mat) : Inn := inn m.inns (lnx m.inns)
theorem Rh {n : Nat} (h : ((n : Int) == 0) = false) (hl : n ≤ 1000000) : iIn (IntKind.i64.wrap ((n : Int) - 1)) (n : Int) = true := by
 rw [beq_eq_false_iff_ne] at h
 rw [NN (by omega) (by omega)]
 simp only [iIn, decide_eq_true_eq]; omega
end Go.Px
end
section
namespace Go.Px
set_option maxRecDepth 100000
theorem bind_ok {X : Option (List PV)} {r : List PV} {k : List PV → Option (List PV)} {g : Option (List PV)} (h : X = some r) (hk : k r = g) : X.bind k = g := by rw [h]; exact hk
structure MatOk (m : Mat) : Prop where
 code : H4 m.rules = 0
 len : m.inns.length ≤ 4
 innv : ∀ i, i < m.inns.length → Ki m.rules (inn m.inns i) = true ∧ (inn m.inns i).side = G3 m (i : Int)
 begun : (m.stage == 3) = true → ((m.inns.length : Int) == 0) = false
 toss : (m.stage == 2) = true → m.first = 1 ∨ m.first = 2
 room : (m.stage == 2) = true → (m.inns.length : Int) < 2 * m.rules.innings
 most : IntKind.i64.wrap (2 * m.rules.innings) = 2 * m.rules.innings ∧ (m.inns.length : Int) ≤ 2 * m.rules.innings
structure ActOk (m : Mat) (x : Mat × Int) : Prop where
 rules : x.1.rules = m.rules
 fit : K3 x.1.inns
 len : x.1.inns.length ≤ 5
 some' : (x.2 == 0) = true → (x.1.stage == 3) = true → ((x.1.inns.length : Int) == 0) = false
end Go.Px
end
section
namespace Go.Px
set_option maxRecDepth 100000
structure StepOk (r : Rul) (m : Mat) : Prop where
 rules : m.rules = r
 fit : K3 m.inns
 len : m.inns.length ≤ 5
end Go.Px
end
section
namespace Go.Px
set_option maxRecDepth 100000
structure LogOk (m : Mat) : Prop where
 fit : K3 m.inns
 len : m.inns.length ≤ 5
 name : m.rules.name.size ≤ 1048576
 power : m.rules.power.length ≤ 1048576
end Go.Px
end
section
namespace Go.Px
set_option maxRecDepth 100000
def Uf (m : Mat) : Mat := { m with rules := Pk m.rules, inns := (m.inns.take 5).map LA }
theorem WC (xs : List Inn) : ((xs.take 5).map LA).length ≤ 5 := by rw [List.length_map, List.length_take]; omega
theorem Wh (xs : List Inn) : ∀ i, i < (xs.map LA).length → inn (xs.map LA) i = LA (inn xs i) := fun i hi => by
 rw [List.length_map] at hi
 rw [Nh, Nh, List.getElem?_map, List.getElem?_eq_getElem hi]
 rfl
theorem Wz {m : Mat} : StepOk (Pk m.rules) (Uf m) := ⟨rfl, fun i hi => by
 show (inn ((m.inns.take 5).map LA) i).Fit
 rw [Wh _ i hi]
 exact WZ _, WC _⟩
end Go.Px
end
section
namespace Go.Px
set_option maxRecDepth 100000
theorem V6 {xs : List Inn} {i : Nat} (h : i < xs.length) : xs.take (i + 1) = xs.take i ++ [inn xs i] := by
 rw [List.take_succ_eq_append_getElem h, Nh, List.getElem?_eq_getElem h]
set_option maxHeartbeats 2000000 in
theorem VU {N : Nat} {m1 m2 m3 m4 m5 m6 m7 m9 m10 m11 m12 m14 m15 m18 m19 m20 m21 m22 : Int} {m8 m16 : Bool} {m0 : ByteArray} {m13 : Rows} {m17 : List Inn} (hN : 2097152 < N) : HG N [.str m0, .int m1, .int m2, .int m3, .int m4, .int m5, .int m6, .int m7, .bool m8, .int m9, .int m10, .int m11, .int m12, .rows m13, .int m14, .int m15, .bool m16, .rows (AQ m17), .int m18, .int m19, .int m20, .int m21, .int m22] = some (Uf (⟨⟨m0, m1, m2, m3, m4, m5, m6, m7, m8, m9, m10, m11, m12, m13⟩, m14, m15, m16, m17, m18, m19, m20, m21, m22⟩ : Mat)).ls := by
 show G2 (std (Ed N) N) (xOf _) = _
 have e5 : m17.take (min m17.length 5) = m17.take 5 := by
  by_cases h : m17.length ≤ 5
  ·rw [Nat.min_eq_left h, List.take_length, List.take_of_length_le h]
  ·rw [Nat.min_eq_right (by omega)]
 simp only [G2, std, xOf, PXb, Uj (show (0 : Int) ≤ 20 by omega), Uj (show (0 : Int) ≤ 10 by omega), PXi]
 refine Ap (V3 (len := min m17.length 5) (fun i => [.rows (AQ ((m17.take i).map LA)), .int (i : Int)]) [.rows (AQ ((m17.take 5).map LA))] ?_ ?_ N (by omega)) rfl
 ·intro self
  have : (iLt ((min m17.length 5 : Nat) : Int) (m17.length : Int) && iLt ((min m17.length 5 : Nat) : Int) 5) = false := by
   rw [Bool.and_eq_false_iff]
   simp only [iLt, decide_eq_false_iff_not]
   omega
  simp only [PXb, PXc, PXn, AK, this, e5]
 ·intro i self hi
  have h1 : i < m17.length := by omega
  have h5 : iLt (i : Int) 5 = true := by simp only [iLt, decide_eq_true_eq]; omega
  have h304 : iSm (((m17.take i).length + 1 : Nat) : Int) 304 = true := WT (by rw [List.length_take]; omega) (by omega)
  have c13 : ∀ n : Nat, iRg 0 (cond (iLt 13 (n : Int)) 13 (n : Int)) (n : Int) = true := fun n => Uj (show (0 : Int) ≤ 13 by omega)
  simp only [PXb, PXc, PXn, AK, A5 (show i ≤ 1099511627776 by omega), Bc h1, A3 h1, h5, PXi, c13, List.length_append, List.length_cons, List.length_nil, List.length_map, Nat.zero_add, Nat.reduceAdd, h304, PXr, V6 h1, List.map_append]
  rfl
def D3 (m : Mat) : Int × Int := cond (!EY m || !(m.stage == 5) || !(m.win == 4) || ((m.inns.length : Int) == 0)) (0, 11) ((WX m).side, 0)
theorem OM {N : Nat} {m1 m2 m3 m4 m5 m6 m7 m9 m10 m11 m12 m14 m15 m18 m19 m20 m21 m22 : Int} {m8 m16 : Bool} {m0 : ByteArray} {m13 : Rows} {m17 : List Inn} (hf : K3 m17) (hN : 2097152 < N) (hl : m17.length ≤ 1000000) (hs : m0.size ≤ 1048576) : Cu N [.str m0, .int m1, .int m2, .int m3, .int m4, .int m5, .int m6, .int m7, .bool m8, .int m9, .int m10, .int m11, .int m12, .rows m13, .int m14, .int m15, .bool m16, .rows (AQ m17), .int m18, .int m19, .int m20, .int m21, .int m22] = some [.int (D3 (⟨⟨m0, m1, m2, m3, m4, m5, m6, m7, m8, m9, m10, m11, m12, m13⟩, m14, m15, m16, m17, m18, m19, m20, m21, m22⟩ : Mat)).1, .int (D3 (⟨⟨m0, m1, m2, m3, m4, m5, m6, m7, m8, m9, m10, m11, m12, m13⟩, m14, m15, m16, m17, m18, m19, m20, m21, m22⟩ : Mat)).2] := by
 show Co (std (Dk N) N) (xOf _) = _
 generalize hres : (some [.int (D3 (⟨⟨m0, m1, m2, m3, m4, m5, m6, m7, m8, m9, m10, m11, m12, m13⟩, m14, m15, m16, m17, m18, m19, m20, m21, m22⟩ : Mat)).1, .int (D3 (⟨⟨m0, m1, m2, m3, m4, m5, m6, m7, m8, m9, m10, m11, m12, m13⟩, m14, m15, m16, m17, m18, m19, m20, m21, m22⟩ : Mat)).2] : Option (List PV)) = RR
 simp only [Co, F6, std, xOf, PXb, PXi, SN hf hN hl hs]
 subst hres; simp only [D3]
 cases EY (⟨⟨m0, m1, m2, m3, m4, m5, m6, m7, m8, m9, m10, m11, m12, m13⟩, m14, m15, m16, m17, m18, m19, m20, m21, m22⟩ : Mat) <;> cases m14 == 5 <;> cases m20 == 4 <;> try rfl
 cases h0 : (m17.length : Int) == 0 <;> try rfl
 simp only [PXb, Rh h0 hl]
 rfl
theorem Tx {N : Nat} {m1 m2 m3 m4 m5 m6 m7 m9 m10 m11 m12 m14 m15 m18 m19 m20 m21 m22 : Int} {m8 m16 : Bool} {m0 : ByteArray} {m13 : Rows} {m17 : List Inn} (hf : K3 m17) (hN : 2097152 < N) (hl : m17.length ≤ 1000000) (hs : m0.size ≤ 1048576) : Gm N [.str m0, .int m1, .int m2, .int m3, .int m4, .int m5, .int m6, .int m7, .bool m8, .int m9, .int m10, .int m11, .int m12, .rows m13, .int m14, .int m15, .bool m16, .rows (AQ m17), .int m18, .int m19, .int m20, .int m21, .int m22] = some [.int (D3 (⟨⟨m0, m1, m2, m3, m4, m5, m6, m7, m8, m9, m10, m11, m12, m13⟩, m14, m15, m16, m17, m18, m19, m20, m21, m22⟩ : Mat)).1, .int (D3 (⟨⟨m0, m1, m2, m3, m4, m5, m6, m7, m8, m9, m10, m11, m12, m13⟩, m14, m15, m16, m17, m18, m19, m20, m21, m22⟩ : Mat)).2] := by
 show Gr (std (HR N) N) (xOf _) = _
 generalize hres : (some [.int (D3 (⟨⟨m0, m1, m2, m3, m4, m5, m6, m7, m8, m9, m10, m11, m12, m13⟩, m14, m15, m16, m17, m18, m19, m20, m21, m22⟩ : Mat)).1, .int (D3 (⟨⟨m0, m1, m2, m3, m4, m5, m6, m7, m8, m9, m10, m11, m12, m13⟩, m14, m15, m16, m17, m18, m19, m20, m21, m22⟩ : Mat)).2] : Option (List PV)) = RR
 simp only [Gr, Kn, std, xOf, PXb, PXi, UA hf hN hl hs]
 subst hres; simp only [D3]
 cases EY (⟨⟨m0, m1, m2, m3, m4, m5, m6, m7, m8, m9, m10, m11, m12, m13⟩, m14, m15, m16, m17, m18, m19, m20, m21, m22⟩ : Mat) <;> cases m14 == 5 <;> cases m20 == 4 <;> try rfl
 cases h0 : (m17.length : Int) == 0 <;> try rfl
 simp only [PXb, Rh h0 hl]
 rfl
theorem Le {N : Nat} {m1 m2 m3 m4 m5 m6 m7 m9 m10 m11 m12 m14 m15 m18 m19 m20 m21 m22 : Int} {m8 m16 : Bool} {m0 : ByteArray} {m13 : Rows} {m17 : List Inn} (ha : Ee N [] = some [.bool true]) (hN : 2097152 < N) (hs : m0.size ≤ 1048576) : Be N [.str m0, .int m1, .int m2, .int m3, .int m4, .int m5, .int m6, .int m7, .bool m8, .int m9, .int m10, .int m11, .int m12, .rows m13, .int m14, .int m15, .bool m16, .rows (AQ m17), .int m18, .int m19, .int m20, .int m21, .int m22] = some [.bool true] := by
 show Bh (std (Ad N) N) (xOf _) = _
 have nn : (Uf (⟨⟨m0, m1, m2, m3, m4, m5, m6, m7, m8, m9, m10, m11, m12, m13⟩, m14, m15, m16, m17, m18, m19, m20, m21, m22⟩ : Mat)).rules.name.size ≤ 1048576 := Sy (⟨⟨m0, m1, m2, m3, m4, m5, m6, m7, m8, m9, m10, m11, m12, m13⟩, m14, m15, m16, m17, m18, m19, m20, m21, m22⟩ : Mat).rules hs
 have ok := Wz (m := (⟨⟨m0, m1, m2, m3, m4, m5, m6, m7, m8, m9, m10, m11, m12, m13⟩, m14, m15, m16, m17, m18, m19, m20, m21, m22⟩ : Mat))
 have hl := Nat.le_trans ok.len (show 5 ≤ 1000000 by omega)
 simp only [Bh, Fp, D8, Ff, GG, std, xOf, PXb, PXc, PXn, PXm, Nat.reduceAdd, Int.reduceBEq, ha, VU hN, PXk, OM ok.fit hN hl nn, Tx ok.fit hN hl nn]
 generalize Uf (⟨⟨m0, m1, m2, m3, m4, m5, m6, m7, m8, m9, m10, m11, m12, m13⟩, m14, m15, m16, m17, m18, m19, m20, m21, m22⟩ : Mat) = F at *
 unfold D3
 cases EY F <;> cases F.stage == 5 <;> cases F.win == 4 <;> try rfl
 cases h0 : (F.inns.length : Int) == 0 <;> try rfl
 simp only [PXi, PXb, Bool.not_true, Bool.or_false, Rh h0 hl, WX, lnx, beq_self_eq_true, Bool.or_true]
end Go.Px
end
