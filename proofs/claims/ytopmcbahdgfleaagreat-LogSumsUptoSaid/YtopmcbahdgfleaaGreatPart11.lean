/- Part 11. -/
import Derived.Test.YtopmcbahdgfleaaGreatPart07
import Derived.Test.YtopmcbahdgfleaaGreatPart10
set_option linter.unusedVariables false
set_option linter.unusedSimpArgs false
section
namespace Go.Px
def AY (xs : List Inn) : Rows := xs.map Inn.ls
def dI : Inn := ⟨0, 0, 0, 0, 0, 0, 0, 0, 0, 0, 0, 0, 0, 0, [], 0, [], [], false, [], false, 0, 0, 0, [], 0, 0, 0⟩
def inn (xs : List Inn) (i : Nat) : Inn := xs.getD i dI
structure Mat where
 rules : Rul
 stage : Int
 first : Int
 follow : Bool
 inns : List Inn
 pen1 : Int
 pen2 : Int
 win : Int
 wside : Int
 margin : Int
def Mat.ls (m : Mat) : List PV := [.str m.rules.name, .int m.rules.side, .int m.rules.innings, .int m.rules.overs, .int m.rules.balls, .int m.rules.quota, .int m.rules.wide, .int m.rules.noball, .bool m.rules.freehit, .int m.rules.newball, .int m.rules.followon, .int m.rules.reviews, .int m.rules.outside, .rows m.rules.power, .int m.stage, .int m.first, .bool m.follow, .rows (AY m.inns), .int m.pen1, .int m.pen2, .int m.win, .int m.wside, .int m.margin]
def Qk (x : Mat × Int) : List PV := [.str x.1.rules.name, .int x.1.rules.side, .int x.1.rules.innings, .int x.1.rules.overs, .int x.1.rules.balls, .int x.1.rules.quota, .int x.1.rules.wide, .int x.1.rules.noball, .bool x.1.rules.freehit, .int x.1.rules.newball, .int x.1.rules.followon, .int x.1.rules.reviews, .int x.1.rules.outside, .rows x.1.rules.power, .int x.1.stage, .int x.1.first, .bool x.1.follow, .rows (AY x.1.inns), .int x.1.pen1, .int x.1.pen2, .int x.1.win, .int x.1.wside, .int x.1.margin, .int x.2]
theorem WU (xs : List Inn) (i : Nat) : Au (AY xs) i = (match xs[i]? with | some s => s.ls | none => []) := by
 unfold Au AY
 rw [List.getD_eq_getElem?_getD, List.getElem?_map]
 cases xs[i]? <;> rfl
theorem ON (xs : List Inn) (i : Nat) : inn xs i = (match xs[i]? with | some s => s | none => dI) := by
 unfold inn
 rw [List.getD_eq_getElem?_getD]
 cases xs[i]? <;> rfl
theorem Uh (xs : List Inn) : (AY xs).length = xs.length := List.length_map _
theorem PXi : (∀ xs : List Inn, (AY xs).length = xs.length) ∧ (∀ (xs : List Inn) (i : Nat), pvI (AF (AY xs) i 0) = (inn xs i).side) ∧ (∀ (xs : List Inn) (i : Nat), pvI (AF (AY xs) i 1) = (inn xs i).target) ∧ (∀ (xs : List Inn) (i : Nat), pvI (AF (AY xs) i 2) = (inn xs i).overs) ∧ (∀ (xs : List Inn) (i : Nat), pvI (AF (AY xs) i 3) = (inn xs i).runs) ∧
    (∀ (xs : List Inn) (i : Nat), pvI (AF (AY xs) i 4) = (inn xs i).wickets) ∧ (∀ (xs : List Inn) (i : Nat), pvI (AF (AY xs) i 5) = (inn xs i).wides) ∧ (∀ (xs : List Inn) (i : Nat), pvI (AF (AY xs) i 6) = (inn xs i).noballs) ∧ (∀ (xs : List Inn) (i : Nat), pvI (AF (AY xs) i 7) = (inn xs i).byes) ∧ (∀ (xs : List Inn) (i : Nat), pvI (AF (AY xs) i 8) = (inn xs i).legbyes) ∧
    (∀ (xs : List Inn) (i : Nat), pvI (AF (AY xs) i 9) = (inn xs i).pens) ∧ (∀ (xs : List Inn) (i : Nat), pvI (AF (AY xs) i 10) = (inn xs i).complete) ∧ (∀ (xs : List Inn) (i : Nat), pvI (AF (AY xs) i 11) = (inn xs i).inover) ∧ (∀ (xs : List Inn) (i : Nat), pvI (AF (AY xs) i 12) = (inn xs i).striker) ∧ (∀ (xs : List Inn) (i : Nat), pvI (AF (AY xs) i 13) = (inn xs i).other) ∧
    (∀ (xs : List Inn) (i : Nat), pvL (AF (AY xs) i 14) = (inn xs i).batters) ∧ (∀ (xs : List Inn) (i : Nat), pvI (AF (AY xs) i 15) = (inn xs i).bowler) ∧ (∀ (xs : List Inn) (i : Nat), pvL (AF (AY xs) i 16) = (inn xs i).bowlers) ∧ (∀ (xs : List Inn) (i : Nat), pvL (AF (AY xs) i 17) = (inn xs i).before) ∧ (∀ (xs : List Inn) (i : Nat), pvB (AF (AY xs) i 18) = (inn xs i).fresh) ∧
    (∀ (xs : List Inn) (i : Nat), pvL (AF (AY xs) i 19) = (inn xs i).bowled) ∧ (∀ (xs : List Inn) (i : Nat), pvB (AF (AY xs) i 20) = (inn xs i).freehit) ∧ (∀ (xs : List Inn) (i : Nat), pvI (AF (AY xs) i 21) = (inn xs i).ballage) ∧ (∀ (xs : List Inn) (i : Nat), pvI (AF (AY xs) i 22) = (inn xs i).keeper) ∧ (∀ (xs : List Inn) (i : Nat), pvI (AF (AY xs) i 23) = (inn xs i).outside) ∧
    (∀ (xs : List Inn) (i : Nat), pvL (AF (AY xs) i 24) = (inn xs i).subs) ∧ (∀ (xs : List Inn) (i : Nat), pvI (AF (AY xs) i 25) = (inn xs i).rev1) ∧ (∀ (xs : List Inn) (i : Nat), pvI (AF (AY xs) i 26) = (inn xs i).rev2) ∧ (∀ (xs : List Inn) (i : Nat), pvI (AF (AY xs) i 27) = (inn xs i).ending) := by
  refine ⟨Uh, ?_, ?_, ?_, ?_, ?_, ?_, ?_, ?_, ?_, ?_, ?_, ?_, ?_, ?_, ?_, ?_, ?_, ?_, ?_, ?_, ?_, ?_, ?_, ?_, ?_, ?_, ?_, ?_⟩
  all_goals (intro xs i; rw [ON]; unfold AF; rw [WU]; cases xs[i]? <;> rfl)
theorem Mat.eta (m : Mat) : Mat.mk m.rules m.stage m.first m.follow m.inns m.pen1 m.pen2 m.win m.wside m.margin = m := rfl
theorem PXk : (∀ m : Mat, m.ls = [.str m.rules.name, .int m.rules.side, .int m.rules.innings, .int m.rules.overs, .int m.rules.balls, .int m.rules.quota, .int m.rules.wide, .int m.rules.noball, .bool m.rules.freehit, .int m.rules.newball, .int m.rules.followon, .int m.rules.reviews, .int m.rules.outside, .rows m.rules.power, .int m.stage, .int m.first, .bool m.follow, .rows (AY m.inns), .int m.pen1, .int m.pen2, .int m.win, .int m.wside, .int m.margin]) ∧
    (∀ x : Mat × Int, Qk x = [.str x.1.rules.name, .int x.1.rules.side, .int x.1.rules.innings, .int x.1.rules.overs, .int x.1.rules.balls, .int x.1.rules.quota, .int x.1.rules.wide, .int x.1.rules.noball, .bool x.1.rules.freehit, .int x.1.rules.newball, .int x.1.rules.followon, .int x.1.rules.reviews, .int x.1.rules.outside, .rows x.1.rules.power, .int x.1.stage, .int x.1.first, .bool x.1.follow, .rows (AY x.1.inns), .int x.1.pen1, .int x.1.pen2, .int x.1.win, .int x.1.wside, .int x.1.margin, .int x.2]) ∧
    (∀ m : Mat, Mat.mk m.rules m.stage m.first m.follow m.inns m.pen1 m.pen2 m.win m.wside m.margin = m) := ⟨fun _ => rfl, fun _ => rfl, fun _ => rfl⟩
theorem Zk : ∀ (ps r pre : List PV), r.length = ps.length → Bt (pre ++ r) pre.length ps = pre ++ ps
 | [], r, pre, h => by
  have : r = [] := List.eq_nil_of_length_eq_zero h
  subst this
  rfl
 | p :: ps, [], pre, h => by cases h
 | p :: ps, a :: r, pre, h => by
  have ih := Zk ps r (pre ++ [p]) (by simpa using h)
  simp only [List.length_append, List.length_cons, List.length_nil, List.append_assoc, List.cons_append, List.nil_append] at ih
  unfold Bt
  rw [List.set_append_right _ _ (Nat.le_refl _), Nat.sub_self]
  exact ih
theorem fL (a s : Inn) : Bt a.ls 0 s.ls = s.ls := Zk s.ls a.ls [] rfl
theorem eW (a : Inn) (e : Int) : Bt a.ls 27 [.int e] = Inn.ls { a with ending := e } := by
 show a.ls.set 27 (.int e) = _
 rfl
theorem dz {xs : List Inn} {i : Nat} (h : i < xs.length) (s : Inn) : (AY xs).set i (Bt (Au (AY xs) i) 0 s.ls) = AY (xs.set i s) := by
 have e : Au (AY xs) i = (xs[i]).ls := by rw [WU, List.getElem?_eq_getElem h]
 rw [e, fL]
 exact List.map_set.symm
theorem eY {xs : List Inn} {i : Nat} (h : i < xs.length) (e : Int) : (AY xs).set i (Bt (Au (AY xs) i) 27 [.int e]) = AY (xs.set i { inn xs i with ending := e }) := by
 have e1 : Au (AY xs) i = (inn xs i).ls := by rw [WU, ON, List.getElem?_eq_getElem h]
 rw [e1, eW]
 exact List.map_set.symm
theorem eK (xs : List Inn) (s : Inn) : AY xs ++ [s.ls] = AY (xs ++ [s]) := by
 show List.map Inn.ls xs ++ List.map Inn.ls [s] = List.map Inn.ls (xs ++ [s])
 exact List.map_append.symm
theorem eX (xs : List Inn) (i : Nat) (s : Inn) : (AY xs).set i (Bt (Au (AY xs) i) 0 s.ls) = AY (xs.set i s) := by
 by_cases h : i < xs.length
 ·exact dz h s
 ·rw [List.set_eq_of_length_le (by rw [Uh]; omega), List.set_eq_of_length_le (by omega)]
theorem Zb (xs : List Inn) (i : Nat) (e : Int) : (AY xs).set i (Bt (Au (AY xs) i) 27 [.int e]) = AY (xs.set i { inn xs i with ending := e }) := by
 by_cases h : i < xs.length
 ·exact eY h e
 ·rw [List.set_eq_of_length_le (by rw [Uh]; omega), List.set_eq_of_length_le (by omega)]
theorem PXr : (∀ (xs : List Inn) (x0 x1 x2 x3 x4 x5 x6 x7 x8 x9 x10 x11 x12 x13 x15 x21 x22 x23 x25 x26 x27 : Int) (x18 x20 : Bool) (x14 x16 x17 x19 x24 : Rows), AY xs ++ [([.int x0, .int x1, .int x2, .int x3, .int x4, .int x5, .int x6, .int x7, .int x8, .int x9, .int x10, .int x11, .int x12, .int x13, .rows x14, .int x15, .rows x16, .rows x17, .bool x18, .rows x19, .bool x20, .int x21, .int x22, .int x23, .rows x24, .int x25, .int x26, .int x27] : List PV)] = AY (xs ++ [⟨x0, x1, x2, x3, x4, x5, x6, x7, x8, x9, x10, x11, x12, x13, x14, x15, x16, x17, x18, x19, x20, x21, x22, x23, x24, x25, x26, x27⟩])) ∧ (∀ (xs : List Inn) (i : Nat) (x0 x1 x2 x3 x4 x5 x6 x7 x8 x9 x10 x11 x12 x13 x15 x21 x22 x23 x25 x26 x27 : Int) (x18 x20 : Bool) (x14 x16 x17 x19 x24 : Rows), (AY xs).set i (Bt (Au (AY xs) i) 0 [.int x0, .int x1, .int x2, .int x3, .int x4, .int x5, .int x6, .int x7, .int x8, .int x9, .int x10, .int x11, .int x12, .int x13, .rows x14, .int x15, .rows x16, .rows x17, .bool x18, .rows x19, .bool x20, .int x21, .int x22, .int x23, .rows x24, .int x25, .int x26, .int x27]) = AY (xs.set i ⟨x0, x1, x2, x3, x4, x5, x6, x7, x8, x9, x10, x11, x12, x13, x14, x15, x16, x17, x18, x19, x20, x21, x22, x23, x24, x25, x26, x27⟩)) ∧
    (∀ (xs : List Inn) (i : Nat) (e : Int), (AY xs).set i (Bt (Au (AY xs) i) 27 [.int e]) = AY (xs.set i { inn xs i with ending := e })) :=
  ⟨fun xs x0 x1 x2 x3 x4 x5 x6 x7 x8 x9 x10 x11 x12 x13 x15 x21 x22 x23 x25 x26 x27 x18 x20 x14 x16 x17 x19 x24 => eK xs ⟨x0, x1, x2, x3, x4, x5, x6, x7, x8, x9, x10, x11, x12, x13, x14, x15, x16, x17, x18, x19, x20, x21, x22, x23, x24, x25, x26, x27⟩, fun xs i x0 x1 x2 x3 x4 x5 x6 x7 x8 x9 x10 x11 x12 x13 x15 x21 x22 x23 x25 x26 x27 x18 x20 x14 x16 x17 x19 x24 => eX xs i ⟨x0, x1, x2, x3, x4, x5, x6, x7, x8, x9, x10, x11, x12, x13, x14, x15, x16, x17, x18, x19, x20, x21, x22, x23, x24, x25, x26, x27⟩, Zb⟩
end Go.Px
end
section
namespace Go.Px
set_option maxRecDepth 100000
def C4 (n : Int) : Int := IntKind.i64.wrap (3 - n)
theorem GW {N : Nat} {n : Int}  : A4 N [.int n] = some [.int (C4 n)] := by
 show I2 (std (Oz N) N) (xOf _) = _
 simp only [I2, std, xOf, PXb, PXc, PXn, PXm, Nat.reduceAdd, Int.reduceBEq, C4]
def Cj (m : Mat) (i : Int) : Int := cond (cond (m.follow && iLe 2 i) (i == 2) (i.tmod 2 == 1)) (C4 m.first) m.first
theorem MW {N : Nat} {m1 m2 m3 m4 m5 m6 m7 m9 m10 m11 m12 m14 m15 m18 m19 m20 m21 m22 : Int} {m8 m16 : Bool} {m0 : ByteArray} {m13 : Rows} {m17 : List Inn} {i : Int}  : CX N [.str m0, .int m1, .int m2, .int m3, .int m4, .int m5, .int m6, .int m7, .bool m8, .int m9, .int m10, .int m11, .int m12, .rows m13, .int m14, .int m15, .bool m16, .rows (AY m17), .int m18, .int m19, .int m20, .int m21, .int m22, .int i] = some [.int (Cj (⟨⟨m0, m1, m2, m3, m4, m5, m6, m7, m8, m9, m10, m11, m12, m13⟩, m14, m15, m16, m17, m18, m19, m20, m21, m22⟩ : Mat) i)] := by
 show I6 (std (KZ N) N) (xOf _) = _
 generalize hres : (some [.int (Cj (⟨⟨m0, m1, m2, m3, m4, m5, m6, m7, m8, m9, m10, m11, m12, m13⟩, m14, m15, m16, m17, m18, m19, m20, m21, m22⟩ : Mat) i)] : Option (List PV)) = RR
 simp only [I6, NM, std, xOf, PXb, PXc, PXn, PXm, Nat.reduceAdd, Int.reduceBEq, GW]
 subst hres; simp only [Cj]
def MV (xs : List Inn) (side : Int) : Nat → Int
 | 0 => 0
 | i + 1 => cond ((inn xs i).side == side) (IntKind.i64.wrap (MV xs side i + (inn xs i).runs)) (MV xs side i)
def CJ (m : Mat) (side : Int) : Int := MV m.inns side m.inns.length
theorem MQ {N : Nat} {m1 m2 m3 m4 m5 m6 m7 m9 m10 m11 m12 m14 m15 m18 m19 m20 m21 m22 : Int} {m8 m16 : Bool} {m0 : ByteArray} {m13 : Rows} {m17 : List Inn} {n : Int} (hN : 2097152 < N) (hl : m17.length ≤ 1048576) : BV N [.str m0, .int m1, .int m2, .int m3, .int m4, .int m5, .int m6, .int m7, .bool m8, .int m9, .int m10, .int m11, .int m12, .rows m13, .int m14, .int m15, .bool m16, .rows (AY m17), .int m18, .int m19, .int m20, .int m21, .int m22, .int n] = some [.int (CJ (⟨⟨m0, m1, m2, m3, m4, m5, m6, m7, m8, m9, m10, m11, m12, m13⟩, m14, m15, m16, m17, m18, m19, m20, m21, m22⟩ : Mat) n)] := by
 show It (std (PF N) N) (xOf _) = _
 generalize hres : (some [.int (CJ (⟨⟨m0, m1, m2, m3, m4, m5, m6, m7, m8, m9, m10, m11, m12, m13⟩, m14, m15, m16, m17, m18, m19, m20, m21, m22⟩ : Mat) n)] : Option (List PV)) = RR
 simp only [It, std, xOf, PXb, PXi]
 subst hres; simp only [CJ]
 refine Ae (OM (len := m17.length) (fun i => [.int (MV m17 n i), .int (i : Int)]) [.int (MV m17 n m17.length)] ?_ ?_ N (by omega)) rfl
 ·intro self
  simp only [PXb, PXc, PXn, AK, Bp]
 ·intro i self hi
  simp only [PXb, PXc, AK, As (show i ≤ 1099511627776 by omega), BL hi, Ap hi, PXi, MV]
  cases (inn m17 i).side == n <;> rfl
def FP (m : Mat) (side : Int) : Int :=
 cond (iLt (IntKind.i64.wrap ((m.inns.length : Int) + 1)) (IntKind.i64.wrap (2 * m.rules.innings))) 0 (IntKind.i64.wrap (IntKind.i64.wrap (CJ m (C4 side) - CJ m side) + 1))
theorem Po {N : Nat} {m1 m2 m3 m4 m5 m6 m7 m9 m10 m11 m12 m14 m15 m18 m19 m20 m21 m22 : Int} {m8 m16 : Bool} {m0 : ByteArray} {m13 : Rows} {m17 : List Inn} {n : Int} (hN : 2097152 < N) (hl : m17.length ≤ 1048576) : FQ N [.str m0, .int m1, .int m2, .int m3, .int m4, .int m5, .int m6, .int m7, .bool m8, .int m9, .int m10, .int m11, .int m12, .rows m13, .int m14, .int m15, .bool m16, .rows (AY m17), .int m18, .int m19, .int m20, .int m21, .int m22, .int n] = some [.int (FP (⟨⟨m0, m1, m2, m3, m4, m5, m6, m7, m8, m9, m10, m11, m12, m13⟩, m14, m15, m16, m17, m18, m19, m20, m21, m22⟩ : Mat) n)] := by
 show Hp (std (F1 N) N) (xOf _) = _
 generalize hres : (some [.int (FP (⟨⟨m0, m1, m2, m3, m4, m5, m6, m7, m8, m9, m10, m11, m12, m13⟩, m14, m15, m16, m17, m18, m19, m20, m21, m22⟩ : Mat) n)] : Option (List PV)) = RR
 simp only [Hp, Mb, MY, std, xOf, PXb, PXc, PXn, PXm, Nat.reduceAdd, Int.reduceBEq, PXi, GW, MQ hN hl]
 subst hres; simp only [FP]
def U5 (stage : Int) (xs : List Inn) (i : Nat) : Bool := !(((inn xs i).ending == 0) == (stage == 3 && ((i : Int) == IntKind.i64.wrap ((xs.length : Int) - 1))))
def R1 (m : Mat) : Bool := !BM (U5 m.stage m.inns) m.inns.length 0 && (!(m.stage == 3) || iLt 0 (m.inns.length : Int))
theorem XB {N : Nat} {m1 m2 m3 m4 m5 m6 m7 m9 m10 m11 m12 m14 m15 m18 m19 m20 m21 m22 : Int} {m8 m16 : Bool} {m0 : ByteArray} {m13 : Rows} {m17 : List Inn} (hN : 2097152 < N) (hl : m17.length ≤ 1048576) : GY N [.str m0, .int m1, .int m2, .int m3, .int m4, .int m5, .int m6, .int m7, .bool m8, .int m9, .int m10, .int m11, .int m12, .rows m13, .int m14, .int m15, .bool m16, .rows (AY m17), .int m18, .int m19, .int m20, .int m21, .int m22] = some [.bool (R1 (⟨⟨m0, m1, m2, m3, m4, m5, m6, m7, m8, m9, m10, m11, m12, m13⟩, m14, m15, m16, m17, m18, m19, m20, m21, m22⟩ : Mat))] := by
 show I1 (std (PH N) N) (xOf _) = _
 generalize hres : (some [.bool (R1 (⟨⟨m0, m1, m2, m3, m4, m5, m6, m7, m8, m9, m10, m11, m12, m13⟩, m14, m15, m16, m17, m18, m19, m20, m21, m22⟩ : Mat))] : Option (List PV)) = RR
 simp only [I1, std, xOf, PXb, PXi]
 subst hres; simp only [R1]
 refine Ae (JM (len := m17.length) (U5 m14 m17) [.bool false] ?_ ?_ N (by omega)) ?_
 ·intro self
  simp only [PXb, PXc, PXn, AK, Bp]
 ·intro i self hi
  simp only [PXb, PXc, AK, As (show i ≤ 1099511627776 by omega), BL hi, Ap hi, PXi, U5]
 ·cases BM (U5 m14 m17) m17.length 0 with
  | true => rfl
  | false => simp only [PXb, PXc, PXn, PXm, Nat.reduceAdd, Int.reduceBEq]
end Go.Px
end
section
namespace Go.Px
set_option maxRecDepth 100000
def II (xs : List Inn) : Prop := ∀ i, i < xs.length → (inn xs i).Fit
theorem RA {N : Nat} {r1 r2 r3 r4 r5 r6 r7 r9 r10 r11 r12 : Int} {r8 : Bool} {r0 : ByteArray} {r13 : Rows} (hl : r13.length ≤ 1048576) : CV N [.str r0, .int r1, .int r2, .int r3, .int r4, .int r5, .int r6, .int r7, .bool r8, .int r9, .int r10, .int r11, .int r12, .rows r13] = some [.str r0, .int r1, .int r2, .int r3, .int r4, .int r5, .int r6, .int r7, .bool r8, .int r9, .int r10, .int r11, .int r12, .rows r13] := by
 show Iw (std (KQ N) N) (xOf _) = _
 simp only [Iw, JQ, std, xOf, PXb, PXc, PXn, PXm, Nat.reduceAdd, Int.reduceBEq, CO, BF hl (show 24 ≤ 4096 by omega)]
theorem XS {xs : List Inn} {i : Nat} (h : i < xs.length) : xs.take i ++ [inn xs i] = xs.take (i + 1) := by
 rw [List.take_add_one, ON, List.getElem?_eq_getElem h]
 rfl
theorem XH {N : Nat} {m1 m2 m3 m4 m5 m6 m7 m9 m10 m11 m12 m14 m15 m18 m19 m20 m21 m22 : Int} {m8 m16 : Bool} {m0 : ByteArray} {m13 : Rows} {m17 : List Inn} (hf : II m17) (hN : 2097152 < N) (hl : m17.length ≤ 1000000) (h13 : m13.length ≤ 1048576) : GQ N [.str m0, .int m1, .int m2, .int m3, .int m4, .int m5, .int m6, .int m7, .bool m8, .int m9, .int m10, .int m11, .int m12, .rows m13, .int m14, .int m15, .bool m16, .rows (AY m17), .int m18, .int m19, .int m20, .int m21, .int m22] = some [.str m0, .int m1, .int m2, .int m3, .int m4, .int m5, .int m6, .int m7, .bool m8, .int m9, .int m10, .int m11, .int m12, .rows m13, .int m14, .int m15, .bool m16, .rows (AY m17), .int m18, .int m19, .int m20, .int m21, .int m22] := by
 show Il (std (G9 N) N) (xOf _) = _
 simp only [Il, Fv, NL, std, xOf, PXb, RA h13, PXi]
 refine Ae (OM (len := m17.length) (fun i => [.rows (AY (m17.take i)), .int (i : Int)]) [.rows (AY m17)] ?_ ?_ N (by omega)) rfl
 ·intro self
  simp only [PXb, PXc, PXn, AK, Bp, List.take_length]
 ·intro i self hi
  have h2 : (m17.take (i + 1)).length ≤ 1048576 := by rw [List.length_take]; omega
  have h3 : iSm ((m17.take (i + 1)).length : Int) 304 = true := Is (by omega) (by omega)
  simp only [PXb, PXc, AK, As (show i ≤ 1099511627776 by omega), BL hi, Ap hi, PXi, Fv, Bj (hf i hi), PXr, Inn.eta, h3, XS hi, Nat.reduceAdd]
  rfl
def fR : Rul := ⟨⟨#[]⟩, 0, 0, 0, 0, 0, 0, 0, false, 0, 0, 0, 0, []⟩
def Xd : Mat := ⟨fR, 0, 0, false, [], 0, 0, 0, 0, 0⟩
def De (r : Rul) : Mat × Int := cond (!(Bh r == 0)) (Xd, Bh r) (⟨r, 1, 0, false, [], 0, 0, 0, 0, 0⟩, 0)
theorem ZL {N : Nat} {r1 r2 r3 r4 r5 r6 r7 r9 r10 r11 r12 : Int} {r8 : Bool} {r0 : ByteArray} {r13 : Rows} (hN : 2097152 < N) (hs : r0.size ≤ 1048576) (h13 : r13.length ≤ 1048576) : Li N [.str r0, .int r1, .int r2, .int r3, .int r4, .int r5, .int r6, .int r7, .bool r8, .int r9, .int r10, .int r11, .int r12, .rows r13] = some (Qk (De (⟨r0, r1, r2, r3, r4, r5, r6, r7, r8, r9, r10, r11, r12, r13⟩ : Rul))) := by
 show Lj (std (Iz N) N) (xOf _) = _
 generalize hres : (some (Qk (De (⟨r0, r1, r2, r3, r4, r5, r6, r7, r8, r9, r10, r11, r12, r13⟩ : Rul))) : Option (List PV)) = RR
 simp only [Lj, OW, Ob, std, xOf, PXb, PXc, PXn, PXm, Nat.reduceAdd, Int.reduceBEq, DI hN hs, RA h13]
 subst hres; simp only [De]
 cases Bh (⟨r0, r1, r2, r3, r4, r5, r6, r7, r8, r9, r10, r11, r12, r13⟩ : Rul) == 0 <;> rfl
def Y0 (m : Mat) : Bool := (iLt m.pen1 0 || iLt 1000000 m.pen1) || (iLt m.pen2 0 || iLt 1000000 m.pen2)
def SR (m : Mat) (i : Nat) : Bool := !GS m.rules (inn m.inns i) || !((inn m.inns i).side == Cj m (i : Int))
def Z1 (m : Mat) : Bool :=
  let n : Int := m.inns.length
  let most := IntKind.i64.wrap (2 * m.rules.innings)
  Bh m.rules == 0 && (!(iLt m.stage 1) && (!(iLt 5 m.stage) && (!Y0 m && (!(iLt m.first 0 || iLt 2 m.first || iLt most n) && (!(m.first == 0 && (iLt 0 n || (!(m.stage == 1) && !(m.stage == 5)))) &&
    (!(m.stage == 1 && !(m.first == 0)) && (!(m.stage == 2 && n == most) && (!(m.stage == 4 && (!(m.rules.innings == 2) || !(n == 2))) && !(m.follow && (!(m.rules.innings == 2) || iLt n 2))))))))))
def GR (m : Mat) : Bool := Z1 m && (!BM (SR m) m.inns.length 0 && R1 m)
set_option maxHeartbeats 4000000 in
theorem Rg {N : Nat} {m1 m2 m3 m4 m5 m6 m7 m9 m10 m11 m12 m14 m15 m18 m19 m20 m21 m22 : Int} {m8 m16 : Bool} {m0 : ByteArray} {m13 : Rows} {m17 : List Inn} (hf : II m17) (hN : 2097152 < N) (hl : m17.length ≤ 1000000) (hs : m0.size ≤ 1048576) : CZ N [.str m0, .int m1, .int m2, .int m3, .int m4, .int m5, .int m6, .int m7, .bool m8, .int m9, .int m10, .int m11, .int m12, .rows m13, .int m14, .int m15, .bool m16, .rows (AY m17), .int m18, .int m19, .int m20, .int m21, .int m22] = some [.bool (GR (⟨⟨m0, m1, m2, m3, m4, m5, m6, m7, m8, m9, m10, m11, m12, m13⟩, m14, m15, m16, m17, m18, m19, m20, m21, m22⟩ : Mat))] := by
 show I0 (std (DE N) N) (xOf _) = _
 generalize hres : (some [.bool (GR (⟨⟨m0, m1, m2, m3, m4, m5, m6, m7, m8, m9, m10, m11, m12, m13⟩, m14, m15, m16, m17, m18, m19, m20, m21, m22⟩ : Mat))] : Option (List PV)) = RR
 simp only [I0, Fq, NA, G1, HC, std, xOf, PXb, DI hN hs, PXi]
 subst hres; simp only [GR, Z1]
 cases hc : Bh (⟨⟨m0, m1, m2, m3, m4, m5, m6, m7, m8, m9, m10, m11, m12, m13⟩, m14, m15, m16, m17, m18, m19, m20, m21, m22⟩ : Mat).rules == 0 <;> (try rfl)
 cases h1 : iLt m14 1 <;> (try rfl)
 cases h5 : iLt 5 m14 <;> (try rfl)
 simp only [PXb]
 refine Ae (JM (len := 2) (fun i => iLt (cond ((i : Int) == 1) m19 m18) 0 || iLt 1000000 (cond ((i : Int) == 1) m19 m18)) [.bool false] ?_ ?_ N (by omega)) ?_
 ·intro self
  rfl
 ·intro i self hi
  simp only [PXb, As (show i ≤ 1099511627776 by omega), show iLt (i : Int) 2 = true from BL (len := 2) hi, show iIn (i : Int) 2 = true from Ap (len := 2) hi]
 ·have hp : BM (fun i => iLt (cond ((i : Int) == 1) m19 m18) 0 || iLt 1000000 (cond ((i : Int) == 1) m19 m18)) 2 0 = Y0 (⟨⟨m0, m1, m2, m3, m4, m5, m6, m7, m8, m9, m10, m11, m12, m13⟩, m14, m15, m16, m17, m18, m19, m20, m21, m22⟩ : Mat) := by
   simp only [Bf, HF, Bool.or_false]
   rfl
  rw [hp]
  cases Y0 (⟨⟨m0, m1, m2, m3, m4, m5, m6, m7, m8, m9, m10, m11, m12, m13⟩, m14, m15, m16, m17, m18, m19, m20, m21, m22⟩ : Mat)
  case true => rfl
  simp only [PXb, Id, Int.reduceBEq]
  cases iLt m15 0 <;> try rfl
  cases iLt 2 m15 <;> try rfl
  cases iLt (IntKind.i64.wrap (2 * m2)) (m17.length : Int) <;> try rfl
  cases (m15 == 0 && (iLt 0 (m17.length : Int) || (!(m14 == 1) && !(m14 == 5)))) <;> try rfl
  cases (m14 == 1 && !(m15 == 0)) <;> try rfl
  cases (m14 == 2 && (m17.length : Int) == IntKind.i64.wrap (2 * m2)) <;> try rfl
  cases (m14 == 4 && (!(m2 == 2) || !((m17.length : Int) == 2))) <;> try rfl
  cases (m16 && (!(m2 == 2) || iLt (m17.length : Int) 2)) <;> try rfl
  simp only [PXb]
  refine Ae (JM (len := m17.length) (SR (⟨⟨m0, m1, m2, m3, m4, m5, m6, m7, m8, m9, m10, m11, m12, m13⟩, m14, m15, m16, m17, m18, m19, m20, m21, m22⟩ : Mat)) [.bool false] ?_ ?_ N (by omega)) ?_
  ·intro self
   simp only [PXb, PXc, PXn, AK, Bp]
  ·intro i self hi
   simp only [PXb, PXc, PXn, PXm, Nat.reduceAdd, Int.reduceBEq, As (show i ≤ 1099511627776 by omega), BL hi, Ap hi, PXi, Fq, G1, PC (hf i hi) hN hs, MW, SR]
   cases GS (⟨⟨m0, m1, m2, m3, m4, m5, m6, m7, m8, m9, m10, m11, m12, m13⟩, m14, m15, m16, m17, m18, m19, m20, m21, m22⟩ : Mat).rules (inn m17 i) <;> first | rfl | simp only [PXb, PXc, PXn, PXm, Nat.reduceAdd, Int.reduceBEq]
  ·cases BM (SR (⟨⟨m0, m1, m2, m3, m4, m5, m6, m7, m8, m9, m10, m11, m12, m13⟩, m14, m15, m16, m17, m18, m19, m20, m21, m22⟩ : Mat)) m17.length 0
   case true => rfl
   simp only [PXb, PXc, PXn, PXm, Nat.reduceAdd, Int.reduceBEq, HC, XB hN (show m17.length ≤ 1048576 by omega)]
end Go.Px
end
section
namespace Go.Px
set_option maxRecDepth 100000
def lnx (xs : List Inn) : Nat := (IntKind.i64.wrap ((xs.length : Int) - 1)).toNat
def A7 (m : Mat) : Inn := inn m.inns (lnx m.inns)
theorem P0 {n : Nat} (h : ((n : Int) == 0) = false) (hl : n ≤ 1000000) : iIn (IntKind.i64.wrap ((n : Int) - 1)) (n : Int) = true := by
 rw [beq_eq_false_iff_ne] at h
 rw [DP (by omega) (by omega)]
 simp only [iIn, decide_eq_true_eq]; omega
theorem Pp {xs : List Inn} (h : ((xs.length : Int) == 0) = false) (hl : xs.length ≤ 1000000) : lnx xs < xs.length := by
 rw [beq_eq_false_iff_ne] at h
 unfold lnx
 rw [DP (by omega) (by omega)]
 omega
def Uy (r : Rul) : Int := cond (r.overs == 0) 5 6
theorem HZ {N : Nat} {r1 r2 r3 r4 r5 r6 r7 r9 r10 r11 r12 : Int} {r8 : Bool} {r0 : ByteArray} {r13 : Rows}  : BP N [.str r0, .int r1, .int r2, .int r3, .int r4, .int r5, .int r6, .int r7, .bool r8, .int r9, .int r10, .int r11, .int r12, .rows r13] = some [.int (Uy (⟨r0, r1, r2, r3, r4, r5, r6, r7, r8, r9, r10, r11, r12, r13⟩ : Rul))] := by
 show Ej (std (Jx N) N) (xOf _) = _
 simp only [Ej, std, xOf, PXb, PXc, PXn, PXm, Nat.reduceAdd, Int.reduceBEq, Uy]
def di (x : Int × Int × Int) : List PV := [.int x.1, .int x.2.1, .int x.2.2]
def Q2 (m : Mat) : Int × Int × Int :=
  let n : Int := m.inns.length
  let most := IntKind.i64.wrap (2 * m.rules.innings)
  let x := A7 m
  cond (!GR m || n == 0) (0, 0, 0) (cond (x.ending == 5) (Uy m.rules, 0, 0) (cond (x.ending == 0) (0, 0, 0)
    (cond (n == most && iLe x.target x.runs) (2, x.side, IntKind.i64.wrap (IntKind.i64.wrap (m.rules.side - 1) - x.wickets)) (cond (n == most && x.runs == IntKind.i64.wrap (x.target - 1)) (4, 0, 0)
      (cond (n == most) (1, C4 x.side, IntKind.i64.wrap (IntKind.i64.wrap (x.target - 1) - x.runs))
        (cond (n == 3 && iLt (CJ m x.side) (CJ m (C4 x.side))) (3, C4 x.side, IntKind.i64.wrap (CJ m (C4 x.side) - CJ m x.side)) (0, 0, 0)))))))
set_option maxHeartbeats 4000000 in
theorem VF {N : Nat} {m1 m2 m3 m4 m5 m6 m7 m9 m10 m11 m12 m14 m15 m18 m19 m20 m21 m22 : Int} {m8 m16 : Bool} {m0 : ByteArray} {m13 : Rows} {m17 : List Inn} (hf : II m17) (hN : 2097152 < N) (hl : m17.length ≤ 1000000) (hs : m0.size ≤ 1048576) : Eg N [.str m0, .int m1, .int m2, .int m3, .int m4, .int m5, .int m6, .int m7, .bool m8, .int m9, .int m10, .int m11, .int m12, .rows m13, .int m14, .int m15, .bool m16, .rows (AY m17), .int m18, .int m19, .int m20, .int m21, .int m22] = some (di (Q2 (⟨⟨m0, m1, m2, m3, m4, m5, m6, m7, m8, m9, m10, m11, m12, m13⟩, m14, m15, m16, m17, m18, m19, m20, m21, m22⟩ : Mat))) := by
 show G5 (std (CT N) N) (xOf _) = _
 generalize hres : (some (di (Q2 (⟨⟨m0, m1, m2, m3, m4, m5, m6, m7, m8, m9, m10, m11, m12, m13⟩, m14, m15, m16, m17, m18, m19, m20, m21, m22⟩ : Mat))) : Option (List PV)) = RR
 simp only [G5, L7, L0, MC, JG, std, xOf, PXb, PXi, Rg hf hN hl hs, GW, HZ, MQ hN (show m17.length ≤ 1048576 by omega)]
 subst hres; simp only [Q2, A7, lnx]
 cases hv : GR (⟨⟨m0, m1, m2, m3, m4, m5, m6, m7, m8, m9, m10, m11, m12, m13⟩, m14, m15, m16, m17, m18, m19, m20, m21, m22⟩ : Mat)
 case false => rfl
 cases h0 : (m17.length : Int) == 0
 case true => rfl
 simp only [PXb, P0 h0 hl]
 generalize inn m17 (IntKind.i64.wrap ((m17.length : Int) - 1)).toNat = x
 cases x.ending == 5
 case true => rfl
 cases x.ending == 0
 case true => rfl
 cases (m17.length : Int) == IntKind.i64.wrap (2 * m2) <;> cases iLe x.target x.runs <;> cases x.runs == IntKind.i64.wrap (x.target - 1) <;> try rfl
 all_goals (cases (m17.length : Int) == 3 <;> try rfl)
 all_goals (simp only [PXb]; cases iLt (CJ (⟨⟨m0, m1, m2, m3, m4, m5, m6, m7, m8, m9, m10, m11, m12, m13⟩, m14, m15, m16, m17, m18, m19, m20, m21, m22⟩ : Mat) x.side) (CJ (⟨⟨m0, m1, m2, m3, m4, m5, m6, m7, m8, m9, m10, m11, m12, m13⟩, m14, m15, m16, m17, m18, m19, m20, m21, m22⟩ : Mat) (C4 x.side)) <;> rfl)
theorem Y4 : ∀ (n k : Nat) (f : Nat → Nat), (∀ i, i < k → 1 ≤ f i ∧ f i ≤ n) → (∀ i j, i < j → j < k → f i ≠ f j) → k ≤ n
 | 0, k, f, h, _ => by
  rcases Nat.eq_zero_or_pos k with e | e
  ·omega
  ·have := h 0 e; omega
 | n + 1, 0, f, _, _ => by omega
 | n + 1, k + 1, f, h, hi => by
  by_cases he : ∃ j, j < k + 1 ∧ f j = n + 1
  ·obtain ⟨j, hj, hfj⟩ := he
   have := Y4 n k (fun i => if i = j then f k else f i) (fun i hik => by
    show 1 ≤ (if i = j then f k else f i) ∧ (if i = j then f k else f i) ≤ n
    by_cases e : i = j
    ·rw [if_pos e]
     have h1 := h k (by omega)
     have : f k ≠ f j := fun e2 => hi j k (by omega) (by omega) e2.symm
     omega
    ·rw [if_neg e]
     have h1 := h i (by omega)
     have : f i ≠ f j := by
      rcases Nat.lt_or_gt_of_ne e with e2 | e2
      ·exact hi i j e2 hj
      ·exact fun e3 => hi j i e2 (by omega) e3.symm
     omega) (fun a b hab hb => by
    show (if a = j then f k else f a) ≠ (if b = j then f k else f b)
    by_cases e1 : a = j
    ·have e2 : b ≠ j := by omega
     rw [if_pos e1, if_neg e2]
     exact fun e3 => hi b k hb (by omega) e3.symm
    ·rw [if_neg e1]
     by_cases e2 : b = j
     ·rw [if_pos e2]; exact hi a k (by omega) (by omega)
     ·rw [if_neg e2]; exact hi a b hab (by omega))
   omega
  ·have := Y4 n (k + 1) f (fun i hik => by
    have h1 := h i hik
    have : f i ≠ n + 1 := fun e => he ⟨i, hik, e⟩
    omega) hi
   omega
theorem Yw {L : Rows} {n : Int} (h : IV L n = true) (hn : 0 ≤ n) : (L.length : Int) ≤ n := by
 unfold IV at h
 rw [Bool.not_eq_true', H0] at h
 have hb : ∀ i, i < L.length → 1 ≤ atI L i 0 ∧ atI L i 0 ≤ n := fun i hi => by
  have := h i (by omega) (by omega)
  unfold Nb at this
  rw [Bool.or_eq_false_iff, Bool.not_eq_false', QA] at this
  exact this.1
 have := Y4 n.toNat L.length (fun i => (atI L i 0).toNat) (fun i hi => by have := hb i hi; show 1 ≤ (atI L i 0).toNat ∧ (atI L i 0).toNat ≤ n.toNat; omega) (fun i j hij hj => by
  show (atI L i 0).toNat ≠ (atI L j 0).toNat
  have h1 := hb i (by omega)
  have h2 := hb j hj
  have h3 := h j (by omega) (by omega)
  unfold Nb at h3
  rw [Bool.or_eq_false_iff] at h3
  have h4 := H0.1 h3.2 i (by omega) (by omega)
  rw [beq_eq_false_iff_ne] at h4
  omega)
 omega
theorem QP {r : Rul} {s : Inn} (h : GS r s = true) : s.bowlers.length ≤ 11 ∧ s.before.length ≤ 11 ∧ s.Fit := by
 have ok := Wi.1 h
 have hs := eN ok
 have h1 := Yw ok.dw (by omega)
 have h2 := Yw ok.df (by omega)
 have h3 := ok.lb
 have h4 := ok.ld
 have h5 := ok.lz
 exact ⟨by omega, by omega, by omega, by omega, by omega, by omega, by omega⟩
end Go.Px
end
section
namespace Go.Px
set_option maxRecDepth 100000
def Sx (m : Mat) (e : Ev) : Mat × Int :=
  let sd := Cj m (m.inns.length : Int)
  let b := BK m.rules sd (FP m sd) (cond (sd == 2) m.pen2 m.pen1)
  let t := Aj m.rules b.1 e
  cond (!(b.2 == 0)) (m, 1) (cond (!(t.2 == 0)) (m, t.2)
    ({ m with stage := 3, inns := m.inns ++ [t.1], pen1 := cond (sd == 1) 0 m.pen1, pen2 := cond (sd == 2) 0 m.pen2 }, 0))
def Iu (xs : List Inn) (sd : Int) : Nat → Option Nat
 | 0 => none
 | k + 1 => cond ((inn xs k).side == sd) (some k) (Iu xs sd k)
def Gd (m : Mat) (sd : Int) : Mat := match Iu m.inns sd m.inns.length with
 | some k => { m with inns := m.inns.set k (Qg (inn m.inns k)) }
 | none => { m with pen1 := cond (sd == 1) (IntKind.i64.wrap (m.pen1 + 5)) m.pen1, pen2 := cond (sd == 2) (IntKind.i64.wrap (m.pen2 + 5)) m.pen2 }
def TC (m : Mat) (e : Ev) : Mat × Int :=
 let t := Aj m.rules (A7 m) e
 cond (!(t.2 == 0)) (m, t.2) (cond (e.kind == 13 && !(e.side == t.1.side)) (Gd { m with inns := m.inns.set (lnx m.inns) t.1 } e.side) { m with inns := m.inns.set (lnx m.inns) t.1 }, 0)
def aR (m : Mat) : Mat := { m with inns := cond (m.stage == 3) (m.inns.set (lnx m.inns) { A7 m with ending := 5 }) m.inns, stage := 5, win := Uy m.rules, wside := 0, margin := 0 }
def F7 (m : Mat) (e : Ev) : Mat × Int :=
  cond (e.kind == 1) (cond (!(m.stage == 1)) (m, 1) ({ m with first := cond e.yes e.side (C4 e.side), stage := 2 }, 0))
    (cond (e.kind == 2) (cond (!(m.stage == 2)) (m, 1) (Sx m e))
      (cond (e.kind == 12) (cond (!(m.stage == 4)) (m, 1) (cond (!(e.side == m.first)) (m, 2) ({ m with follow := e.yes, stage := 2 }, 0)))
        (cond (e.kind == 16) (aR m, 0) (cond (!(m.stage == 3)) (m, 1) (TC m e)))))
def QE (m : Mat) : Mat :=
  let n : Int := m.inns.length
  let sd := (A7 m).side
  let o := Q2 { m with stage := 5 }
  cond (n == IntKind.i64.wrap (2 * m.rules.innings) || (n == 3 && iLt (CJ m sd) (CJ m (C4 sd)))) { m with stage := 5, win := o.1, wside := o.2.1, margin := o.2.2 }
    (cond (n == 2 && iLt 0 m.rules.followon && iLe m.rules.followon (IntKind.i64.wrap (CJ m m.first - CJ m (C4 m.first)))) { m with stage := 4 } { m with stage := 2 })
def MA (m : Mat) : Mat := cond (m.stage == 3 && !((A7 m).ending == 0)) (QE m) m
def CL (m : Mat) (e : Ev) : Mat × Int :=
 cond (!GR m || !(evS e == 0)) (m, 1) (cond (m.stage == 5) (m, 26) (cond (!((F7 m e).2 == 0)) (m, (F7 m e).2) (MA (F7 m e).1, 0)))
theorem bind_ok {X : Option (List PV)} {r : List PV} {k : List PV → Option (List PV)} {g : Option (List PV)} (h : X = some r) (hk : k r = g) : X.bind k = g := by rw [h]; exact hk
structure MatOk (m : Mat) : Prop where
 code : Bh m.rules = 0
 len : m.inns.length ≤ 4
 innv : ∀ i, i < m.inns.length → GS m.rules (inn m.inns i) = true ∧ (inn m.inns i).side = Cj m (i : Int)
 begun : (m.stage == 3) = true → ((m.inns.length : Int) == 0) = false
 toss : (m.stage == 2) = true → m.first = 1 ∨ m.first = 2
 room : (m.stage == 2) = true → (m.inns.length : Int) < 2 * m.rules.innings
 most : IntKind.i64.wrap (2 * m.rules.innings) = 2 * m.rules.innings ∧ (m.inns.length : Int) ≤ 2 * m.rules.innings
theorem Uu {m : Mat} (h : GR m = true) : MatOk m := by
 unfold GR Z1 at h
 simp only [Bool.and_eq_true, Bool.not_eq_true'] at h
 obtain ⟨⟨h1, h2, h3, h4, h5, h6, h7, h8, h9, h10⟩, h11, h12⟩ := h
 have hc := beq_iff_eq.1 h1
 have rk := (K6 hc).innings
 have e2 : IntKind.i64.wrap (2 * m.rules.innings) = 2 * m.rules.innings := DP (by omega) (by omega)
 rw [e2] at h5 h8
 rw [Bool.or_eq_false_iff, Bool.or_eq_false_iff] at h5
 have hn := h5.2
 have hf1 := h5.1.1
 have hf2 := h5.1.2
 simp only [iLt, decide_eq_false_iff_not] at hn hf1 hf2
 refine ⟨hc, by omega, fun i hi => ?_, fun hs => ?_, fun hs => ?_, fun hs => ?_, e2, by omega⟩
 ·have := H0.1 h11 i (by omega) (by omega)
  unfold SR at this
  rw [Bool.or_eq_false_iff, Bool.not_eq_false', Bool.not_eq_false', beq_iff_eq] at this
  exact this
 ·unfold R1 at h12
  rw [hs, Bool.and_eq_true] at h12
  have := h12.2
  simp only [iLt, Bool.not_true, Bool.false_or, decide_eq_true_eq] at this
  exact beq_false_of_ne (by omega)
 ·rw [beq_iff_eq.1 hs] at h6
  cases h0 : m.first == 0 with
  | true => rw [h0] at h6; simp at h6
  | false =>
   rw [beq_eq_false_iff_ne] at h0
   omega
 ·rw [hs, Bool.true_and, beq_eq_false_iff_ne] at h8
  omega
theorem dC {m : Mat} (h : m.first = 1 ∨ m.first = 2) (i : Int) : Cj m i = 1 ∨ Cj m i = 2 := by
 unfold Cj
 cases cond (m.follow && iLe 2 i) (i == 2) (i.tmod 2 == 1) with
 | false => exact h
 | true => rcases h with h | h <;> rw [h] <;> decide
theorem bO {m : Mat} (h : MatOk m) : II m.inns := fun i hi => (QP (h.innv i hi).1).2.2
theorem VU {F : (List Aa → Option (List PV)) → List PV → Option (List PV)} {len : Nat} (enc : Nat → List Aa) (ans : Nat → Option (List PV))
    (h0 : ∀ self, F self ((enc len).map Leaf.pv) = some [.int 1]) (h1 : ∀ i self, i < len → F self ((enc i).map Leaf.pv) = match ans i with | some r => some (.int 0 :: r) | none => self (enc (i + 1))) :
    ∀ (k i n : Nat), i + k = len → k < n → Gn F n ((enc i).map Leaf.pv) = some (S8 (Bm ans k i))
  | 0, i, n, hk, hn => by
    obtain ⟨n, rfl⟩ : ∃ m, n = m + 1 := ⟨n - 1, by omega⟩
    obtain rfl : i = len := by omega
    exact h0 _
  | k + 1, i, n, hk, hn => by
    obtain ⟨n, rfl⟩ : ∃ m, n = m + 1 := ⟨n - 1, by omega⟩
    show F _ _ = _
    rw [h1 i _ (by omega)]
    simp only [Bm]
    cases ans i with
    | some r => rfl
    | none => exact VU enc ans h0 h1 k (i + 1) n (by omega) (by omega)
theorem Zs (ys : List Inn) (sd : Int) (g : Nat → List PV) (n : Nat) : ∀ k, k ≤ n → Bm (fun j => cond ((inn ys (n - 1 - j)).side == sd) (some (g (n - 1 - j))) none) k (n - k) = (Iu ys sd k).map g
 | 0, _ => rfl
 | k + 1, h => by
  have ih := Zs ys sd g n k (by omega)
  have e : n - 1 - (n - (k + 1)) = k := by omega
  have e2 : n - (k + 1) + 1 = n - k := by omega
  simp only [Bm, Iu, e, e2, ih]
  cases (inn ys k).side == sd <;> rfl
theorem Sz (xs : List Inn) (k : Nat) (s : Inn) (i : Nat) (hi : i < xs.length) : inn (xs.set k s) i = (if k = i then s else inn xs i) := by
 rw [ON, ON, List.getElem?_set]
 by_cases h : k = i
 ·subst h
  rw [if_pos rfl, if_pos rfl, if_pos hi]
 ·rw [if_neg h, if_neg h]
theorem Qj {xs : List Inn} {s : Inn} (k : Nat) (h : II xs) (hs : s.Fit) : II (xs.set k s) := fun i hi => by
 rw [List.length_set] at hi
 rw [Sz xs k s i hi]
 by_cases e : k = i
 ·rw [if_pos e]; exact hs
 ·rw [if_neg e]; exact h i hi
theorem bl {e : Ev} (h : (evS e == 0) = true) (hk : (e.kind == 13) = true) : e.side = 1 ∨ e.side = 2 := by
 have h0 := WT h
 rw [beq_iff_eq] at hk
 unfold evS at h
 rw [h0] at h
 cases h1 : YU e with
 | true => rw [h1] at h; cases h
 | false =>
  cases h2 : UF e with
  | true => rw [h1, h2] at h; cases h
  | false =>
   unfold UF at h2
   rw [Bool.or_eq_false_iff] at h2
   have h3 := h2.1
   rw [hk, show uS 13 = true from rfl, Bool.and_true] at h3
   simp only [btw, iLe, Bool.not_eq_false', Bool.and_eq_true, decide_eq_true_eq] at h3
   omega
theorem TD (xs : List Inn) (s : Inn) (i : Nat) (hi : i < xs.length + 1) : inn (xs ++ [s]) i = (if i < xs.length then inn xs i else s) := by
 rw [ON, ON]
 by_cases h : i < xs.length
 ·rw [if_pos h, List.getElem?_append_left h]
 ·have : i = xs.length := by omega
  subst this
  rw [if_neg h, List.getElem?_append_right (Nat.le_refl _), Nat.sub_self]
  rfl
theorem dA {xs : List Inn} {s : Inn} (h : II xs) (hs : s.Fit) : II (xs ++ [s]) := fun i hi => by
 rw [List.length_append] at hi
 rw [TD xs s i hi]
 by_cases e : i < xs.length
 ·rw [if_pos e]; exact h i e
 ·rw [if_neg e]; exact hs
theorem WN (r : Rul) (a b c : Int) (e : Ev) : (Aj r (BK r a b c).1 e).1.Fit := by
 obtain ⟨f, h1, h2⟩ := ND r a b c
 exact QM (Sn r _ e) f (by rw [h1, h2]; exact Nat.zero_le _)
structure ActOk (m : Mat) (x : Mat × Int) : Prop where
 rules : x.1.rules = m.rules
 fit : II x.1.inns
 len : x.1.inns.length ≤ 5
 some' : (x.2 == 0) = true → (x.1.stage == 3) = true → ((x.1.inns.length : Int) == 0) = false
theorem A_c {m : Mat} (b : Bool) (x y : Mat × Int) (hx : ActOk m x) (hy : ActOk m y) : ActOk m (cond b x y) := by cases b <;> assumption
theorem cf {m : Mat} (sd : Int) (hf : II m.inns) : (Gd m sd).rules = m.rules ∧ II (Gd m sd).inns ∧ (Gd m sd).inns.length = m.inns.length ∧ (Gd m sd).stage = m.stage := by
 unfold Gd
 cases h : Iu m.inns sd m.inns.length with
 | none => exact ⟨rfl, hf, rfl, rfl⟩
 | some k =>
  have hk : k < m.inns.length := by
   have : ∀ n, Iu m.inns sd n = some k → k < n := by
    intro n
    induction n with
    | zero => intro h; cases h
    | succ n ih =>
     intro h
     unfold Iu at h
     cases hq : (inn m.inns n).side == sd with
     | true => rw [hq] at h; cases h; omega
     | false => rw [hq] at h; have := ih h; omega
   exact this _ h
  exact ⟨rfl, Qj k hf (eE (hf k hk)), List.length_set, rfl⟩
theorem az {m : Mat} (ok : MatOk m) (e : Ev) : ActOk m (F7 m e) := by
 have hf := bO ok
 have hl := ok.len
 have self : ∀ n : Int, (n == 0) = false → ActOk m (m, n) := fun n hn => ⟨rfl, hf, by show m.inns.length ≤ 5; omega, fun h => by rw [hn] at h; cases h⟩
 unfold F7
 refine A_c _ _ _ (A_c _ _ _ (self 1 rfl) ⟨rfl, hf, by show m.inns.length ≤ 5; omega, fun _ h => by cases h⟩) (A_c _ _ _ ?_ (A_c _ _ _ ?_ (A_c _ _ _ ?_ ?_)))
 ·refine A_c _ _ _ (self 1 rfl) ?_
  unfold Sx
  refine A_c _ _ _ (self 1 rfl) ?_
  cases hq : (Aj m.rules (BK m.rules (Cj m (m.inns.length : Int)) (FP m (Cj m (m.inns.length : Int))) (cond (Cj m (m.inns.length : Int) == 2) m.pen2 m.pen1)).1 e).2 == 0 with
  | false =>
   simp only [Bool.not_false, cond_true]
   exact self _ hq
  | true =>
   simp only [Bool.not_true, cond_false]
   exact ⟨rfl, dA hf (WN _ _ _ _ e), by simp; omega, fun _ _ => by
    show ((((m.inns ++ [_]).length : Nat) : Int) == 0) = false
    rw [List.length_append]
    exact beq_false_of_ne (by simp; omega)⟩
 ·exact A_c _ _ _ (self 1 rfl) (A_c _ _ _ (self 2 rfl) ⟨rfl, hf, by show m.inns.length ≤ 5; omega, fun _ h => by cases h⟩)
 ·unfold aR
  cases h3 : m.stage == 3 with
  | false => exact ⟨rfl, hf, by show m.inns.length ≤ 5; omega, fun _ h => by cases h⟩
  | true =>
   have h0 := ok.begun h3
   have fl := hf (lnx m.inns) (Pp h0 (by omega))
   exact ⟨rfl, Qj _ hf ⟨fl.bt, fl.bw, fl.bf, fl.bd, fl.sb⟩, by show (m.inns.set _ _).length ≤ 5; rw [List.length_set]; omega, fun _ h => by cases h⟩
 ·cases h3 : m.stage == 3 with
  | false => exact self 1 rfl
  | true =>
   have h0 := ok.begun h3
   have lv := QP (ok.innv (lnx m.inns) (Pp h0 (by omega))).1
   have h1 := lv.1
   have h2 := lv.2.1
   have ft := QM (Sn m.rules (A7 m) e) lv.2.2 (show (inn m.inns (lnx m.inns)).before.length + (inn m.inns (lnx m.inns)).bowlers.length ≤ 1048575 by omega)
   simp only [Bool.not_true, cond_false, TC]
   cases hq : (Aj m.rules (A7 m) e).2 == 0 with
   | false =>
    simp only [Bool.not_false, Bool.not_true, cond_true, cond_false]
    exact self _ hq
   | true =>
    have fs := Qj (lnx m.inns) hf ft
    have ln : (m.inns.set (lnx m.inns) (Aj m.rules (A7 m) e).1).length = m.inns.length := List.length_set
    simp only [Bool.not_true, cond_false]
    cases (e.kind == 13 && !(e.side == (Aj m.rules (A7 m) e).1.side)) with
    | false =>
     exact ⟨rfl, fs, by show (m.inns.set _ _).length ≤ 5; omega, fun _ _ => by
      show ((((m.inns.set _ _).length : Nat) : Int) == 0) = false
      rw [ln]; exact h0⟩
    | true =>
     obtain ⟨a1, a2, a3, a4⟩ := cf (m := { m with inns := m.inns.set (lnx m.inns) (Aj m.rules (A7 m) e).1 }) e.side fs
     exact ⟨a1, a2, by show (Gd _ _).inns.length ≤ 5; rw [a3]; show (m.inns.set _ _).length ≤ 5; omega, fun _ _ => by
      show ((((Gd _ _).inns.length : Nat) : Int) == 0) = false
      rw [a3]
      show ((((m.inns.set _ _).length : Nat) : Int) == 0) = false
      rw [ln]; exact h0⟩
end Go.Px
end
section
namespace Go.Px
set_option maxRecDepth 100000
set_option maxHeartbeats 8000000 in
theorem Y3 {N : Nat} {m1 m2 m3 m4 m5 m6 m7 m9 m10 m11 m12 m14 m15 m18 m19 m20 m21 m22 : Int} {m8 m16 : Bool} {m0 : ByteArray} {m13 : Rows} {m17 : List Inn} {e0 e1 e2 e3 e5 e6 e7 e8 e9 e10 e11 e13 e14 e15 e16 e18 : Int} {e4 e12 e17 : Bool} (hN : 2097152 < N) (hf : II m17) (hl : m17.length ≤ 1000000) (hs : m0.size ≤ 1048576) (h13 : m13.length ≤ 1048576) : KA N [.str m0, .int m1, .int m2, .int m3, .int m4, .int m5, .int m6, .int m7, .bool m8, .int m9, .int m10, .int m11, .int m12, .rows m13, .int m14, .int m15, .bool m16, .rows (AY m17), .int m18, .int m19, .int m20, .int m21, .int m22, .int e0, .int e1, .int e2, .int e3, .bool e4, .int e5, .int e6, .int e7, .int e8, .int e9, .int e10, .int e11, .bool e12, .int e13, .int e14, .int e15, .int e16, .bool e17, .int e18] = some (Qk (CL (⟨⟨m0, m1, m2, m3, m4, m5, m6, m7, m8, m9, m10, m11, m12, m13⟩, m14, m15, m16, m17, m18, m19, m20, m21, m22⟩ : Mat) (⟨e0, e1, e2, e3, e4, e5, e6, ⟨e7, e8, e9, e10, e11, e12, e13, e14, e15, e16, e17, e18⟩⟩ : Ev))) := by
 show KC (std (Av N) N) (xOf _) = _
 generalize hres : (some (Qk (CL (⟨⟨m0, m1, m2, m3, m4, m5, m6, m7, m8, m9, m10, m11, m12, m13⟩, m14, m15, m16, m17, m18, m19, m20, m21, m22⟩ : Mat) (⟨e0, e1, e2, e3, e4, e5, e6, ⟨e7, e8, e9, e10, e11, e12, e13, e14, e15, e16, e17, e18⟩⟩ : Ev))) : Option (List PV)) = RR
 simp only [KC, CM, DG, Fd, Ni, OE, OL, Dt, Dp, HG, GL, Da, Cb, std, xOf, PXb, Rg hf hN hl hs, RG hN, XH hf hN hl h13]
 subst hres; simp only [CL]
 cases hv : GR (⟨⟨m0, m1, m2, m3, m4, m5, m6, m7, m8, m9, m10, m11, m12, m13⟩, m14, m15, m16, m17, m18, m19, m20, m21, m22⟩ : Mat)
 case false => rfl
 cases he : evS (⟨e0, e1, e2, e3, e4, e5, e6, ⟨e7, e8, e9, e10, e11, e12, e13, e14, e15, e16, e17, e18⟩⟩ : Ev) == 0
 case false => simp only [PXb, he]; rfl
 simp only [PXb, he]
 cases h5 : m14 == 5
 case true => rfl
 simp only [PXb]
 have ok := Uu hv
 refine bind_ok (r := .int (F7 (⟨⟨m0, m1, m2, m3, m4, m5, m6, m7, m8, m9, m10, m11, m12, m13⟩, m14, m15, m16, m17, m18, m19, m20, m21, m22⟩ : Mat) (⟨e0, e1, e2, e3, e4, e5, e6, ⟨e7, e8, e9, e10, e11, e12, e13, e14, e15, e16, e17, e18⟩⟩ : Ev)).2 :: (F7 (⟨⟨m0, m1, m2, m3, m4, m5, m6, m7, m8, m9, m10, m11, m12, m13⟩, m14, m15, m16, m17, m18, m19, m20, m21, m22⟩ : Mat) (⟨e0, e1, e2, e3, e4, e5, e6, ⟨e7, e8, e9, e10, e11, e12, e13, e14, e15, e16, e17, e18⟩⟩ : Ev)).1.ls) ?_ ?_
 ·unfold F7
  cases hk1 : e0 == 1
  case true =>
   simp only [PXb, Dp, GW]
   cases m14 == 1 <;> cases e4 <;> rfl
  cases hk2 : e0 == 2
  case true =>
   simp only [PXb]
   cases hs2 : m14 == 2
   case false => rfl
   have hl2 : m17.length ≤ 1048576 := by omega
   have h304 : iSm ((m17.length + 1 : Nat) : Int) 304 = true := Is (by omega) (by omega)
   have fb := fun a b c => (ND (⟨⟨m0, m1, m2, m3, m4, m5, m6, m7, m8, m9, m10, m11, m12, m13⟩, m14, m15, m16, m17, m18, m19, m20, m21, m22⟩ : Mat).rules a b c).1
   have wb : ∀ a b c, (BK (⟨⟨m0, m1, m2, m3, m4, m5, m6, m7, m8, m9, m10, m11, m12, m13⟩, m14, m15, m16, m17, m18, m19, m20, m21, m22⟩ : Mat).rules a b c).1.before.length + (BK (⟨⟨m0, m1, m2, m3, m4, m5, m6, m7, m8, m9, m10, m11, m12, m13⟩, m14, m15, m16, m17, m18, m19, m20, m21, m22⟩ : Mat).rules a b c).1.bowlers.length ≤ 1000000 := fun a b c => by
    rw [(ND (⟨⟨m0, m1, m2, m3, m4, m5, m6, m7, m8, m9, m10, m11, m12, m13⟩, m14, m15, m16, m17, m18, m19, m20, m21, m22⟩ : Mat).rules a b c).2.1, (ND (⟨⟨m0, m1, m2, m3, m4, m5, m6, m7, m8, m9, m10, m11, m12, m13⟩, m14, m15, m16, m17, m18, m19, m20, m21, m22⟩ : Mat).rules a b c).2.2]
    exact Nat.zero_le _
   rcases dC (m := (⟨⟨m0, m1, m2, m3, m4, m5, m6, m7, m8, m9, m10, m11, m12, m13⟩, m14, m15, m16, m17, m18, m19, m20, m21, m22⟩ : Mat)) (ok.toss hs2) (m17.length : Int) with ho | ho
   ·simp only [PXb, PXc, Id, YR, Nat.reduceAdd, Int.reduceBEq, PXi, PXr, Inn.eta, A2, List.length_append, List.length_cons, List.length_nil, h304, Sx, Dt, Da, DG, CM, MW, Po hN hl2, Ox hN hs, LF (fb _ _ _) (wb _ _ _) hN hs h13, ho, wr1, wr2, Xn, Xs]
    cases (BK (⟨⟨m0, m1, m2, m3, m4, m5, m6, m7, m8, m9, m10, m11, m12, m13⟩, m14, m15, m16, m17, m18, m19, m20, m21, m22⟩ : Mat).rules 1 (FP (⟨⟨m0, m1, m2, m3, m4, m5, m6, m7, m8, m9, m10, m11, m12, m13⟩, m14, m15, m16, m17, m18, m19, m20, m21, m22⟩ : Mat) 1) m18).2 == 0 <;> try rfl
    cases (Aj (⟨⟨m0, m1, m2, m3, m4, m5, m6, m7, m8, m9, m10, m11, m12, m13⟩, m14, m15, m16, m17, m18, m19, m20, m21, m22⟩ : Mat).rules (BK (⟨⟨m0, m1, m2, m3, m4, m5, m6, m7, m8, m9, m10, m11, m12, m13⟩, m14, m15, m16, m17, m18, m19, m20, m21, m22⟩ : Mat).rules 1 (FP (⟨⟨m0, m1, m2, m3, m4, m5, m6, m7, m8, m9, m10, m11, m12, m13⟩, m14, m15, m16, m17, m18, m19, m20, m21, m22⟩ : Mat) 1) m18).1 (⟨e0, e1, e2, e3, e4, e5, e6, ⟨e7, e8, e9, e10, e11, e12, e13, e14, e15, e16, e17, e18⟩⟩ : Ev)).2 == 0 <;> rfl
   ·simp only [PXb, PXc, Id, YR, Nat.reduceAdd, Int.reduceBEq, PXi, PXr, Inn.eta, A2, List.length_append, List.length_cons, List.length_nil, h304, Sx, Dt, Da, DG, CM, MW, Po hN hl2, Ox hN hs, LF (fb _ _ _) (wb _ _ _) hN hs h13, ho, wr1, wr2, Xn, Xs]
    cases (BK (⟨⟨m0, m1, m2, m3, m4, m5, m6, m7, m8, m9, m10, m11, m12, m13⟩, m14, m15, m16, m17, m18, m19, m20, m21, m22⟩ : Mat).rules 2 (FP (⟨⟨m0, m1, m2, m3, m4, m5, m6, m7, m8, m9, m10, m11, m12, m13⟩, m14, m15, m16, m17, m18, m19, m20, m21, m22⟩ : Mat) 2) m19).2 == 0 <;> try rfl
    cases (Aj (⟨⟨m0, m1, m2, m3, m4, m5, m6, m7, m8, m9, m10, m11, m12, m13⟩, m14, m15, m16, m17, m18, m19, m20, m21, m22⟩ : Mat).rules (BK (⟨⟨m0, m1, m2, m3, m4, m5, m6, m7, m8, m9, m10, m11, m12, m13⟩, m14, m15, m16, m17, m18, m19, m20, m21, m22⟩ : Mat).rules 2 (FP (⟨⟨m0, m1, m2, m3, m4, m5, m6, m7, m8, m9, m10, m11, m12, m13⟩, m14, m15, m16, m17, m18, m19, m20, m21, m22⟩ : Mat) 2) m19).1 (⟨e0, e1, e2, e3, e4, e5, e6, ⟨e7, e8, e9, e10, e11, e12, e13, e14, e15, e16, e17, e18⟩⟩ : Ev)).2 == 0 <;> rfl
  cases hk3 : e0 == 12
  case true =>
   simp only [PXb]
   cases m14 == 4 <;> cases e1 == m15 <;> rfl
  cases hk4 : e0 == 16
  case true =>
   simp only [PXb, aR]
   cases h3 : m14 == 3
   case false => simp only [PXb, PXc, PXi, PXr, Id, Nat.reduceAdd, Cb, HZ]; rfl
   simp only [PXb, PXc, PXi, PXr, Id, Nat.reduceAdd, P0 (ok.begun h3) hl, Cb, HZ]
   rfl
  simp only [PXb]
  cases h3 : m14 == 3
  case false => rfl
  have h0 := ok.begun h3
  have lv := QP (ok.innv (lnx m17) (Pp h0 hl)).1
  have fl : (inn m17 (IntKind.i64.wrap ((m17.length : Int) - 1)).toNat).Fit := lv.2.2
  have wl : (inn m17 (IntKind.i64.wrap ((m17.length : Int) - 1)).toNat).before.length + (inn m17 (IntKind.i64.wrap ((m17.length : Int) - 1)).toNat).bowlers.length ≤ 1000000 := by
   have h1 := lv.1
   have h2 := lv.2.1
   change (inn m17 (IntKind.i64.wrap ((m17.length : Int) - 1)).toNat).bowlers.length ≤ 11 at h1
   change (inn m17 (IntKind.i64.wrap ((m17.length : Int) - 1)).toNat).before.length ≤ 11 at h2
   omega
  have f1 := QM (Sn (⟨⟨m0, m1, m2, m3, m4, m5, m6, m7, m8, m9, m10, m11, m12, m13⟩, m14, m15, m16, m17, m18, m19, m20, m21, m22⟩ : Mat).rules (inn m17 (IntKind.i64.wrap ((m17.length : Int) - 1)).toNat) (⟨e0, e1, e2, e3, e4, e5, e6, ⟨e7, e8, e9, e10, e11, e12, e13, e14, e15, e16, e17, e18⟩⟩ : Ev)) fl (by omega)
  simp only [PXb, PXc, PXi, PXr, A2, Inn.eta, Id, Nat.reduceAdd, List.length_set, P0 h0 hl, CM, LF fl wl hN hs h13, TC, A7, lnx]
  generalize hX : Aj (⟨⟨m0, m1, m2, m3, m4, m5, m6, m7, m8, m9, m10, m11, m12, m13⟩, m14, m15, m16, m17, m18, m19, m20, m21, m22⟩ : Mat).rules (inn m17 (IntKind.i64.wrap ((m17.length : Int) - 1)).toNat) (⟨e0, e1, e2, e3, e4, e5, e6, ⟨e7, e8, e9, e10, e11, e12, e13, e14, e15, e16, e17, e18⟩⟩ : Ev) = X at f1
  have fy := Qj (IntKind.i64.wrap ((m17.length : Int) - 1)).toNat hf f1
  generalize hy : m17.set (IntKind.i64.wrap ((m17.length : Int) - 1)).toNat X.1 = ys at fy
  have ly : ys.length = m17.length := by rw [← hy, List.length_set]
  cases X.2 == 0 <;> try rfl
  cases h13k : e0 == 13
  case false => rfl
  cases hsd : e1 == X.1.side
  case true => rfl
  simp only [PXb, Option.bind_assoc]
  have e0w : IntKind.i64.wrap ((m17.length : Int) - 1) = (m17.length : Int) - 1 - ((0 : Nat) : Int) := by
   rw [beq_eq_false_iff_ne] at h0
   rw [DP (by omega) (by omega)]; omega
  rw [e0w]
  have hside := bl (e := (⟨e0, e1, e2, e3, e4, e5, e6, ⟨e7, e8, e9, e10, e11, e12, e13, e14, e15, e16, e17, e18⟩⟩ : Ev)) he h13k
  simp only at hside
  refine Ae (VU (len := m17.length) (fun j => [.int ((m17.length : Int) - 1 - (j : Int))]) (fun j => cond ((inn ys (m17.length - 1 - j)).side == e1) (some [PV.str m0, PV.int m1, PV.int m2, PV.int m3, PV.int m4, PV.int m5, PV.int m6, PV.int m7, PV.bool m8, PV.int m9, PV.int m10, PV.int m11, PV.int m12, PV.rows m13, PV.int m14, PV.int m15, PV.bool m16, PV.rows (AY (ys.set (m17.length - 1 - j) (Qg (inn ys (m17.length - 1 - j))))), PV.int m18, PV.int m19, PV.int m20, PV.int m21, PV.int m22]) none) ?_ ?_ m17.length 0 N (by omega) (by omega)) ?_
  ·intro self
   have q1 : iLe 0 ((m17.length : Int) - 1 - (m17.length : Int)) = false := by simp only [iLe, decide_eq_false_iff_not]; omega
   simp only [PXb, q1]
  ·intro i self hi
   have q1 : iLe 0 ((m17.length : Int) - 1 - (i : Int)) = true := by simp only [iLe, decide_eq_true_eq]; omega
   have q2 : iIn ((m17.length : Int) - 1 - (i : Int)) (m17.length : Int) = true := by simp only [iIn, decide_eq_true_eq]; omega
   have q3 : ((m17.length : Int) - 1 - (i : Int)).toNat = m17.length - 1 - i := by omega
   have q4 : IntKind.i64.wrap ((m17.length : Int) - 1 - (i : Int) - 1) = (m17.length : Int) - 1 - ((i + 1 : Nat) : Int) := by rw [DP (by omega) (by omega)]; omega
   have q5 := fy (m17.length - 1 - i) (by omega)
   simp only [PXb, PXc, q1, q2, q3, q4, Fd, M2 q5, PXm]
   cases (inn ys (m17.length - 1 - i)).side == e1 <;> rfl
  ·have hfa := Zs ys e1 (fun k => [PV.str m0, PV.int m1, PV.int m2, PV.int m3, PV.int m4, PV.int m5, PV.int m6, PV.int m7, PV.bool m8, PV.int m9, PV.int m10, PV.int m11, PV.int m12, PV.rows m13, PV.int m14, PV.int m15, PV.bool m16, PV.rows (AY (ys.set k (Qg (inn ys k)))), PV.int m18, PV.int m19, PV.int m20, PV.int m21, PV.int m22]) m17.length m17.length (Nat.le_refl _)
   rw [Nat.sub_self] at hfa
   rw [hfa]
   unfold Gd
   simp only [ly]
   cases Iu ys e1 m17.length with
   | some k => rfl
   | none =>
    rcases hside with h | h <;> subst h
    ·simp only [Option.map_none, S8, PXb, PXc, Id, Int.reduceBEq, wr1, Xn]
     rfl
    ·simp only [Option.map_none, S8, PXb, PXc, Id, Int.reduceBEq, wr2, Xs]
     rfl
 ·have ak := az ok (⟨e0, e1, e2, e3, e4, e5, e6, ⟨e7, e8, e9, e10, e11, e12, e13, e14, e15, e16, e17, e18⟩⟩ : Ev)
  generalize F7 (⟨⟨m0, m1, m2, m3, m4, m5, m6, m7, m8, m9, m10, m11, m12, m13⟩, m14, m15, m16, m17, m18, m19, m20, m21, m22⟩ : Mat) (⟨e0, e1, e2, e3, e4, e5, e6, ⟨e7, e8, e9, e10, e11, e12, e13, e14, e15, e16, e17, e18⟩⟩ : Ev) = A at ak
  obtain ⟨⟨⟨a0, a1, a2, a3, a4, a5, a6, a7, a8, a9, a10, a11, a12, a13⟩, a14, a15, a16, a17, a18, a19, a20, a21, a22⟩, l⟩ := A
  obtain ⟨k1, k2, k3, k4⟩ := ak
  simp only at k1 k2 k3 k4
  have hl5 : a17.length ≤ 1048576 := by omega
  have hs5 : a0.size ≤ 1048576 := by
   have := congrArg Rul.name k1
   simp only at this
   rw [this]; exact hs
  simp only [PXb, PXc, PXk, PXi, Id, Nat.reduceAdd]
  cases hl0 : l == 0
  case false => rfl
  simp only [PXb, MA]
  cases h3 : a14 == 3
  case false => rfl
  have h0 := k4 hl0 h3
  have li := P0 h0 (show a17.length ≤ 1000000 by omega)
  simp only [PXb, PXc, PXi, li]
  cases he2 : (inn a17 (IntKind.i64.wrap ((a17.length : Int) - 1)).toNat).ending == 0
  case true => simp only [PXb, A7, lnx, he2]
  simp only [PXb, PXc, PXi, A7, lnx, he2, HG, Dp, GL, MQ hN hl5, GW, VF k2 hN (show a17.length ≤ 1000000 by omega) hs5]
  unfold QE
  simp only [A7, lnx]
  simp only [CJ, A7, lnx]
  cases hq1 : ((a17.length : Int) == IntKind.i64.wrap (2 * a2))
  case true => rfl
  cases hq2 : ((a17.length : Int) == 3)
  case true =>
   simp only [PXb]
   cases iLt (MV a17 (inn a17 (IntKind.i64.wrap ((a17.length : Int) - 1)).toNat).side a17.length) (MV a17 (C4 (inn a17 (IntKind.i64.wrap ((a17.length : Int) - 1)).toNat).side) a17.length)
   case true => rfl
   simp only [PXb]
   cases ((a17.length : Int) == 2) && iLt 0 a10 && iLe a10 (IntKind.i64.wrap (MV a17 a15 a17.length - MV a17 (C4 a15) a17.length)) <;> rfl
  simp only [PXb]
  cases ((a17.length : Int) == 2) && iLt 0 a10 && iLe a10 (IntKind.i64.wrap (MV a17 a15 a17.length - MV a17 (C4 a15) a17.length)) <;> rfl
end Go.Px
end
section
namespace Go.Px
set_option maxRecDepth 100000
theorem ZV (m : Mat) : (QE m).rules = m.rules ∧ (QE m).inns = m.inns := by
 unfold QE
 dsimp only
 cases ((m.inns.length : Int) == IntKind.i64.wrap (2 * m.rules.innings) || ((m.inns.length : Int) == 3 && iLt (CJ m (A7 m).side) (CJ m (C4 (A7 m).side)))) with
 | true => exact ⟨rfl, rfl⟩
 | false =>
  cases ((m.inns.length : Int) == 2 && iLt 0 m.rules.followon && iLe m.rules.followon (IntKind.i64.wrap (CJ m m.first - CJ m (C4 m.first)))) <;> exact ⟨rfl, rfl⟩
theorem NY (m : Mat) : (MA m).rules = m.rules ∧ (MA m).inns = m.inns := by
 unfold MA
 cases (m.stage == 3 && !((A7 m).ending == 0)) with
 | true => exact ZV m
 | false => exact ⟨rfl, rfl⟩
structure StepOk (r : Rul) (m : Mat) : Prop where
 rules : m.rules = r
 fit : II m.inns
 len : m.inns.length ≤ 5
theorem aB {r : Rul} {m : Mat} (h : StepOk r m) (e : Ev) : StepOk r (CL m e).1 := by
 unfold CL
 cases hv : GR m with
 | false => exact h
 | true =>
  cases he : evS e == 0 with
  | false => exact h
  | true =>
   cases h5 : m.stage == 5 with
   | true => exact h
   | false =>
    have a := az (Uu hv) e
    cases hx : (F7 m e).2 == 0 with
    | false => exact h
    | true =>
     have k := NY (F7 m e).1
     exact ⟨k.1.trans (a.rules.trans h.rules), by show II (MA _).inns; rw [k.2]; exact a.fit, by show (MA _).inns.length ≤ 5; rw [k.2]; exact a.len⟩
theorem Vz (r : Rul) (h : ((De r).2 == 0) = true) : StepOk r (De r).1 := by
 unfold De at h ⊢
 cases hc : Bh r == 0 with
 | false => rw [hc] at h; exact absurd (show (Bh r == 0) = true from h) (by rw [hc]; decide)
 | true => exact ⟨rfl, fun i hi => absurd hi (Nat.not_lt_zero i), Nat.zero_le _⟩
theorem UE {m : Mat} {e : Ev} (h : ((CL m e).2 == 0) = true) : GR m = true ∧ (evS e == 0) = true ∧ (m.stage == 5) = false ∧ ((F7 m e).2 == 0) = true ∧ (CL m e).1 = MA (F7 m e).1 := by
 unfold CL at h ⊢
 cases hv : GR m with
 | false => rw [hv] at h; exact absurd (show ((1 : Int) == 0) = true from h) (by decide)
 | true =>
  cases he : evS e == 0 with
  | false => rw [hv, he] at h; exact absurd (show ((1 : Int) == 0) = true from h) (by decide)
  | true =>
   cases h5 : m.stage == 5 with
   | true => rw [hv, he, h5] at h; exact absurd (show ((26 : Int) == 0) = true from h) (by decide)
   | false =>
    cases hx : (F7 m e).2 == 0 with
    | false => rw [hv, he, h5, hx] at h; exact absurd (show ((F7 m e).2 == 0) = true from h) (by rw [hx]; decide)
    | true => exact ⟨rfl, rfl, rfl, rfl, rfl⟩
theorem Q6 {m : Mat} {e : Ev} (h : ((CL m e).2 == 0) = true) (hk : (e.kind == 4) = true) : (m.stage == 3) = true ∧ ((m.inns.length : Int) == 0) = false ∧ ((Aj m.rules (A7 m) e).2 == 0) = true ∧ (CL m e).1.inns = m.inns.set (lnx m.inns) (Aj m.rules (A7 m) e).1 := by
 obtain ⟨hv, he, h5, ha, hs⟩ := UE h
 have hk4 := beq_iff_eq.1 hk
 rw [hs, (NY _).2]
 unfold F7 at ha ⊢
 simp only [hk4, Int.reduceBEq, cond_false] at ha ⊢
 cases h3 : m.stage == 3 with
 | false => rw [h3] at ha; exact absurd (show ((1 : Int) == 0) = true from ha) (by decide)
 | true =>
  rw [h3] at ha
  simp only [Bool.not_true, cond_false] at ha ⊢
  unfold TC at ha ⊢
  cases hq : (Aj m.rules (A7 m) e).2 == 0 with
  | false => simp only [hq, Bool.not_false, cond_true] at ha; exact absurd ha Bool.false_ne_true
  | true =>
   simp only [hk4, Int.reduceBEq, Bool.false_and, hq, Bool.not_true, cond_false]
   exact ⟨trivial, (Uu hv).begun h3, trivial, trivial⟩
end Go.Px
end
section
namespace Go.Px
set_option maxRecDepth 100000
def evR (L : Rows) (i : Nat) : Ev := ⟨atI L i 0, atI L i 1, atI L i 2, atI L i 3, atB L i 4, atI L i 5, atI L i 6, ⟨atI L i 7, atI L i 8, atI L i 9, atI L i 10, atI L i 11, atB L i 12, atI L i 13, atI L i 14, atI L i 15, atI L i 16, atB L i 17, atI L i 18⟩⟩
theorem fV (L : Rows) (i : Nat) : (⟨atI L i 0, atI L i 1, atI L i 2, atI L i 3, atB L i 4, atI L i 5, atI L i 6, ⟨atI L i 7, atI L i 8, atI L i 9, atI L i 10, atI L i 11, atB L i 12, atI L i 13, atI L i 14, atI L i 15, atI L i 16, atB L i 17, atI L i 18⟩⟩ : Ev) = evR L i := rfl
def Al (i : Int) (m : Mat) (e : Ev) : Mat × Int := cond (iLe 4000 i) (m, 26) (CL m e)
def DZ (L : Rows) : Nat → Nat → Mat → Mat × Int × Int
 | 0, _, m => (m, -1, 0)
 | k + 1, i, m => cond (!((Al i m (evR L i)).2 == 0)) (m, (i : Int), (Al i m (evR L i)).2) (DZ L k (i + 1) (Al i m (evR L i)).1)
def Ij (i : Int) (m t : Mat) (d : Del) : List PV :=
 [.int i, .int (IntKind.i64.wrap ((m.inns.length : Int) - 1)), .int (A7 m).complete, .int (A7 m).inover, .int (A7 m).bowler, .int (A7 m).striker, .int (A7 m).other, .bool (A7 m).freehit,
  .int d.type, .int d.source, .int d.runs, .int d.short, .int d.boundary, .bool d.crossed, .int d.how, .int d.victim, .int d.fielder, .int d.second, .bool d.sub, .int d.sector,
  .int (AE m.rules d).batter, .int (AE m.rules d).wides, .int (AE m.rules d).noballs, .int (AE m.rules d).byes, .int (AE m.rules d).legbyes, .int (AE m.rules d).bowler, .bool (AE m.rules d).counts, .bool (AE m.rules d).faced, .bool (AE m.rules d).wicket, .bool (AE m.rules d).swap,
  .int (inn t.inns (lnx m.inns)).runs, .int (inn t.inns (lnx m.inns)).wickets]
def Lo (L : Rows) : Nat → Nat → Mat → Rows → Rows
 | 0, _, _, out => out
 | k + 1, i, m, out => cond (!((Al i m (evR L i)).2 == 0)) out (Lo L k (i + 1) (Al i m (evR L i)).1 (cond ((evR L i).kind == 4) (out ++ [Ij i m (Al i m (evR L i)).1 (evR L i).ball]) out))
def B1 (r : Rul) (L : Rows) : Mat × Int × Int := cond (!((De r).2 == 0)) (Xd, 0, 1) (DZ L L.length 0 (De r).1)
def CE (r : Rul) (L : Rows) : Rows := cond (!((De r).2 == 0)) [] (Lo L L.length 0 (De r).1 [])
theorem X0 (L : Rows) : ∀ k i m, ((DZ L k i m).2.1 == -1) = true → (DZ L k i m).2.2 = 0
 | 0, _, _, _ => rfl
 | k + 1, i, m, h => by
  unfold DZ at h ⊢
  cases hq : (Al i m (evR L i)).2 == 0 with
  | false =>
   rw [hq] at h
   have := beq_iff_eq.1 (show ((i : Int) == -1) = true from h)
   omega
  | true => rw [hq] at h; exact X0 L k (i + 1) _ h
theorem YC (L : Rows) : ∀ k i m out, (Lo L k i m out).length ≤ out.length + k
 | 0, _, _, out => Nat.le_refl _
 | k + 1, i, m, out => by
  unfold Lo
  cases (Al i m (evR L i)).2 == 0 with
  | false => show out.length ≤ _; omega
  | true =>
   have := YC L k (i + 1) (Al i m (evR L i)).1 (cond ((evR L i).kind == 4) (out ++ [Ij i m (Al i m (evR L i)).1 (evR L i).ball]) out)
   refine Nat.le_trans this ?_
   cases (evR L i).kind == 4 with
   | false => show out.length + k ≤ _; omega
   | true => show (out ++ [_]).length + k ≤ _; rw [List.length_append]; simp; omega
theorem Qv {r : Rul} {m : Mat} (h : StepOk r m) (i : Int) (e : Ev) : StepOk r (Al i m e).1 := by
 unfold Al
 cases iLe 4000 i with
 | true => exact h
 | false => exact aB h e
theorem X2 {m : Mat} {i : Int} {e : Ev} (h : ((Al i m e).2 == 0) = true) : Al i m e = CL m e ∧ iLe 4000 i = false := by
 unfold Al at h ⊢
 cases h4 : iLe 4000 i with
 | true => rw [h4] at h; exact absurd (show ((26 : Int) == 0) = true from h) (by decide)
 | false => exact ⟨rfl, rfl⟩
theorem aP {N : Nat} {m1 m2 m3 m4 m5 m6 m7 m9 m10 m11 m12 m14 m15 m18 m19 m20 m21 m22 : Int} {m8 m16 : Bool} {m0 : ByteArray} {m13 : Rows} {m17 : List Inn} {i : Int} {e0 e1 e2 e3 e5 e6 e7 e8 e9 e10 e11 e13 e14 e15 e16 e18 : Int} {e4 e12 e17 : Bool} (hN : 2097152 < N) (hf : II m17) (hl : m17.length ≤ 1000000) (hs : m0.size ≤ 1048576) (h13 : m13.length ≤ 1048576) : J6 N [.str m0, .int m1, .int m2, .int m3, .int m4, .int m5, .int m6, .int m7, .bool m8, .int m9, .int m10, .int m11, .int m12, .rows m13, .int m14, .int m15, .bool m16, .rows (AY m17), .int m18, .int m19, .int m20, .int m21, .int m22, .int i, .int e0, .int e1, .int e2, .int e3, .bool e4, .int e5, .int e6, .int e7, .int e8, .int e9, .int e10, .int e11, .bool e12, .int e13, .int e14, .int e15, .int e16, .bool e17, .int e18] = some (Qk (Al i (⟨⟨m0, m1, m2, m3, m4, m5, m6, m7, m8, m9, m10, m11, m12, m13⟩, m14, m15, m16, m17, m18, m19, m20, m21, m22⟩ : Mat) (⟨e0, e1, e2, e3, e4, e5, e6, ⟨e7, e8, e9, e10, e11, e12, e13, e14, e15, e16, e17, e18⟩⟩ : Ev))) := by
 show KO (std (FJ N) N) (xOf _) = _
 generalize hres : (some (Qk (Al i (⟨⟨m0, m1, m2, m3, m4, m5, m6, m7, m8, m9, m10, m11, m12, m13⟩, m14, m15, m16, m17, m18, m19, m20, m21, m22⟩ : Mat) (⟨e0, e1, e2, e3, e4, e5, e6, ⟨e7, e8, e9, e10, e11, e12, e13, e14, e15, e16, e17, e18⟩⟩ : Ev))) : Option (List PV)) = RR
 simp only [KO, Pn, std, xOf, PXb, Y3 hN hf hl hs h13]
 subst hres; simp only [Al]
 cases iLe 4000 i <;> rfl
theorem VG {N : Nat} {i : Int} {m1 m2 m3 m4 m5 m6 m7 m9 m10 m11 m12 m14 m15 m18 m19 m20 m21 m22 : Int} {m8 m16 : Bool} {m0 : ByteArray} {m13 : Rows} {m17 : List Inn} {t1 t2 t3 t4 t5 t6 t7 t9 t10 t11 t12 t14 t15 t18 t19 t20 t21 t22 : Int} {t8 t16 : Bool} {t0 : ByteArray} {t13 : Rows} {t17 : List Inn} {d0 d1 d2 d3 d4 d6 d7 d8 d9 d11 : Int} {d5 d10 : Bool} (h1 : iIn (IntKind.i64.wrap ((m17.length : Int) - 1)) (m17.length : Int) = true) (h2 : iIn (IntKind.i64.wrap ((m17.length : Int) - 1)) (t17.length : Int) = true) : G0 N [.int i, .str m0, .int m1, .int m2, .int m3, .int m4, .int m5, .int m6, .int m7, .bool m8, .int m9, .int m10, .int m11, .int m12, .rows m13, .int m14, .int m15, .bool m16, .rows (AY m17), .int m18, .int m19, .int m20, .int m21, .int m22, .str t0, .int t1, .int t2, .int t3, .int t4, .int t5, .int t6, .int t7, .bool t8, .int t9, .int t10, .int t11, .int t12, .rows t13, .int t14, .int t15, .bool t16, .rows (AY t17), .int t18, .int t19, .int t20, .int t21, .int t22, .int d0, .int d1, .int d2, .int d3, .int d4, .bool d5, .int d6, .int d7, .int d8, .int d9, .bool d10, .int d11] = some (Ij i (⟨⟨m0, m1, m2, m3, m4, m5, m6, m7, m8, m9, m10, m11, m12, m13⟩, m14, m15, m16, m17, m18, m19, m20, m21, m22⟩ : Mat) (⟨⟨t0, t1, t2, t3, t4, t5, t6, t7, t8, t9, t10, t11, t12, t13⟩, t14, t15, t16, t17, t18, t19, t20, t21, t22⟩ : Mat) (⟨d0, d1, d2, d3, d4, d5, d6, d7, d8, d9, d10, d11⟩ : Del)) := by
 show Gw (std (IA N) N) (xOf _) = _
 simp only [Gw, Jk, std, xOf, PXb, PXi, h1, h2, Mr]
 rfl
end Go.Px
end
section
namespace Go.Px
set_option maxRecDepth 100000
def Nx (L : Rows) (i : Nat) (s : Rows × Mat) : List PV ⊕ Rows × Mat := cond (!((Al i s.2 (evR L i)).2 == 0)) (.inl (.int 0 :: .rows s.1 :: .int i :: .int (Al i s.2 (evR L i)).2 :: s.2.ls)) (.inr (cond ((evR L i).kind == 4) (s.1 ++ [Ij i s.2 (Al i s.2 (evR L i)).1 (evR L i).ball]) s.1, (Al i s.2 (evR L i)).1))
def aX (out : Rows) (f : Mat × Int × Int) : List PV := cond (f.2.1 == -1) (.int 1 :: .rows out :: f.1.ls) (.int 0 :: .rows out :: .int f.2.1 :: .int f.2.2 :: f.1.ls)
theorem Wy (L : Rows) : ∀ k i s, QY (Nx L) (fun s => .int 1 :: .rows s.1 :: s.2.ls) k i s = aX (Lo L k i s.2 s.1) (DZ L k i s.2)
 | 0, _, _ => rfl
 | k + 1, i, s => by
  simp only [QY, Nx, DZ, Lo]
  cases (Al i s.2 (evR L i)).2 == 0 with
  | false =>
   simp only [Bool.not_false, cond_true, aX]
   rw [show ((i : Int) == -1) = false from beq_false_of_ne (show (i : Int) ≠ -1 by omega)]
   rfl
  | true => exact Wy L k (i + 1) _
def YY (out : Rows) (f : Mat × Int × Int) : List PV := [.rows out, .str f.1.rules.name, .int f.1.rules.side, .int f.1.rules.innings, .int f.1.rules.overs, .int f.1.rules.balls, .int f.1.rules.quota, .int f.1.rules.wide, .int f.1.rules.noball, .bool f.1.rules.freehit, .int f.1.rules.newball, .int f.1.rules.followon, .int f.1.rules.reviews, .int f.1.rules.outside, .rows f.1.rules.power, .int f.1.stage, .int f.1.first, .bool f.1.follow, .rows (AY f.1.inns), .int f.1.pen1, .int f.1.pen2, .int f.1.win, .int f.1.wside, .int f.1.margin, .int f.2.1, .int f.2.2]
theorem fG {m t : Mat} {e : Ev} (hl : m.inns.length ≤ 5) (h : ((CL m e).2 == 0) = true) (hk : (e.kind == 4) = true) (ht : (CL m e).1 = t) : iIn (IntKind.i64.wrap ((m.inns.length : Int) - 1)) (m.inns.length : Int) = true ∧ iIn (IntKind.i64.wrap ((m.inns.length : Int) - 1)) (t.inns.length : Int) = true := by
 obtain ⟨_, h2, _, h4⟩ := Q6 h hk
 have := P0 h2 (show m.inns.length ≤ 1000000 by omega)
 rw [← ht, h4, List.length_set]
 exact ⟨this, this⟩
set_option maxHeartbeats 8000000 in
theorem aq {N : Nat} {r1 r2 r3 r4 r5 r6 r7 r9 r10 r11 r12 : Int} {r8 : Bool} {r0 : ByteArray} {r13 : Rows} {L : Rows} (hN : 2097152 < N) (hs : r0.size ≤ 1048576) (h13 : r13.length ≤ 1048576) (hL : L.length ≤ 1048576) : F0 N [.str r0, .int r1, .int r2, .int r3, .int r4, .int r5, .int r6, .int r7, .bool r8, .int r9, .int r10, .int r11, .int r12, .rows r13, .rows L] = some (YY (CE (⟨r0, r1, r2, r3, r4, r5, r6, r7, r8, r9, r10, r11, r12, r13⟩ : Rul) L) (B1 (⟨r0, r1, r2, r3, r4, r5, r6, r7, r8, r9, r10, r11, r12, r13⟩ : Rul) L)) := by
  show KB (std (C1 N) N) (xOf _) = _
  generalize hres : (some (YY (CE (⟨r0, r1, r2, r3, r4, r5, r6, r7, r8, r9, r10, r11, r12, r13⟩ : Rul) L) (B1 (⟨r0, r1, r2, r3, r4, r5, r6, r7, r8, r9, r10, r11, r12, r13⟩ : Rul) L)) : Option (List PV)) = RR
  simp only [KB, Q5, Ko, HO, std, xOf, PXb, ZL hN hs h13]
  subst hres; simp only [CE, B1]
  have nk := Vz (⟨r0, r1, r2, r3, r4, r5, r6, r7, r8, r9, r10, r11, r12, r13⟩ : Rul)
  generalize De (⟨r0, r1, r2, r3, r4, r5, r6, r7, r8, r9, r10, r11, r12, r13⟩ : Rul) = X at nk
  obtain ⟨⟨⟨m0, m1, m2, m3, m4, m5, m6, m7, m8, m9, m10, m11, m12, m13⟩, m14, m15, m16, m17, m18, m19, m20, m21, m22⟩, l⟩ := X
  simp only at nk
  simp only [PXb, PXc, PXk, Nat.reduceAdd]
  cases hl : l == 0
  case false => rfl
  have ok := nk hl
  simp only [PXb]
  refine Ae (MJ (St := Rows × Mat) (len := L.length) (enc := fun i s => [.rows s.1, .int (i : Int), .str s.2.rules.name, .int s.2.rules.side, .int s.2.rules.innings, .int s.2.rules.overs, .int s.2.rules.balls, .int s.2.rules.quota, .int s.2.rules.wide, .int s.2.rules.noball, .bool s.2.rules.freehit, .int s.2.rules.newball, .int s.2.rules.followon, .int s.2.rules.reviews, .int s.2.rules.outside, .rows s.2.rules.power, .int s.2.stage, .int s.2.first, .bool s.2.follow, .rows (AY s.2.inns), .int s.2.pen1, .int s.2.pen2, .int s.2.win, .int s.2.wside, .int s.2.margin])
    (body := Nx L) (fin := fun s => .int 1 :: .rows s.1 :: s.2.ls) (fun i s => StepOk (⟨r0, r1, r2, r3, r4, r5, r6, r7, r8, r9, r10, r11, r12, r13⟩ : Rul) s.2 ∧ s.1.length ≤ i) ?_ ?_ L.length 0 ([], (⟨⟨m0, m1, m2, m3, m4, m5, m6, m7, m8, m9, m10, m11, m12, m13⟩, m14, m15, m16, m17, m18, m19, m20, m21, m22⟩ : Mat)) N (by omega) (by omega) ⟨ok, Nat.zero_le _⟩) ?_
  · intro m self _
    simp only [PXb, PXc, PXn, AK, Bp]
    rfl
  · intro i s self hi ok
    obtain ⟨out, ⟨⟨a0, a1, a2, a3, a4, a5, a6, a7, a8, a9, a10, a11, a12, a13⟩, a14, a15, a16, a17, a18, a19, a20, a21, a22⟩⟩ := s
    obtain ⟨ok, hout⟩ := ok
    have o1 := ok.rules
    have o2 := ok.fit
    have o3 := ok.len
    simp only at o1 o2 o3 hout
    cases o1
    have kp := Qv ok (i : Int) (evR L i)
    have acc := X2 (m := (⟨⟨r0, r1, r2, r3, r4, r5, r6, r7, r8, r9, r10, r11, r12, r13⟩, a14, a15, a16, a17, a18, a19, a20, a21, a22⟩ : Mat)) (i := (i : Int)) (e := evR L i)
    refine ⟨?_, ?_⟩
    · simp only [PXb, PXc, PXn, AK, As (show i ≤ 1099511627776 by omega), BL hi, Ap hi, Ko, aP hN o2 (show a17.length ≤ 1000000 by omega) hs h13, CK, S6, Nat.reduceAdd, PXk, PXc, fV, List.length_append, List.length_cons, List.length_nil, HO]
      unfold Nx
      simp only
      generalize hT : Al (i : Int) (⟨⟨r0, r1, r2, r3, r4, r5, r6, r7, r8, r9, r10, r11, r12, r13⟩, a14, a15, a16, a17, a18, a19, a20, a21, a22⟩ : Mat) (evR L i) = T at acc
      obtain ⟨⟨⟨b0, b1, b2, b3, b4, b5, b6, b7, b8, b9, b10, b11, b12, b13⟩, b14, b15, b16, b17, b18, b19, b20, b21, b22⟩, l2⟩ := T
      simp only at acc
      simp only
      cases hl2 : l2 == 0
      case false => rfl
      have hk0 : (evR L i).kind = atI L i 0 := rfl
      rw [hk0]
      simp only [PXb]
      cases hk : atI L i 0 == 4
      case false => rfl
      have ha := (acc hl2).1
      have hd := fG (m := (⟨⟨r0, r1, r2, r3, r4, r5, r6, r7, r8, r9, r10, r11, r12, r13⟩, a14, a15, a16, a17, a18, a19, a20, a21, a22⟩ : Mat)) (e := evR L i) o3 (by rw [← ha]; exact hl2) hk (congrArg Prod.fst ha).symm
      simp only at hd
      have h216 : iSm ((out.length + 1 : Nat) : Int) 216 = true := Is (by omega) (by omega)
      simp only [PXb, PXc, VG hd.1 hd.2, h216]
      rfl
    · intro s' h
      unfold Nx at h
      simp only at h
      cases hq : (Al (i : Int) (⟨⟨r0, r1, r2, r3, r4, r5, r6, r7, r8, r9, r10, r11, r12, r13⟩, a14, a15, a16, a17, a18, a19, a20, a21, a22⟩ : Mat) (evR L i)).2 == 0 with
      | false => rw [hq] at h; cases h
      | true =>
        rw [hq] at h; cases h
        refine ⟨kp, ?_⟩
        cases (evR L i).kind == 4 with
        | false => show out.length ≤ _; omega
        | true => show (out ++ [_]).length ≤ _; rw [List.length_append]; simp; omega
  · rw [Wy]
    have he := X0 L L.length 0 (⟨⟨m0, m1, m2, m3, m4, m5, m6, m7, m8, m9, m10, m11, m12, m13⟩, m14, m15, m16, m17, m18, m19, m20, m21, m22⟩ : Mat)
    simp only
    generalize Lo L L.length 0 (⟨⟨m0, m1, m2, m3, m4, m5, m6, m7, m8, m9, m10, m11, m12, m13⟩, m14, m15, m16, m17, m18, m19, m20, m21, m22⟩ : Mat) [] = out
    generalize DZ L L.length 0 (⟨⟨m0, m1, m2, m3, m4, m5, m6, m7, m8, m9, m10, m11, m12, m13⟩, m14, m15, m16, m17, m18, m19, m20, m21, m22⟩ : Mat) = f at he
    obtain ⟨⟨⟨a0, a1, a2, a3, a4, a5, a6, a7, a8, a9, a10, a11, a12, a13⟩, a14, a15, a16, a17, a18, a19, a20, a21, a22⟩, b, l⟩ := f
    simp only at he
    unfold aX
    cases hb : b == -1 with
    | false => rfl
    | true =>
      rw [he hb, beq_iff_eq.1 hb]
      rfl
end Go.Px
end
section
namespace Go.Px
set_option maxRecDepth 100000
def Fk (L : Rows) (n : Int) : Rows := (L.take n.toNat).drop (0 : Int).toNat
theorem bk (L : Rows) (n : Int) : (Fk L n).length ≤ L.length := by
 unfold Fk
 rw [List.length_drop, List.length_take]
 omega
theorem XK {N : Nat} {r1 r2 r3 r4 r5 r6 r7 r9 r10 r11 r12 : Int} {r8 : Bool} {r0 : ByteArray} {r13 : Rows}  : GO N [.str r0, .int r1, .int r2, .int r3, .int r4, .int r5, .int r6, .int r7, .bool r8, .int r9, .int r10, .int r11, .int r12, .rows r13] = some (LX (⟨r0, r1, r2, r3, r4, r5, r6, r7, r8, r9, r10, r11, r12, r13⟩ : Rul)).ls := by
 show GK (std (Ec N) N) (xOf _) = _
 simp only [GK, std, xOf, PXb, PXc, PXn, PXm, Nat.reduceAdd, Int.reduceBEq, Z5 (show (0 : Int) ≤ 20 by omega), Z5 (show (0 : Int) ≤ 10 by omega)]
 rfl
theorem bV {N : Nat} {L : Rows}  : ML N [.rows L] = some [.rows (cut L 70)] := by
 show L8 (std (IM N) N) (xOf _) = _
 simp only [L8, std, xOf, PXb, PXc, PXn, PXm, Nat.reduceAdd, Int.reduceBEq, Z5 (show (0 : Int) ≤ 70 by omega)]
 rfl
structure LogOk (m : Mat) : Prop where
 fit : II m.inns
 len : m.inns.length ≤ 5
 name : m.rules.name.size ≤ 1048576
 power : m.rules.power.length ≤ 1048576
theorem dW : LogOk Xd := ⟨fun i hi => absurd hi (Nat.not_lt_zero i), Nat.zero_le _, Nat.zero_le _, Nat.zero_le _⟩
theorem Zh {r : Rul} (L : Rows) : ∀ k i m, StepOk r m → StepOk r (DZ L k i m).1
 | 0, _, _, h => h
 | k + 1, i, m, h => by
  unfold DZ
  cases (Al i m (evR L i)).2 == 0 with
  | false => exact h
  | true => exact Zh L k (i + 1) _ (Qv h _ _)
theorem cD {r : Rul} (L : Rows) (hs : r.name.size ≤ 1048576) (hp : r.power.length ≤ 1048576) : LogOk (B1 r L).1 := by
 unfold B1
 cases h : (De r).2 == 0 with
 | false => exact dW
 | true =>
  have := Zh L L.length 0 _ (Vz r h)
  exact ⟨this.fit, this.len, by show (DZ _ _ _ _).1.rules.name.size ≤ _; rw [this.rules]; exact hs, by show (DZ _ _ _ _).1.rules.power.length ≤ _; rw [this.rules]; exact hp⟩
end Go.Px
end
section
namespace Go.Px
set_option maxRecDepth 100000
def acc (L : Rows) : Nat → Nat → Mat → Prop
 | 0, _, _ => True
 | k + 1, i, m => ((Al i m (evR L i)).2 == 0) = true ∧ acc L k (i + 1) (Al i m (evR L i)).1
def stM (L : Rows) : Nat → Nat → Mat → Mat
 | 0, _, m => m
 | k + 1, i, m => stM L k (i + 1) (Al i m (evR L i)).1
def Lq (L : Rows) : Nat → Nat → Mat → Rows → Rows
 | 0, _, _, out => out
 | k + 1, i, m, out => Lq L k (i + 1) (Al i m (evR L i)).1 (cond ((evR L i).kind == 4) (out ++ [Ij i m (Al i m (evR L i)).1 (evR L i).ball]) out)
theorem X3 (L : Rows) : ∀ K i m, ∃ k, k ≤ K ∧ acc L k i m ∧ (∀ out, Lo L K i m out = Lq L k i m out) ∧
    ((k = K ∧ DZ L K i m = (stM L k i m, -1, 0)) ∨ (k < K ∧ ((Al ((i + k : Nat) : Int) (stM L k i m) (evR L (i + k))).2 == 0) = false ∧ DZ L K i m = (stM L k i m, ((i + k : Nat) : Int), (Al ((i + k : Nat) : Int) (stM L k i m) (evR L (i + k))).2)))
  | 0, i, m => ⟨0, Nat.le_refl _, trivial, fun _ => rfl, Or.inl ⟨rfl, rfl⟩⟩
  | K + 1, i, m => by
    cases hq : (Al i m (evR L i)).2 == 0 with
    | false =>
      refine ⟨0, Nat.zero_le _, trivial, fun out => ?_, Or.inr ⟨Nat.succ_pos _, hq, ?_⟩⟩
      · simp only [Lo, hq, Bool.not_false, cond_true]; rfl
      · simp only [DZ, hq, Bool.not_false, cond_true]; rfl
    | true =>
      obtain ⟨k, h1, h2, h3, h4⟩ := X3 L K (i + 1) (Al i m (evR L i)).1
      refine ⟨k + 1, Nat.succ_le_succ h1, ⟨hq, h2⟩, fun out => ?_, ?_⟩
      · simp only [Lo, hq, Bool.not_true, cond_false]
        exact h3 _
      · have e : DZ L (K + 1) i m = DZ L K (i + 1) (Al i m (evR L i)).1 := by simp only [DZ, hq, Bool.not_true, cond_false]
        rw [e, show i + (k + 1) = i + 1 + k by omega]
        rcases h4 with ⟨h5, h6⟩ | ⟨h5, h6⟩
        · exact Or.inl ⟨by omega, h6⟩
        · exact Or.inr ⟨by omega, h6⟩
theorem cw {L : Rows} {n : Int} {i : Nat} (h : (i : Int) < n) : evR (Fk L n) i = evR L i := by
 have e : ∀ j, AF (Fk L n) i j = AF L i j := fun j => by
  unfold AF Au Fk
  rw [List.getD_eq_getElem?_getD, List.getD_eq_getElem?_getD, List.getElem?_drop, List.getElem?_take, if_pos (by omega)]
  simp
 unfold evR atI atB
 simp only [e]
theorem Z2 {L : Rows} {n : Nat} (h : n ≤ L.length) : (Fk L (n : Int)).length = n := by
 unfold Fk
 rw [List.length_drop, List.length_take]
 omega
end Go.Px
end
section
namespace Go.Px
set_option maxRecDepth 100000
theorem ar (r : Rul) (L : Rows) : (CE r L).length ≤ L.length := by
 unfold CE
 cases (De r).2 == 0 with
 | false => exact Nat.zero_le _
 | true =>
  have := YC L L.length 0 (De r).1 []
  rw [List.length_nil, Nat.zero_add] at this
  exact this
end Go.Px
end
section
namespace Go.Px
set_option maxRecDepth 100000
abbrev wr (n : Int) : Int := IntKind.i64.wrap n
theorem cQ {a b c d : Int} (h1 : wr a = wr b) (h2 : wr c = wr d) : wr (a + c) = wr (b + d) := by
 simp only [wr, Ck] at *
 omega
structure Nums (q : Int) (s t : Inn) (a b c : Int) : Prop where
 runs : wr (t.runs - t.pens) = wr (s.runs - s.pens + a)
 rw : wr s.runs = s.runs → wr t.runs = t.runs
 balls : EZ q t.complete t.inover = wr (s.complete * q + s.inover + b)
 wk : wr t.wickets = wr (s.wickets + c)
theorem Ky (q c i : Int) : EZ q c i = wr (c * q + i) := by
 unfold EZ
 simp only [wr, Ck]
 omega
theorem Nums.of {q : Int} {s t : Inn} (h1 : t.runs = s.runs) (h2 : t.pens = s.pens) (h3 : t.complete = s.complete) (h4 : t.inover = s.inover) (h5 : t.wickets = s.wickets) : Nums q s t 0 0 0 :=
 ⟨by rw [h1, h2, Int.add_zero], fun h => by rw [h1]; exact h, by rw [h3, h4, Ky, Int.add_zero], by rw [h5, Int.add_zero]⟩
theorem Nums.out {q : Int} {s t : Inn} (h1 : t.runs = s.runs) (h2 : t.pens = s.pens) (h3 : t.complete = s.complete) (h4 : t.inover = s.inover) (h5 : t.wickets = wr (s.wickets + 1)) : Nums q s t 0 0 1 :=
 ⟨by rw [h1, h2, Int.add_zero], fun h => by rw [h1]; exact h, by rw [h3, h4, Ky, Int.add_zero], by rw [h5]; exact Ft _⟩
theorem Nums.pen (q : Int) (s : Inn) : Nums q s (Qg s) 0 0 0 :=
 ⟨by show wr (wr (s.runs + 5) - wr (s.pens + 5)) = _; simp only [wr, Ck]; omega, fun _ => Ft _, by show EZ q s.complete s.inover = _; rw [Ky, Int.add_zero], by show wr s.wickets = _; rw [Int.add_zero]⟩
def Kp (q : Int) (s : Inn) (w : Int) (x : Inn × Int) : Prop := (x.2 == 0) = true → Nums q s x.1 0 0 w
theorem K_c {q : Int} {s : Inn} {w : Int} (b : Bool) (x y : Inn × Int) (hx : Kp q s w x) (hy : Kp q s w y) : Kp q s w (cond b x y) := by cases b <;> assumption
theorem Yy {q : Int} {s t : Inn} {w n : Int} (h : (n == 0) = false) : Kp q s w (t, n) := fun e => by rw [h] at e; cases e
theorem E0 {q : Int} {s t : Inn} (h : Nums q s t 0 0 0) (n : Int) : Kp q s 0 (t, n) := fun _ => h
def Cd (e : Ev) : Int := cond ((e.kind == 5 && e.yes) || (e.kind == 6 && !e.yes)) 1 0
theorem eB (q : Int) (s : Inn) (p : Int) : Kp q s 0 (MI s p) := by
 unfold MI
 exact K_c _ _ _ (fun _ => Nums.of rfl rfl rfl rfl rfl) (fun _ => Nums.of rfl rfl rfl rfl rfl)
theorem bo (q : Int) (s : Inn) (p : Int) : Kp q s 1 (Ha s p) := by
 unfold Ha
 cases h : Mj s p == 0 with
 | false => exact Yy h
 | true => exact fun _ => Nums.out rfl rfl rfl rfl rfl
theorem cX (q : Int) (s : Inn) (p : Int) (b : Bool) : Kp q s (cond b 0 1) (JX s p b) := by
 unfold JX
 refine K_c _ _ _ (Yy rfl) (K_c _ _ _ (Yy rfl) (K_c _ _ _ (Yy rfl) (K_c _ _ _ (Yy rfl) ?_)))
 cases b
 ·exact fun _ => Nums.out rfl rfl rfl rfl rfl
 ·exact fun _ => Nums.of rfl rfl rfl rfl rfl
theorem bR (q : Int) (r : Rul) (s : Inn) (e : Ev) (hk : (e.kind == 4) = false) : Kp q s (Cd e) (Bv r s e) := by
 have z : ∀ {t : Inn} {n : Int}, Nums q s t 0 0 0 → Cd e = 0 → Kp q s (Cd e) (t, n) := fun h h0 => by rw [h0]; exact E0 h _
 have self := Nums.of (q := q) (s := s) (t := s) rfl rfl rfl rfl rfl
 unfold Bv
 rw [hk]
 cases h5 : e.kind == 5 with
 | true =>
  have h5' := beq_iff_eq.1 h5
  have ho : Cd e = cond e.yes 1 0 := by unfold Cd; rw [h5']; cases e.yes <;> rfl
  rw [ho, h5']
  cases e.yes
  ·exact eB q s _
  ·exact bo q s _
 | false =>
  cases h6 : e.kind == 6 with
  | true =>
   have h6' := beq_iff_eq.1 h6
   have ho : Cd e = cond e.yes 0 1 := by unfold Cd; rw [h6']; cases e.yes <;> rfl
   rw [ho, h6']
   exact cX q s _ _
  | false =>
   have ho : Cd e = 0 := by unfold Cd; rw [h5, h6]; rfl
   rw [ho]
   simp only [cond_false]
   refine K_c _ _ _ ?_ (K_c _ _ _ ?_ (K_c _ _ _ ?_ (K_c _ _ _ ?_ (K_c _ _ _ ?_ (K_c _ _ _ ?_ (K_c _ _ _ ?_ (K_c _ _ _ ?_ (K_c _ _ _ ?_ ?_))))))))
   ·unfold Qu
    exact K_c _ _ _ (E0 self _) (K_c _ _ _ (E0 self _) (K_c _ _ _ (E0 self _) (fun _ => Nums.of rfl rfl rfl rfl rfl)))
   ·unfold Qd
    cases Kx r s e.player == 0
    ·exact E0 self _
    ·exact fun _ => Nums.of rfl rfl rfl rfl rfl
   ·unfold JU
    exact K_c _ _ _ (E0 self _) (fun _ => Nums.of rfl rfl rfl rfl rfl)
   ·unfold LQ
    exact K_c _ _ _ (E0 self _) (K_c _ _ _ (E0 self _) (K_c _ _ _ (E0 self _) (fun _ => Nums.of rfl rfl rfl rfl rfl)))
   ·unfold OH
    exact K_c _ _ _ (E0 self _) (K_c _ _ _ (E0 self _) (fun _ => Nums.of rfl rfl rfl rfl rfl))
   ·unfold JH
    exact K_c _ _ _ (E0 self _) (fun _ => Nums.of rfl rfl rfl rfl rfl)
   ·unfold JK
    exact K_c _ _ _ (E0 self _) (K_c _ _ _ (E0 self _) (fun _ => Nums.of rfl rfl rfl rfl rfl))
   ·unfold JC
    exact K_c _ _ _ (E0 self _) (K_c _ _ _ (E0 (Nums.pen q s) _) (fun _ => Nums.of rfl rfl rfl rfl rfl))
   ·unfold Jg
    exact K_c _ _ _ (E0 self _) (K_c _ _ _ (fun _ => Nums.of rfl rfl rfl rfl rfl) (E0 self _))
   ·unfold K2
    exact K_c _ _ _ (E0 self _) (K_c _ _ _ (E0 self _) (K_c _ _ _ (E0 self _) (fun _ => Nums.of rfl rfl rfl rfl rfl)))
theorem Nums.fin {q : Int} {s t : Inn} {a b c : Int} (h : Nums q s t a b c) (r : Rul) (x : Bool) : Nums q s (Hs r t x) a b c := ⟨h.runs, h.rw, h.balls, h.wk⟩
def LC (r : Rul) (e : Ev) : Int := cond (e.kind == 4) (HI (AE r e.ball)) 0
def H4 (r : Rul) (e : Ev) : Int := cond (e.kind == 4 && (AE r e.ball).counts) 1 0
def K9 (e : Ev) : Int := cond (e.kind == 4) (cond (e.ball.how == 0) 0 1) (Cd e)
theorem Wz {r : Rul} {s : Inn} {e : Ev} (h : ((Aj r s e).2 == 0) = true) : Nums r.balls s (Aj r s e).1 (LC r e) (H4 r e) (K9 e) := by
 obtain ⟨hv, he, hn, hw, hp, hs⟩ := Zr h
 cases hk : e.kind == 4 with
 | false =>
  have h0 := bR r.balls r s e hk hp
  have e1 : LC r e = 0 := by unfold LC; rw [hk]; rfl
  have e2 : H4 r e = 0 := by unfold H4; rw [hk]; rfl
  have e3 : K9 e = Cd e := by unfold K9; rw [hk]; rfl
  rw [hs, e1, e2, e3]
  exact h0.fin r _
 | true =>
  obtain ⟨g1, g2, g3, g4, g5, g6, g7, g8, g9, w1⟩ := bP hk h
  have e1 : LC r e = HI (AE r e.ball) := by unfold LC; rw [hk]; rfl
  have e2 : H4 r e = cond (AE r e.ball).counts 1 0 := by unfold H4; rw [hk]; rfl
  have e3 : K9 e = cond (e.ball.how == 0) 0 1 := by unfold K9; rw [hk]; rfl
  rw [e1, e2, e3]
  have b1 := Ky r.balls (Aj r s e).1.complete (Aj r s e).1.inover
  have b2 := Ky r.balls s.complete s.inover
  refine ⟨?_, fun _ => w1, ?_, ?_⟩
  ·rw [g6, ← g1]
   simp only [wr, Ck]
   omega
  ·rw [b1] at g7 ⊢
   rw [b2] at g7
   rw [← g7]
   generalize (Aj r s e).1.complete * r.balls = x
   generalize s.complete * r.balls = y
   simp only [wr, Ck]
   omega
  ·rw [← g8]
   simp only [wr, Ck]
   omega
structure SumInv (q : Int) (xs : List Inn) (R B : Nat → Int) (O : Int) : Prop where
 runs : ∀ i, i < xs.length → wr ((inn xs i).runs - (inn xs i).pens) = wr (R i)
 rw : ∀ i, i < xs.length → wr (inn xs i).runs = (inn xs i).runs
 balls : ∀ i, i < xs.length → EZ q (inn xs i).complete (inn xs i).inover = wr (B i)
 zero : ∀ i, xs.length ≤ i → R i = 0 ∧ B i = 0
 wk : wr (xs.map Inn.wickets).sum = wr O
theorem Zz : ∀ (l : List Inn) (k : Nat) (t : Inn), k < l.length → ((l.set k t).map Inn.wickets).sum = (l.map Inn.wickets).sum - (inn l k).wickets + t.wickets
 | [], k, t, h => absurd h (Nat.not_lt_zero k)
 | x :: l, 0, t, _ => by
  show t.wickets + (l.map Inn.wickets).sum = x.wickets + (l.map Inn.wickets).sum - x.wickets + t.wickets
  omega
 | x :: l, k + 1, t, h => by
  have ih := Zz l k t (Nat.lt_of_succ_lt_succ h)
  show x.wickets + ((l.set k t).map Inn.wickets).sum = x.wickets + (l.map Inn.wickets).sum - (inn l k).wickets + t.wickets
  omega
theorem Zi {q : Int} {xs : List Inn} {R B : Nat → Int} {O : Int} (h : SumInv q xs R B O) {k : Nat} (hk : k < xs.length) {t : Inn} {a b c : Int} (n : Nums q (inn xs k) t a b c) :
    SumInv q (xs.set k t) (fun i => R i + cond (i == k) a 0) (fun i => B i + cond (i == k) b 0) (O + c) := by
  have hne : ∀ i, ¬ k = i → (i == k) = false := fun i hi => beq_false_of_ne (fun e => hi e.symm)
  refine ⟨fun i hi => ?_, fun i hi => ?_, fun i hi => ?_, fun i hi => ?_, ?_⟩
  · rw [List.length_set] at hi
    rw [Sz xs k t i hi]
    by_cases e : k = i
    · subst e
      rw [if_pos rfl, beq_self_eq_true, n.runs]
      exact cQ (h.runs k hk) rfl
    · rw [if_neg e, hne i e]
      exact (h.runs i hi).trans (by rw [cond_false, Int.add_zero])
  · rw [List.length_set] at hi
    rw [Sz xs k t i hi]
    by_cases e : k = i
    · subst e
      rw [if_pos rfl]
      exact n.rw (h.rw k hk)
    · rw [if_neg e]
      exact h.rw i hi
  · rw [List.length_set] at hi
    rw [Sz xs k t i hi]
    by_cases e : k = i
    · subst e
      rw [if_pos rfl, beq_self_eq_true, n.balls]
      have hb := h.balls k hk
      rw [Ky] at hb
      exact cQ hb rfl
    · rw [if_neg e, hne i e]
      exact (h.balls i hi).trans (by rw [cond_false, Int.add_zero])
  · rw [List.length_set] at hi
    obtain ⟨z1, z2⟩ := h.zero i hi
    rw [hne i (by omega)]
    exact ⟨by rw [z1]; rfl, by rw [z2]; rfl⟩
  · rw [Zz xs k t hk]
    have h1 := n.wk
    have h2 := h.wk
    simp only [wr, Ck] at h1 h2 ⊢
    omega
theorem eC {q : Int} {xs : List Inn} {R B : Nat → Int} {O : Int} (h : SumInv q xs R B O) {t : Inn} (h1 : wr (t.runs - t.pens) = 0) (h2 : wr t.runs = t.runs) (h3 : EZ q t.complete t.inover = 0) (h4 : wr t.wickets = 0) : SumInv q (xs ++ [t]) R B O := by
 refine ⟨fun i hi => ?_, fun i hi => ?_, fun i hi => ?_, fun i hi => ?_, ?_⟩
 ·rw [List.length_append] at hi
  rw [TD xs t i hi]
  by_cases e : i < xs.length
  ·rw [if_pos e]; exact h.runs i e
  ·rw [if_neg e, (h.zero i (by omega)).1]; exact h1
 ·rw [List.length_append] at hi
  rw [TD xs t i hi]
  by_cases e : i < xs.length
  ·rw [if_pos e]; exact h.rw i e
  ·rw [if_neg e]; exact h2
 ·rw [List.length_append] at hi
  rw [TD xs t i hi]
  by_cases e : i < xs.length
  ·rw [if_pos e]; exact h.balls i e
  ·rw [if_neg e, (h.zero i (by omega)).2]; exact h3
 ·rw [List.length_append] at hi
  exact h.zero i (Nat.le_trans (Nat.le_add_right _ _) hi)
 ·rw [List.map_append, List.sum_append]
  have := h.wk
  simp only [List.map_cons, List.map_nil, List.sum_cons, List.sum_nil]
  simp only [wr, Ck] at this h4 ⊢
  omega
theorem SumInv.congr {q : Int} {xs : List Inn} {R B R' B' : Nat → Int} {O O' : Int} (h : SumInv q xs R B O) (h1 : ∀ i, R i = R' i) (h2 : ∀ i, B i = B' i) (h3 : O = O') : SumInv q xs R' B' O' :=
 ⟨fun i hi => (h.runs i hi).trans (by rw [h1]), h.rw, fun i hi => (h.balls i hi).trans (by rw [h2]), fun i hi => by rw [← h1, ← h2]; exact h.zero i hi, h.wk.trans (by rw [h3])⟩
theorem Y1 {q : Int} {xs : List Inn} {R B : Nat → Int} {O : Int} (h : SumInv q xs R B O) {k : Nat} (hk : k < xs.length) {t : Inn} (n : Nums q (inn xs k) t 0 0 0) : SumInv q (xs.set k t) R B O :=
  (Zi h hk n).congr (fun i => by cases i == k <;> exact Int.add_zero _) (fun i => by cases i == k <;> exact Int.add_zero _) (Int.add_zero _)
theorem aC {r : Rul} {a b c : Int} (h : ((BK r a b c).2 == 0) = true) : (BK r a b c).1.runs - (BK r a b c).1.pens + 0 = 0 ∧ wr (BK r a b c).1.runs = (BK r a b c).1.runs ∧ (BK r a b c).1.complete = 0 ∧ (BK r a b c).1.inover = 0 ∧ (BK r a b c).1.wickets = 0 ∧ True := by
 unfold BK at h ⊢
 cases h1 : Bh r == 0 with
 | false => exact ⟨rfl, rfl, rfl, rfl, rfl, trivial⟩
 | true =>
  rw [h1] at h
  cases h2 : (!btw a 1 2 || !btw b 0 1000000 || !btw c 0 1000000) with
  | true => exact ⟨rfl, rfl, rfl, rfl, rfl, trivial⟩
  | false =>
   rw [Bool.or_eq_false_iff, Bool.not_eq_false'] at h2
   have := QA.1 h2.2
   refine ⟨?_, ?_, rfl, rfl, rfl, trivial⟩
   ·show c - c + 0 = 0
    omega
   ·show wr c = c
    exact DP (by omega) (by omega)
theorem dg {xs : List Inn} {sd : Int} {k : Nat} : ∀ n, Iu xs sd n = some k → k < n
 | 0, h => by cases h
 | n + 1, h => by
  unfold Iu at h
  cases hq : (inn xs n).side == sd with
  | true => rw [hq] at h; cases h; exact Nat.lt_succ_self _
  | false => rw [hq] at h; exact Nat.lt_succ_of_lt (dg n h)
theorem cd {m : Mat} {e : Ev} {R B : Nat → Int} {O : Int} (h : SumInv m.rules.balls m.inns R B O) (ha : ((CL m e).2 == 0) = true) :
    SumInv m.rules.balls (CL m e).1.inns (fun i => R i + cond (i == lnx m.inns) (LC m.rules e) 0) (fun i => B i + cond (i == lnx m.inns) (H4 m.rules e) 0) (O + K9 e) := by
  obtain ⟨hv, he, h5, hp, hs⟩ := UE ha
  have ok := Uu hv
  rw [hs, (NY _).2]
  have zz : ∀ {xs : List Inn}, (e.kind == 4) = false → Cd e = 0 → SumInv m.rules.balls xs R B O → SumInv m.rules.balls xs (fun i => R i + cond (i == lnx m.inns) (LC m.rules e) 0) (fun i => B i + cond (i == lnx m.inns) (H4 m.rules e) 0) (O + K9 e) := by
    intro xs hk ho hx
    have e1 : LC m.rules e = 0 := by unfold LC; rw [hk]; rfl
    have e2 : H4 m.rules e = 0 := by unfold H4; rw [hk]; rfl
    have e3 : K9 e = 0 := by unfold K9; rw [hk]; exact ho
    rw [e1, e2, e3]
    exact hx.congr (fun i => by cases i == lnx m.inns <;> exact (Int.add_zero _).symm) (fun i => by cases i == lnx m.inns <;> exact (Int.add_zero _).symm) (Int.add_zero _).symm
  have kz : ∀ n : Int, (e.kind == n) = true → (n == 4) = false → (n == 5) = false → (n == 6) = false → (e.kind == 4) = false ∧ Cd e = 0 := by
    intro n hn a b c
    rw [beq_iff_eq] at hn
    subst hn
    exact ⟨a, by unfold Cd; rw [b, c]; rfl⟩
  unfold F7 at hp ⊢
  cases k1 : e.kind == 1 with
  | true =>
    obtain ⟨z1, z2⟩ := kz 1 k1 rfl rfl rfl
    refine zz z1 z2 ?_
    cases m.stage == 1 <;> exact h
  | false =>
    rw [k1] at hp
    cases k2 : e.kind == 2 with
    | true =>
      obtain ⟨z1, z2⟩ := kz 2 k2 rfl rfl rfl
      refine zz z1 z2 ?_
      rw [k2] at hp
      cases m.stage == 2 with
      | false => exact h
      | true =>
        simp only [Bool.not_true, cond_false, cond_true] at hp ⊢
        unfold Sx at hp ⊢
        cases hb : (BK m.rules (Cj m (m.inns.length : Int)) (FP m (Cj m (m.inns.length : Int))) (cond (Cj m (m.inns.length : Int) == 2) m.pen2 m.pen1)).2 == 0 with
        | false => simp only [hb, Bool.not_false, cond_true]; exact h
        | true =>
          simp only [hb, Bool.not_true, cond_false, cond_true] at hp ⊢
          cases ht : (Aj m.rules (BK m.rules (Cj m (m.inns.length : Int)) (FP m (Cj m (m.inns.length : Int))) (cond (Cj m (m.inns.length : Int) == 2) m.pen2 m.pen1)).1 e).2 == 0 with
          | false => simp only [Bool.not_false, cond_true]; exact h
          | true =>
            simp only [Bool.not_true, cond_false]
            have n := Wz ht
            obtain ⟨b1, b2, b3, b4, b5, b6⟩ := aC hb
            have e1 : LC m.rules e = 0 := by unfold LC; rw [z1]; rfl
            have e2 : H4 m.rules e = 0 := by unfold H4; rw [z1]; rfl
            have e3 : K9 e = 0 := by unfold K9; rw [z1]; exact z2
            rw [e1, e2, e3] at n
            refine eC h ?_ (n.rw b2) ?_ ?_
            · rw [n.runs, b1]; rfl
            · rw [n.balls, b3, b4, Int.zero_mul]; rfl
            · rw [n.wk, b5]; rfl
    | false =>
      rw [k2] at hp
      cases k12 : e.kind == 12 with
      | true =>
        obtain ⟨z1, z2⟩ := kz 12 k12 rfl rfl rfl
        refine zz z1 z2 ?_
        cases m.stage == 4 with
        | false => exact h
        | true => cases e.side == m.first <;> exact h
      | false =>
        rw [k12] at hp
        cases k16 : e.kind == 16 with
        | true =>
          obtain ⟨z1, z2⟩ := kz 16 k16 rfl rfl rfl
          refine zz z1 z2 ?_
          show SumInv _ (cond (m.stage == 3) (m.inns.set (lnx m.inns) { A7 m with ending := 5 }) m.inns) _ _ _
          cases h3 : m.stage == 3 with
          | false => exact h
          | true => exact Y1 h (Pp (ok.begun h3) (by have := ok.len; omega)) (Nums.of rfl rfl rfl rfl rfl)
        | false =>
          rw [k16] at hp
          simp only [cond_false] at hp ⊢
          cases h3 : m.stage == 3 with
          | false => rw [h3] at hp; exact absurd (show ((1 : Int) == 0) = true from hp) (by decide)
          | true =>
            rw [h3] at hp
            simp only [Bool.not_true, cond_false] at hp ⊢
            have hk := Pp (ok.begun h3) (by have := ok.len; omega)
            unfold TC at hp ⊢
            cases hq : (Aj m.rules (A7 m) e).2 == 0 with
            | false => simp only [hq, Bool.not_false, cond_true] at hp; exact absurd hp Bool.false_ne_true
            | true =>
              simp only [hq, Bool.not_true, cond_false]
              have i1 := Zi h hk (Wz hq)
              cases (e.kind == 13 && !(e.side == (Aj m.rules (A7 m) e).1.side)) with
              | false => exact i1
              | true =>
                simp only [cond_true]
                unfold Gd
                cases ha : Iu (m.inns.set (lnx m.inns) (Aj m.rules (A7 m) e).1) e.side (m.inns.set (lnx m.inns) (Aj m.rules (A7 m) e).1).length with
                | none => exact i1
                | some k => exact Y1 i1 (dg _ ha) (Nums.pen _ _)
def rT (L : Rows) (j : Nat) : Int := HI ⟨atI L j 20, atI L j 21, atI L j 22, atI L j 23, atI L j 24, atI L j 25, atB L j 26, atB L j 27, atB L j 28, atB L j 29⟩
def rS (L : Rows) (i : Nat) : Nat → Int
 | 0 => 0
 | n + 1 => rS L i n + cond (atI L n 1 == (i : Int)) (rT L n) 0
def bS (L : Rows) (i : Nat) : Nat → Int
 | 0 => 0
 | n + 1 => bS L i n + cond (atI L n 1 == (i : Int) && atB L n 26) 1 0
def hS (L : Rows) : Nat → Int
 | 0 => 0
 | n + 1 => hS L n + cond (atI L n 14 == 0) 0 1
def aN (L : Rows) : Nat → Nat → Int
 | 0, _ => 0
 | k + 1, i => Cd (evR L i) + aN L k (i + 1)
theorem cU {L : Rows} {x : List PV} {j c : Nat} (h : j < L.length) : AF (L ++ [x]) j c = AF L j c := by
 unfold AF Au
 rw [List.getD_eq_getElem?_getD, List.getD_eq_getElem?_getD, List.getElem?_append_left h]
theorem bz {L : Rows} {x : List PV} {c : Nat} : AF (L ++ [x]) L.length c = AF [x] 0 c := by
 unfold AF Au
 rw [List.getD_eq_getElem?_getD, List.getD_eq_getElem?_getD, List.getElem?_append_right (Nat.le_refl _), Nat.sub_self]
theorem X1 {L : Rows} {x : List PV} (i : Nat) : ∀ n, n ≤ L.length → rS (L ++ [x]) i n = rS L i n ∧ bS (L ++ [x]) i n = bS L i n ∧ hS (L ++ [x]) n = hS L n
 | 0, _ => ⟨rfl, rfl, rfl⟩
 | n + 1, h => by
  obtain ⟨h1, h2, h3⟩ := X1 (L := L) (x := x) i n (by omega)
  have e : ∀ c, AF (L ++ [x]) n c = AF L n c := fun c => cU (by omega)
  refine ⟨?_, ?_, ?_⟩ <;> simp only [rS, bS, hS, rT, atI, atB, e, h1, h2, h3]
theorem UV (L : Rows) (x : List PV) (i : Nat) : rS (L ++ [x]) i (L ++ [x]).length = rS L i L.length + cond (atI [x] 0 1 == (i : Int)) (rT [x] 0) 0 ∧ bS (L ++ [x]) i (L ++ [x]).length = bS L i L.length + cond (atI [x] 0 1 == (i : Int) && atB [x] 0 26) 1 0 ∧ hS (L ++ [x]) (L ++ [x]).length = hS L L.length + cond (atI [x] 0 14 == 0) 0 1 := by
 have hl : (L ++ [x]).length = L.length + 1 := by simp
 obtain ⟨h1, h2, h3⟩ := X1 (x := x) i L.length (Nat.le_refl _)
 rw [hl]
 have e : ∀ c, AF (L ++ [x]) L.length c = AF [x] 0 c := fun c => bz
 refine ⟨?_, ?_, ?_⟩ <;> simp only [rS, bS, hS, rT, atI, atB, e, h1, h2, h3]
theorem Yj (L : Rows) (r : Rul) : ∀ k i m out O, acc L k i m → StepOk r m → SumInv r.balls m.inns (fun j => rS out j out.length) (fun j => bS out j out.length) (hS out out.length + O) →
    SumInv r.balls (stM L k i m).inns (fun j => rS (Lq L k i m out) j (Lq L k i m out).length) (fun j => bS (Lq L k i m out) j (Lq L k i m out).length) (hS (Lq L k i m out) (Lq L k i m out).length + (O + aN L k i))
  | 0, i, m, out, O, _, _, h => h.congr (fun _ => rfl) (fun _ => rfl) (by show _ = _ + (O + 0); rw [Int.add_zero]; rfl)
  | k + 1, i, m, out, O, ha, ok, h => by
    have hq := (X2 ha.1).1
    have hs : ((CL m (evR L i)).2 == 0) = true := by rw [← hq]; exact ha.1
    have h1 := cd (by rw [ok.rules]; exact h) hs
    have kp := Qv ok (i : Int) (evR L i)
    have ih := Yj L r k (i + 1) (Al i m (evR L i)).1 (cond ((evR L i).kind == 4) (out ++ [Ij i m (Al i m (evR L i)).1 (evR L i).ball]) out) (O + Cd (evR L i)) ha.2 kp ?_
    · exact ih.congr (fun _ => rfl) (fun _ => rfl) (by show _ = _ + (O + (Cd (evR L i) + aN L k (i + 1))); rw [Int.add_assoc]; rfl)
    · rw [hq]
      rw [ok.rules] at h1
      cases hk : (evR L i).kind == 4 with
      | false =>
        refine h1.congr (fun j => ?_) (fun j => ?_) ?_
        · unfold LC; rw [hk]; cases j == lnx m.inns <;> exact Int.add_zero _
        · unfold H4; rw [hk]; cases j == lnx m.inns <;> exact Int.add_zero _
        · unfold K9; rw [hk]; exact Int.add_assoc _ _ _
      | true =>
        obtain ⟨g1, g2, g3, g4⟩ := Q6 hs hk
        have hx : (IntKind.i64.wrap ((m.inns.length : Int) - 1)) = (lnx m.inns : Int) := by
          have := ok.len
          rw [beq_eq_false_iff_ne] at g2
          unfold lnx
          rw [DP (by omega) (by omega)]
          omega
        have hj : ∀ j : Nat, ((lnx m.inns : Int) == (j : Int)) = (j == lnx m.inns) := fun j => by
          by_cases e : j = lnx m.inns
          · rw [e, beq_self_eq_true, beq_self_eq_true]
          · rw [beq_false_of_ne e, beq_false_of_ne (by omega)]
        have a1 : atI [Ij i m (CL m (evR L i)).1 (evR L i).ball] 0 1 = (lnx m.inns : Int) := hx
        have a2 : rT [Ij i m (CL m (evR L i)).1 (evR L i).ball] 0 = HI (AE m.rules (evR L i).ball) := rfl
        have a3 : atB [Ij i m (CL m (evR L i)).1 (evR L i).ball] 0 26 = (AE m.rules (evR L i).ball).counts := rfl
        have a4 : atI [Ij i m (CL m (evR L i)).1 (evR L i).ball] 0 14 = (evR L i).ball.how := rfl
        have ho : Cd (evR L i) = 0 := by unfold Cd; rw [beq_iff_eq.1 hk]; rfl
        simp only [cond_true]
        refine h1.congr (fun j => ?_) (fun j => ?_) ?_
        · rw [(UV out _ j).1, a1, a2, hj, ok.rules]
          unfold LC
          rw [hk]
          rfl
        · rw [(UV out _ j).2.1, a1, a3, hj, ok.rules]
          unfold H4
          rw [hk, Bool.true_and]
          cases j == lnx m.inns <;> rfl
        · rw [(UV out _ 0).2.2, a4, ho, Int.add_zero]
          unfold K9
          rw [hk]
          show hS out out.length + O + _ = _
          generalize (cond ((evR L i).ball.how == 0) 0 1 : Int) = z
          show _ + z = _
          omega
end Go.Px
end
