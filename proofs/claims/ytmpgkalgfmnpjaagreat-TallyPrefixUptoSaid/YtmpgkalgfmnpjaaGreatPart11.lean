/- Part 11. -/
import Derived.Test.YtmpgkalgfmnpjaaGreatPart07
import Derived.Test.YtmpgkalgfmnpjaaGreatPart10
set_option linter.unusedVariables false
set_option linter.unusedSimpArgs false
section
namespace Go.Px
def Ac (xs : List Inn) : Rows := xs.map Inn.ls
def dI : Inn := ⟨0, 0, 0, 0, 0, 0, 0, 0, 0, 0, 0, 0, 0, 0, [], 0, [], [], false, [], false, 0, 0, 0, [], 0, 0, 0⟩
def inn (xs : List Inn) (i : Nat) : Inn := xs.getD i dI
structure Mat where
 rules : Rul
 stage : Int
 first : Int
 follow : Bool
 inns : List Inn
 pen1 : Int
 pen2 : Int
 win : Int
 wside : Int
 margin : Int
def Mat.ls (m : Mat) : List PV := [.str m.rules.name, .int m.rules.side, .int m.rules.innings, .int m.rules.overs, .int m.rules.balls, .int m.rules.quota, .int m.rules.wide, .int m.rules.noball, .bool m.rules.freehit, .int m.rules.newball, .int m.rules.followon, .int m.rules.reviews, .int m.rules.outside, .rows m.rules.power, .int m.stage, .int m.first, .bool m.follow, .rows (Ac m.inns), .int m.pen1, .int m.pen2, .int m.win, .int m.wside, .int m.margin]
def Sv (x : Mat × Int) : List PV := [.str x.1.rules.name, .int x.1.rules.side, .int x.1.rules.innings, .int x.1.rules.overs, .int x.1.rules.balls, .int x.1.rules.quota, .int x.1.rules.wide, .int x.1.rules.noball, .bool x.1.rules.freehit, .int x.1.rules.newball, .int x.1.rules.followon, .int x.1.rules.reviews, .int x.1.rules.outside, .rows x.1.rules.power, .int x.1.stage, .int x.1.first, .bool x.1.follow, .rows (Ac x.1.inns), .int x.1.pen1, .int x.1.pen2, .int x.1.win, .int x.1.wside, .int x.1.margin, .int x.2]
theorem Yi (xs : List Inn) (i : Nat) : Af (Ac xs) i = (match xs[i]? with | some s => s.ls | none => []) := by
 unfold Af Ac
 rw [List.getD_eq_getElem?_getD, List.getElem?_map]
 cases xs[i]? <;> rfl
theorem LT (xs : List Inn) (i : Nat) : inn xs i = (match xs[i]? with | some s => s | none => dI) := by
 unfold inn
 rw [List.getD_eq_getElem?_getD]
 cases xs[i]? <;> rfl
theorem Wa (xs : List Inn) : (Ac xs).length = xs.length := List.length_map _
theorem PXi : (∀ xs : List Inn, (Ac xs).length = xs.length) ∧ (∀ (xs : List Inn) (i : Nat), pvI (AE (Ac xs) i 0) = (inn xs i).side) ∧ (∀ (xs : List Inn) (i : Nat), pvI (AE (Ac xs) i 1) = (inn xs i).target) ∧ (∀ (xs : List Inn) (i : Nat), pvI (AE (Ac xs) i 2) = (inn xs i).overs) ∧ (∀ (xs : List Inn) (i : Nat), pvI (AE (Ac xs) i 3) = (inn xs i).runs) ∧
    (∀ (xs : List Inn) (i : Nat), pvI (AE (Ac xs) i 4) = (inn xs i).wickets) ∧ (∀ (xs : List Inn) (i : Nat), pvI (AE (Ac xs) i 5) = (inn xs i).wides) ∧ (∀ (xs : List Inn) (i : Nat), pvI (AE (Ac xs) i 6) = (inn xs i).noballs) ∧ (∀ (xs : List Inn) (i : Nat), pvI (AE (Ac xs) i 7) = (inn xs i).byes) ∧ (∀ (xs : List Inn) (i : Nat), pvI (AE (Ac xs) i 8) = (inn xs i).legbyes) ∧
    (∀ (xs : List Inn) (i : Nat), pvI (AE (Ac xs) i 9) = (inn xs i).pens) ∧ (∀ (xs : List Inn) (i : Nat), pvI (AE (Ac xs) i 10) = (inn xs i).complete) ∧ (∀ (xs : List Inn) (i : Nat), pvI (AE (Ac xs) i 11) = (inn xs i).inover) ∧ (∀ (xs : List Inn) (i : Nat), pvI (AE (Ac xs) i 12) = (inn xs i).striker) ∧ (∀ (xs : List Inn) (i : Nat), pvI (AE (Ac xs) i 13) = (inn xs i).other) ∧
    (∀ (xs : List Inn) (i : Nat), pvL (AE (Ac xs) i 14) = (inn xs i).batters) ∧ (∀ (xs : List Inn) (i : Nat), pvI (AE (Ac xs) i 15) = (inn xs i).bowler) ∧ (∀ (xs : List Inn) (i : Nat), pvL (AE (Ac xs) i 16) = (inn xs i).bowlers) ∧ (∀ (xs : List Inn) (i : Nat), pvL (AE (Ac xs) i 17) = (inn xs i).before) ∧ (∀ (xs : List Inn) (i : Nat), pvB (AE (Ac xs) i 18) = (inn xs i).fresh) ∧
    (∀ (xs : List Inn) (i : Nat), pvL (AE (Ac xs) i 19) = (inn xs i).bowled) ∧ (∀ (xs : List Inn) (i : Nat), pvB (AE (Ac xs) i 20) = (inn xs i).freehit) ∧ (∀ (xs : List Inn) (i : Nat), pvI (AE (Ac xs) i 21) = (inn xs i).ballage) ∧ (∀ (xs : List Inn) (i : Nat), pvI (AE (Ac xs) i 22) = (inn xs i).keeper) ∧ (∀ (xs : List Inn) (i : Nat), pvI (AE (Ac xs) i 23) = (inn xs i).outside) ∧
    (∀ (xs : List Inn) (i : Nat), pvL (AE (Ac xs) i 24) = (inn xs i).subs) ∧ (∀ (xs : List Inn) (i : Nat), pvI (AE (Ac xs) i 25) = (inn xs i).rev1) ∧ (∀ (xs : List Inn) (i : Nat), pvI (AE (Ac xs) i 26) = (inn xs i).rev2) ∧ (∀ (xs : List Inn) (i : Nat), pvI (AE (Ac xs) i 27) = (inn xs i).ending) := by
  refine ⟨Wa, ?_, ?_, ?_, ?_, ?_, ?_, ?_, ?_, ?_, ?_, ?_, ?_, ?_, ?_, ?_, ?_, ?_, ?_, ?_, ?_, ?_, ?_, ?_, ?_, ?_, ?_, ?_, ?_⟩
  all_goals (intro xs i; rw [LT]; unfold AE; rw [Yi]; cases xs[i]? <;> rfl)
theorem Mat.eta (m : Mat) : Mat.mk m.rules m.stage m.first m.follow m.inns m.pen1 m.pen2 m.win m.wside m.margin = m := rfl
theorem PXk : (∀ m : Mat, m.ls = [.str m.rules.name, .int m.rules.side, .int m.rules.innings, .int m.rules.overs, .int m.rules.balls, .int m.rules.quota, .int m.rules.wide, .int m.rules.noball, .bool m.rules.freehit, .int m.rules.newball, .int m.rules.followon, .int m.rules.reviews, .int m.rules.outside, .rows m.rules.power, .int m.stage, .int m.first, .bool m.follow, .rows (Ac m.inns), .int m.pen1, .int m.pen2, .int m.win, .int m.wside, .int m.margin]) ∧
    (∀ x : Mat × Int, Sv x = [.str x.1.rules.name, .int x.1.rules.side, .int x.1.rules.innings, .int x.1.rules.overs, .int x.1.rules.balls, .int x.1.rules.quota, .int x.1.rules.wide, .int x.1.rules.noball, .bool x.1.rules.freehit, .int x.1.rules.newball, .int x.1.rules.followon, .int x.1.rules.reviews, .int x.1.rules.outside, .rows x.1.rules.power, .int x.1.stage, .int x.1.first, .bool x.1.follow, .rows (Ac x.1.inns), .int x.1.pen1, .int x.1.pen2, .int x.1.win, .int x.1.wside, .int x.1.margin, .int x.2]) ∧
    (∀ m : Mat, Mat.mk m.rules m.stage m.first m.follow m.inns m.pen1 m.pen2 m.win m.wside m.margin = m) := ⟨fun _ => rfl, fun _ => rfl, fun _ => rfl⟩
theorem ej : ∀ (ps r pre : List PV), r.length = ps.length → A3 (pre ++ r) pre.length ps = pre ++ ps
 | [], r, pre, h => by
  have : r = [] := List.eq_nil_of_length_eq_zero h
  subst this
  rfl
 | p :: ps, [], pre, h => by cases h
 | p :: ps, a :: r, pre, h => by
  have ih := ej ps r (pre ++ [p]) (by simpa using h)
  simp only [List.length_append, List.length_cons, List.length_nil, List.append_assoc, List.cons_append, List.nil_append] at ih
  unfold A3
  rw [List.set_append_right _ _ (Nat.le_refl _), Nat.sub_self]
  exact ih
theorem ll (a s : Inn) : A3 a.ls 0 s.ls = s.ls := ej s.ls a.ls [] rfl
theorem kY (a : Inn) (e : Int) : A3 a.ls 27 [.int e] = Inn.ls { a with ending := e } := by
 show a.ls.set 27 (.int e) = _
 rfl
theorem lj {xs : List Inn} {i : Nat} (h : i < xs.length) (s : Inn) : (Ac xs).set i (A3 (Af (Ac xs) i) 0 s.ls) = Ac (xs.set i s) := by
 have e : Af (Ac xs) i = (xs[i]).ls := by rw [Yi, List.getElem?_eq_getElem h]
 rw [e, ll]
 exact List.map_set.symm
theorem ki {xs : List Inn} {i : Nat} (h : i < xs.length) (e : Int) : (Ac xs).set i (A3 (Af (Ac xs) i) 27 [.int e]) = Ac (xs.set i { inn xs i with ending := e }) := by
 have e1 : Af (Ac xs) i = (inn xs i).ls := by rw [Yi, LT, List.getElem?_eq_getElem h]
 rw [e1, kY]
 exact List.map_set.symm
theorem ko (xs : List Inn) (s : Inn) : Ac xs ++ [s.ls] = Ac (xs ++ [s]) := by
 show List.map Inn.ls xs ++ List.map Inn.ls [s] = List.map Inn.ls (xs ++ [s])
 exact List.map_append.symm
theorem kt (xs : List Inn) (i : Nat) (s : Inn) : (Ac xs).set i (A3 (Af (Ac xs) i) 0 s.ls) = Ac (xs.set i s) := by
 by_cases h : i < xs.length
 ·exact lj h s
 ·rw [List.set_eq_of_length_le (by rw [Wa]; omega), List.set_eq_of_length_le (by omega)]
theorem dh (xs : List Inn) (i : Nat) (e : Int) : (Ac xs).set i (A3 (Af (Ac xs) i) 27 [.int e]) = Ac (xs.set i { inn xs i with ending := e }) := by
 by_cases h : i < xs.length
 ·exact ki h e
 ·rw [List.set_eq_of_length_le (by rw [Wa]; omega), List.set_eq_of_length_le (by omega)]
theorem PXr : (∀ (xs : List Inn) (x0 x1 x2 x3 x4 x5 x6 x7 x8 x9 x10 x11 x12 x13 x15 x21 x22 x23 x25 x26 x27 : Int) (x18 x20 : Bool) (x14 x16 x17 x19 x24 : Rows), Ac xs ++ [([.int x0, .int x1, .int x2, .int x3, .int x4, .int x5, .int x6, .int x7, .int x8, .int x9, .int x10, .int x11, .int x12, .int x13, .rows x14, .int x15, .rows x16, .rows x17, .bool x18, .rows x19, .bool x20, .int x21, .int x22, .int x23, .rows x24, .int x25, .int x26, .int x27] : List PV)] = Ac (xs ++ [⟨x0, x1, x2, x3, x4, x5, x6, x7, x8, x9, x10, x11, x12, x13, x14, x15, x16, x17, x18, x19, x20, x21, x22, x23, x24, x25, x26, x27⟩])) ∧ (∀ (xs : List Inn) (i : Nat) (x0 x1 x2 x3 x4 x5 x6 x7 x8 x9 x10 x11 x12 x13 x15 x21 x22 x23 x25 x26 x27 : Int) (x18 x20 : Bool) (x14 x16 x17 x19 x24 : Rows), (Ac xs).set i (A3 (Af (Ac xs) i) 0 [.int x0, .int x1, .int x2, .int x3, .int x4, .int x5, .int x6, .int x7, .int x8, .int x9, .int x10, .int x11, .int x12, .int x13, .rows x14, .int x15, .rows x16, .rows x17, .bool x18, .rows x19, .bool x20, .int x21, .int x22, .int x23, .rows x24, .int x25, .int x26, .int x27]) = Ac (xs.set i ⟨x0, x1, x2, x3, x4, x5, x6, x7, x8, x9, x10, x11, x12, x13, x14, x15, x16, x17, x18, x19, x20, x21, x22, x23, x24, x25, x26, x27⟩)) ∧
    (∀ (xs : List Inn) (i : Nat) (e : Int), (Ac xs).set i (A3 (Af (Ac xs) i) 27 [.int e]) = Ac (xs.set i { inn xs i with ending := e })) :=
  ⟨fun xs x0 x1 x2 x3 x4 x5 x6 x7 x8 x9 x10 x11 x12 x13 x15 x21 x22 x23 x25 x26 x27 x18 x20 x14 x16 x17 x19 x24 => ko xs ⟨x0, x1, x2, x3, x4, x5, x6, x7, x8, x9, x10, x11, x12, x13, x14, x15, x16, x17, x18, x19, x20, x21, x22, x23, x24, x25, x26, x27⟩, fun xs i x0 x1 x2 x3 x4 x5 x6 x7 x8 x9 x10 x11 x12 x13 x15 x21 x22 x23 x25 x26 x27 x18 x20 x14 x16 x17 x19 x24 => kt xs i ⟨x0, x1, x2, x3, x4, x5, x6, x7, x8, x9, x10, x11, x12, x13, x14, x15, x16, x17, x18, x19, x20, x21, x22, x23, x24, x25, x26, x27⟩, dh⟩
end Go.Px
end
section
namespace Go.Px
set_option maxRecDepth 100000
def BD (n : Int) : Int := IntKind.i64.wrap (3 - n)
theorem HL {N : Nat} {n : Int}  : BJ N [.int n] = some [.int (BD n)] := by
 show J7 (std (Qy N) N) (xOf _) = _
 simp only [J7, std, xOf, PXb, PXc, PXn, PXm, Nat.reduceAdd, Int.reduceBEq, BD]
def Co (m : Mat) (i : Int) : Int := cond (cond (m.follow && iLe 2 i) (i == 2) (i.tmod 2 == 1)) (BD m.first) m.first
theorem N5 {N : Nat} {m1 m2 m3 m4 m5 m6 m7 m9 m10 m11 m12 m14 m15 m18 m19 m20 m21 m22 : Int} {m8 m16 : Bool} {m0 : ByteArray} {m13 : Rows} {m17 : List Inn} {i : Int}  : C2 N [.str m0, .int m1, .int m2, .int m3, .int m4, .int m5, .int m6, .int m7, .bool m8, .int m9, .int m10, .int m11, .int m12, .rows m13, .int m14, .int m15, .bool m16, .rows (Ac m17), .int m18, .int m19, .int m20, .int m21, .int m22, .int i] = some [.int (Co (⟨⟨m0, m1, m2, m3, m4, m5, m6, m7, m8, m9, m10, m11, m12, m13⟩, m14, m15, m16, m17, m18, m19, m20, m21, m22⟩ : Mat) i)] := by
 show J8 (std (L3 N) N) (xOf _) = _
 generalize hres : (some [.int (Co (⟨⟨m0, m1, m2, m3, m4, m5, m6, m7, m8, m9, m10, m11, m12, m13⟩, m14, m15, m16, m17, m18, m19, m20, m21, m22⟩ : Mat) i)] : Option (List PV)) = RR
 simp only [J8, O4, std, xOf, PXb, PXc, PXn, PXm, Nat.reduceAdd, Int.reduceBEq, HL]
 subst hres; simp only [Co]
def OC (xs : List Inn) (side : Int) : Nat → Int
 | 0 => 0
 | i + 1 => cond ((inn xs i).side == side) (IntKind.i64.wrap (OC xs side i + (inn xs i).runs)) (OC xs side i)
def B6 (m : Mat) (side : Int) : Int := OC m.inns side m.inns.length
theorem Ny {N : Nat} {m1 m2 m3 m4 m5 m6 m7 m9 m10 m11 m12 m14 m15 m18 m19 m20 m21 m22 : Int} {m8 m16 : Bool} {m0 : ByteArray} {m13 : Rows} {m17 : List Inn} {n : Int} (hN : 2097152 < N) (hl : m17.length ≤ 1048576) : Br N [.str m0, .int m1, .int m2, .int m3, .int m4, .int m5, .int m6, .int m7, .bool m8, .int m9, .int m10, .int m11, .int m12, .rows m13, .int m14, .int m15, .bool m16, .rows (Ac m17), .int m18, .int m19, .int m20, .int m21, .int m22, .int n] = some [.int (B6 (⟨⟨m0, m1, m2, m3, m4, m5, m6, m7, m8, m9, m10, m11, m12, m13⟩, m14, m15, m16, m17, m18, m19, m20, m21, m22⟩ : Mat) n)] := by
 show J5 (std (RF N) N) (xOf _) = _
 generalize hres : (some [.int (B6 (⟨⟨m0, m1, m2, m3, m4, m5, m6, m7, m8, m9, m10, m11, m12, m13⟩, m14, m15, m16, m17, m18, m19, m20, m21, m22⟩ : Mat) n)] : Option (List PV)) = RR
 simp only [J5, std, xOf, PXb, PXi]
 subst hres; simp only [B6]
 refine AZ (Cq (len := m17.length) (fun i => [.int (OC m17 n i), .int (i : Int)]) [.int (OC m17 n m17.length)] ?_ ?_ N (by omega)) rfl
 ·intro self
  simp only [PXb, PXc, PXn, AG, BM]
 ·intro i self hi
  simp only [PXb, PXc, AG, Ar (show i ≤ 1099511627776 by omega), A0 hi, Ab hi, PXi, OC]
  cases (inn m17 i).side == n <;> rfl
def GK (m : Mat) (side : Int) : Int :=
 cond (iLt (IntKind.i64.wrap ((m.inns.length : Int) + 1)) (IntKind.i64.wrap (2 * m.rules.innings))) 0 (IntKind.i64.wrap (IntKind.i64.wrap (B6 m (BD side) - B6 m side) + 1))
theorem SO {N : Nat} {m1 m2 m3 m4 m5 m6 m7 m9 m10 m11 m12 m14 m15 m18 m19 m20 m21 m22 : Int} {m8 m16 : Bool} {m0 : ByteArray} {m13 : Rows} {m17 : List Inn} {n : Int} (hN : 2097152 < N) (hl : m17.length ≤ 1048576) : GO N [.str m0, .int m1, .int m2, .int m3, .int m4, .int m5, .int m6, .int m7, .bool m8, .int m9, .int m10, .int m11, .int m12, .rows m13, .int m14, .int m15, .bool m16, .rows (Ac m17), .int m18, .int m19, .int m20, .int m21, .int m22, .int n] = some [.int (GK (⟨⟨m0, m1, m2, m3, m4, m5, m6, m7, m8, m9, m10, m11, m12, m13⟩, m14, m15, m16, m17, m18, m19, m20, m21, m22⟩ : Mat) n)] := by
 show I3 (std (Gy N) N) (xOf _) = _
 generalize hres : (some [.int (GK (⟨⟨m0, m1, m2, m3, m4, m5, m6, m7, m8, m9, m10, m11, m12, m13⟩, m14, m15, m16, m17, m18, m19, m20, m21, m22⟩ : Mat) n)] : Option (List PV)) = RR
 simp only [I3, N7, OE, std, xOf, PXb, PXc, PXn, PXm, Nat.reduceAdd, Int.reduceBEq, PXi, HL, Ny hN hl]
 subst hres; simp only [GK]
def YU (stage : Int) (xs : List Inn) (i : Nat) : Bool := !(((inn xs i).ending == 0) == (stage == 3 && ((i : Int) == IntKind.i64.wrap ((xs.length : Int) - 1))))
def Uy (m : Mat) : Bool := !Be (YU m.stage m.inns) m.inns.length 0 && (!(m.stage == 3) || iLt 0 (m.inns.length : Int))
theorem Zu {N : Nat} {m1 m2 m3 m4 m5 m6 m7 m9 m10 m11 m12 m14 m15 m18 m19 m20 m21 m22 : Int} {m8 m16 : Bool} {m0 : ByteArray} {m13 : Rows} {m17 : List Inn} (hN : 2097152 < N) (hl : m17.length ≤ 1048576) : HP N [.str m0, .int m1, .int m2, .int m3, .int m4, .int m5, .int m6, .int m7, .bool m8, .int m9, .int m10, .int m11, .int m12, .rows m13, .int m14, .int m15, .bool m16, .rows (Ac m17), .int m18, .int m19, .int m20, .int m21, .int m22] = some [.bool (Uy (⟨⟨m0, m1, m2, m3, m4, m5, m6, m7, m8, m9, m10, m11, m12, m13⟩, m14, m15, m16, m17, m18, m19, m20, m21, m22⟩ : Mat))] := by
 show J4 (std (Qe N) N) (xOf _) = _
 generalize hres : (some [.bool (Uy (⟨⟨m0, m1, m2, m3, m4, m5, m6, m7, m8, m9, m10, m11, m12, m13⟩, m14, m15, m16, m17, m18, m19, m20, m21, m22⟩ : Mat))] : Option (List PV)) = RR
 simp only [J4, std, xOf, PXb, PXi]
 subst hres; simp only [Uy]
 refine AZ (KS (len := m17.length) (YU m14 m17) [.bool false] ?_ ?_ N (by omega)) ?_
 ·intro self
  simp only [PXb, PXc, PXn, AG, BM]
 ·intro i self hi
  simp only [PXb, PXc, AG, Ar (show i ≤ 1099511627776 by omega), A0 hi, Ab hi, PXi, YU]
 ·cases Be (YU m14 m17) m17.length 0 with
  | true => rfl
  | false => simp only [PXb, PXc, PXn, PXm, Nat.reduceAdd, Int.reduceBEq]
end Go.Px
end
section
namespace Go.Px
set_option maxRecDepth 100000
def JM (xs : List Inn) : Prop := ∀ i, i < xs.length → (inn xs i).Fit
theorem TZ {N : Nat} {r1 r2 r3 r4 r5 r6 r7 r9 r10 r11 r12 : Int} {r8 : Bool} {r0 : ByteArray} {r13 : Rows} (hl : r13.length ≤ 1048576) : C0 N [.str r0, .int r1, .int r2, .int r3, .int r4, .int r5, .int r6, .int r7, .bool r8, .int r9, .int r10, .int r11, .int r12, .rows r13] = some [.str r0, .int r1, .int r2, .int r3, .int r4, .int r5, .int r6, .int r7, .bool r8, .int r9, .int r10, .int r11, .int r12, .rows r13] := by
 show J1 (std (LO N) N) (xOf _) = _
 simp only [J1, KL, std, xOf, PXb, PXc, PXn, PXm, Nat.reduceAdd, Int.reduceBEq, Cu, BW hl (show 24 ≤ 4096 by omega)]
theorem Zr {xs : List Inn} {i : Nat} (h : i < xs.length) : xs.take i ++ [inn xs i] = xs.take (i + 1) := by
 rw [List.take_add_one, LT, List.getElem?_eq_getElem h]
 rfl
theorem Z6 {N : Nat} {m1 m2 m3 m4 m5 m6 m7 m9 m10 m11 m12 m14 m15 m18 m19 m20 m21 m22 : Int} {m8 m16 : Bool} {m0 : ByteArray} {m13 : Rows} {m17 : List Inn} (hf : JM m17) (hN : 2097152 < N) (hl : m17.length ≤ 1000000) (h13 : m13.length ≤ 1048576) : HB N [.str m0, .int m1, .int m2, .int m3, .int m4, .int m5, .int m6, .int m7, .bool m8, .int m9, .int m10, .int m11, .int m12, .rows m13, .int m14, .int m15, .bool m16, .rows (Ac m17), .int m18, .int m19, .int m20, .int m21, .int m22] = some [.str m0, .int m1, .int m2, .int m3, .int m4, .int m5, .int m6, .int m7, .bool m8, .int m9, .int m10, .int m11, .int m12, .rows m13, .int m14, .int m15, .bool m16, .rows (Ac m17), .int m18, .int m19, .int m20, .int m21, .int m22] := by
 show KI (std (H7 N) N) (xOf _) = _
 simp only [KI, PB, Gm, std, xOf, PXb, TZ h13, PXi]
 refine AZ (Cq (len := m17.length) (fun i => [.rows (Ac (m17.take i)), .int (i : Int)]) [.rows (Ac m17)] ?_ ?_ N (by omega)) rfl
 ·intro self
  simp only [PXb, PXc, PXn, AG, BM, List.take_length]
 ·intro i self hi
  have h2 : (m17.take (i + 1)).length ≤ 1048576 := by rw [List.length_take]; omega
  have h3 : iSm ((m17.take (i + 1)).length : Int) 304 = true := G5 (by omega) (by omega)
  simp only [PXb, PXc, AG, Ar (show i ≤ 1099511627776 by omega), A0 hi, Ab hi, PXi, Gm, B7 (hf i hi), PXr, Inn.eta, h3, Zr hi, Nat.reduceAdd]
  rfl
def mh : Rul := ⟨⟨#[]⟩, 0, 0, 0, 0, 0, 0, 0, false, 0, 0, 0, 0, []⟩
def kK : Mat := ⟨mh, 0, 0, false, [], 0, 0, 0, 0, 0⟩
def A9 (r : Rul) : Mat × Int := cond (!(A5 r == 0)) (kK, A5 r) (⟨r, 1, 0, false, [], 0, 0, 0, 0, 0⟩, 0)
theorem eC {N : Nat} {r1 r2 r3 r4 r5 r6 r7 r9 r10 r11 r12 : Int} {r8 : Bool} {r0 : ByteArray} {r13 : Rows} (hN : 2097152 < N) (hs : r0.size ≤ 1048576) (h13 : r13.length ≤ 1048576) : M9 N [.str r0, .int r1, .int r2, .int r3, .int r4, .int r5, .int r6, .int r7, .bool r8, .int r9, .int r10, .int r11, .int r12, .rows r13] = some (Sv (A9 (⟨r0, r1, r2, r3, r4, r5, r6, r7, r8, r9, r10, r11, r12, r13⟩ : Rul))) := by
 show NJ (std (Ju N) N) (xOf _) = _
 generalize hres : (some (Sv (A9 (⟨r0, r1, r2, r3, r4, r5, r6, r7, r8, r9, r10, r11, r12, r13⟩ : Rul))) : Option (List PV)) = RR
 simp only [NJ, QR, QM, std, xOf, PXb, PXc, PXn, PXm, Nat.reduceAdd, Int.reduceBEq, C4 hN hs, TZ h13]
 subst hres; simp only [A9]
 cases A5 (⟨r0, r1, r2, r3, r4, r5, r6, r7, r8, r9, r10, r11, r12, r13⟩ : Rul) == 0 <;> rfl
def Ya (m : Mat) : Bool := (iLt m.pen1 0 || iLt 1000000 m.pen1) || (iLt m.pen2 0 || iLt 1000000 m.pen2)
def Uc (m : Mat) (i : Nat) : Bool := !Ge m.rules (inn m.inns i) || !((inn m.inns i).side == Co m (i : Int))
def aK (m : Mat) : Bool :=
  let n : Int := m.inns.length
  let most := IntKind.i64.wrap (2 * m.rules.innings)
  A5 m.rules == 0 && (!(iLt m.stage 1) && (!(iLt 5 m.stage) && (!Ya m && (!(iLt m.first 0 || iLt 2 m.first || iLt most n) && (!(m.first == 0 && (iLt 0 n || (!(m.stage == 1) && !(m.stage == 5)))) &&
    (!(m.stage == 1 && !(m.first == 0)) && (!(m.stage == 2 && n == most) && (!(m.stage == 4 && (!(m.rules.innings == 2) || !(n == 2))) && !(m.follow && (!(m.rules.innings == 2) || iLt n 2))))))))))
def Ff (m : Mat) : Bool := aK m && (!Be (Uc m) m.inns.length 0 && Uy m)
set_option maxHeartbeats 4000000 in
theorem TU {N : Nat} {m1 m2 m3 m4 m5 m6 m7 m9 m10 m11 m12 m14 m15 m18 m19 m20 m21 m22 : Int} {m8 m16 : Bool} {m0 : ByteArray} {m13 : Rows} {m17 : List Inn} (hf : JM m17) (hN : 2097152 < N) (hl : m17.length ≤ 1000000) (hs : m0.size ≤ 1048576) : C3 N [.str m0, .int m1, .int m2, .int m3, .int m4, .int m5, .int m6, .int m7, .bool m8, .int m9, .int m10, .int m11, .int m12, .rows m13, .int m14, .int m15, .bool m16, .rows (Ac m17), .int m18, .int m19, .int m20, .int m21, .int m22] = some [.bool (Ff (⟨⟨m0, m1, m2, m3, m4, m5, m6, m7, m8, m9, m10, m11, m12, m13⟩, m14, m15, m16, m17, m18, m19, m20, m21, m22⟩ : Mat))] := by
 show J6 (std (Dm N) N) (xOf _) = _
 generalize hres : (some [.bool (Ff (⟨⟨m0, m1, m2, m3, m4, m5, m6, m7, m8, m9, m10, m11, m12, m13⟩, m14, m15, m16, m17, m18, m19, m20, m21, m22⟩ : Mat))] : Option (List PV)) = RR
 simp only [J6, Ov, Gj, H9, Hp, std, xOf, PXb, C4 hN hs, PXi]
 subst hres; simp only [Ff, aK]
 cases hc : A5 (⟨⟨m0, m1, m2, m3, m4, m5, m6, m7, m8, m9, m10, m11, m12, m13⟩, m14, m15, m16, m17, m18, m19, m20, m21, m22⟩ : Mat).rules == 0 <;> (try rfl)
 cases h1 : iLt m14 1 <;> (try rfl)
 cases h5 : iLt 5 m14 <;> (try rfl)
 simp only [PXb]
 refine AZ (KS (len := 2) (fun i => iLt (cond ((i : Int) == 1) m19 m18) 0 || iLt 1000000 (cond ((i : Int) == 1) m19 m18)) [.bool false] ?_ ?_ N (by omega)) ?_
 ·intro self
  rfl
 ·intro i self hi
  simp only [PXb, Ar (show i ≤ 1099511627776 by omega), show iLt (i : Int) 2 = true from A0 (len := 2) hi, show iIn (i : Int) 2 = true from Ab (len := 2) hi]
 ·have hp : Be (fun i => iLt (cond ((i : Int) == 1) m19 m18) 0 || iLt 1000000 (cond ((i : Int) == 1) m19 m18)) 2 0 = Ya (⟨⟨m0, m1, m2, m3, m4, m5, m6, m7, m8, m9, m10, m11, m12, m13⟩, m14, m15, m16, m17, m18, m19, m20, m21, m22⟩ : Mat) := by
   simp only [B0, IR, Bool.or_false]
   rfl
  rw [hp]
  cases Ya (⟨⟨m0, m1, m2, m3, m4, m5, m6, m7, m8, m9, m10, m11, m12, m13⟩, m14, m15, m16, m17, m18, m19, m20, m21, m22⟩ : Mat)
  case true => rfl
  simp only [PXb, JY, Int.reduceBEq]
  cases iLt m15 0 <;> try rfl
  cases iLt 2 m15 <;> try rfl
  cases iLt (IntKind.i64.wrap (2 * m2)) (m17.length : Int) <;> try rfl
  cases (m15 == 0 && (iLt 0 (m17.length : Int) || (!(m14 == 1) && !(m14 == 5)))) <;> try rfl
  cases (m14 == 1 && !(m15 == 0)) <;> try rfl
  cases (m14 == 2 && (m17.length : Int) == IntKind.i64.wrap (2 * m2)) <;> try rfl
  cases (m14 == 4 && (!(m2 == 2) || !((m17.length : Int) == 2))) <;> try rfl
  cases (m16 && (!(m2 == 2) || iLt (m17.length : Int) 2)) <;> try rfl
  simp only [PXb]
  refine AZ (KS (len := m17.length) (Uc (⟨⟨m0, m1, m2, m3, m4, m5, m6, m7, m8, m9, m10, m11, m12, m13⟩, m14, m15, m16, m17, m18, m19, m20, m21, m22⟩ : Mat)) [.bool false] ?_ ?_ N (by omega)) ?_
  ·intro self
   simp only [PXb, PXc, PXn, AG, BM]
  ·intro i self hi
   simp only [PXb, PXc, PXn, PXm, Nat.reduceAdd, Int.reduceBEq, Ar (show i ≤ 1099511627776 by omega), A0 hi, Ab hi, PXi, Gj, H9, QV (hf i hi) hN hs, N5, Uc]
   cases Ge (⟨⟨m0, m1, m2, m3, m4, m5, m6, m7, m8, m9, m10, m11, m12, m13⟩, m14, m15, m16, m17, m18, m19, m20, m21, m22⟩ : Mat).rules (inn m17 i) <;> first | rfl | simp only [PXb, PXc, PXn, PXm, Nat.reduceAdd, Int.reduceBEq]
  ·cases Be (Uc (⟨⟨m0, m1, m2, m3, m4, m5, m6, m7, m8, m9, m10, m11, m12, m13⟩, m14, m15, m16, m17, m18, m19, m20, m21, m22⟩ : Mat)) m17.length 0
   case true => rfl
   simp only [PXb, PXc, PXn, PXm, Nat.reduceAdd, Int.reduceBEq, Hp, Zu hN (show m17.length ≤ 1048576 by omega)]
end Go.Px
end
section
namespace Go.Px
set_option maxRecDepth 100000
def lnx (xs : List Inn) : Nat := (IntKind.i64.wrap ((xs.length : Int) - 1)).toNat
def Am (m : Mat) : Inn := inn m.inns (lnx m.inns)
theorem Rw {n : Nat} (h : ((n : Int) == 0) = false) (hl : n ≤ 1000000) : iIn (IntKind.i64.wrap ((n : Int) - 1)) (n : Int) = true := by
 rw [beq_eq_false_iff_ne] at h
 rw [DB (by omega) (by omega)]
 simp only [iIn, decide_eq_true_eq]; omega
theorem Uw {xs : List Inn} (h : ((xs.length : Int) == 0) = false) (hl : xs.length ≤ 1000000) : lnx xs < xs.length := by
 rw [beq_eq_false_iff_ne] at h
 unfold lnx
 rw [DB (by omega) (by omega)]
 omega
def Xq (r : Rul) : Int := cond (r.overs == 0) 5 6
theorem Ii {N : Nat} {r1 r2 r3 r4 r5 r6 r7 r9 r10 r11 r12 : Int} {r8 : Bool} {r0 : ByteArray} {r13 : Rows}  : Bi N [.str r0, .int r1, .int r2, .int r3, .int r4, .int r5, .int r6, .int r7, .bool r8, .int r9, .int r10, .int r11, .int r12, .rows r13] = some [.int (Xq (⟨r0, r1, r2, r3, r4, r5, r6, r7, r8, r9, r10, r11, r12, r13⟩ : Rul))] := by
 show FV (std (Ly N) N) (xOf _) = _
 simp only [FV, std, xOf, PXb, PXc, PXn, PXm, Nat.reduceAdd, Int.reduceBEq, Xq]
def kQ (x : Int × Int × Int) : List PV := [.int x.1, .int x.2.1, .int x.2.2]
def SS (m : Mat) : Int × Int × Int :=
  let n : Int := m.inns.length
  let most := IntKind.i64.wrap (2 * m.rules.innings)
  let x := Am m
  cond (!Ff m || n == 0) (0, 0, 0) (cond (x.ending == 5) (Xq m.rules, 0, 0) (cond (x.ending == 0) (0, 0, 0)
    (cond (n == most && iLe x.target x.runs) (2, x.side, IntKind.i64.wrap (IntKind.i64.wrap (m.rules.side - 1) - x.wickets)) (cond (n == most && x.runs == IntKind.i64.wrap (x.target - 1)) (4, 0, 0)
      (cond (n == most) (1, BD x.side, IntKind.i64.wrap (IntKind.i64.wrap (x.target - 1) - x.runs))
        (cond (n == 3 && iLt (B6 m x.side) (B6 m (BD x.side))) (3, BD x.side, IntKind.i64.wrap (B6 m (BD x.side) - B6 m x.side)) (0, 0, 0)))))))
set_option maxHeartbeats 4000000 in
theorem XK {N : Nat} {m1 m2 m3 m4 m5 m6 m7 m9 m10 m11 m12 m14 m15 m18 m19 m20 m21 m22 : Int} {m8 m16 : Bool} {m0 : ByteArray} {m13 : Rows} {m17 : List Inn} (hf : JM m17) (hN : 2097152 < N) (hl : m17.length ≤ 1000000) (hs : m0.size ≤ 1048576) : FL N [.str m0, .int m1, .int m2, .int m3, .int m4, .int m5, .int m6, .int m7, .bool m8, .int m9, .int m10, .int m11, .int m12, .rows m13, .int m14, .int m15, .bool m16, .rows (Ac m17), .int m18, .int m19, .int m20, .int m21, .int m22] = some (kQ (SS (⟨⟨m0, m1, m2, m3, m4, m5, m6, m7, m8, m9, m10, m11, m12, m13⟩, m14, m15, m16, m17, m18, m19, m20, m21, m22⟩ : Mat))) := by
 show H8 (std (Cz N) N) (xOf _) = _
 generalize hres : (some (kQ (SS (⟨⟨m0, m1, m2, m3, m4, m5, m6, m7, m8, m9, m10, m11, m12, m13⟩, m14, m15, m16, m17, m18, m19, m20, m21, m22⟩ : Mat))) : Option (List PV)) = RR
 simp only [H8, Nn, Nw, Nu, Kb, std, xOf, PXb, PXi, TU hf hN hl hs, HL, Ii, Ny hN (show m17.length ≤ 1048576 by omega)]
 subst hres; simp only [SS, Am, lnx]
 cases hv : Ff (⟨⟨m0, m1, m2, m3, m4, m5, m6, m7, m8, m9, m10, m11, m12, m13⟩, m14, m15, m16, m17, m18, m19, m20, m21, m22⟩ : Mat)
 case false => rfl
 cases h0 : (m17.length : Int) == 0
 case true => rfl
 simp only [PXb, Rw h0 hl]
 generalize inn m17 (IntKind.i64.wrap ((m17.length : Int) - 1)).toNat = x
 cases x.ending == 5
 case true => rfl
 cases x.ending == 0
 case true => rfl
 cases (m17.length : Int) == IntKind.i64.wrap (2 * m2) <;> cases iLe x.target x.runs <;> cases x.runs == IntKind.i64.wrap (x.target - 1) <;> try rfl
 all_goals (cases (m17.length : Int) == 3 <;> try rfl)
 all_goals (simp only [PXb]; cases iLt (B6 (⟨⟨m0, m1, m2, m3, m4, m5, m6, m7, m8, m9, m10, m11, m12, m13⟩, m14, m15, m16, m17, m18, m19, m20, m21, m22⟩ : Mat) x.side) (B6 (⟨⟨m0, m1, m2, m3, m4, m5, m6, m7, m8, m9, m10, m11, m12, m13⟩, m14, m15, m16, m17, m18, m19, m20, m21, m22⟩ : Mat) (BD x.side)) <;> rfl)
theorem cq : ∀ (n k : Nat) (f : Nat → Nat), (∀ i, i < k → 1 ≤ f i ∧ f i ≤ n) → (∀ i j, i < j → j < k → f i ≠ f j) → k ≤ n
 | 0, k, f, h, _ => by
  rcases Nat.eq_zero_or_pos k with e | e
  ·omega
  ·have := h 0 e; omega
 | n + 1, 0, f, _, _ => by omega
 | n + 1, k + 1, f, h, hi => by
  by_cases he : ∃ j, j < k + 1 ∧ f j = n + 1
  ·obtain ⟨j, hj, hfj⟩ := he
   have := cq n k (fun i => if i = j then f k else f i) (fun i hik => by
    show 1 ≤ (if i = j then f k else f i) ∧ (if i = j then f k else f i) ≤ n
    by_cases e : i = j
    ·rw [if_pos e]
     have h1 := h k (by omega)
     have : f k ≠ f j := fun e2 => hi j k (by omega) (by omega) e2.symm
     omega
    ·rw [if_neg e]
     have h1 := h i (by omega)
     have : f i ≠ f j := by
      rcases Nat.lt_or_gt_of_ne e with e2 | e2
      ·exact hi i j e2 hj
      ·exact fun e3 => hi j i e2 (by omega) e3.symm
     omega) (fun a b hab hb => by
    show (if a = j then f k else f a) ≠ (if b = j then f k else f b)
    by_cases e1 : a = j
    ·have e2 : b ≠ j := by omega
     rw [if_pos e1, if_neg e2]
     exact fun e3 => hi b k hb (by omega) e3.symm
    ·rw [if_neg e1]
     by_cases e2 : b = j
     ·rw [if_pos e2]; exact hi a k (by omega) (by omega)
     ·rw [if_neg e2]; exact hi a b hab (by omega))
   omega
  ·have := cq n (k + 1) f (fun i hik => by
    have h1 := h i hik
    have : f i ≠ n + 1 := fun e => he ⟨i, hik, e⟩
    omega) hi
   omega
theorem dA {L : Rows} {n : Int} (h : Jf L n = true) (hn : 0 ≤ n) : (L.length : Int) ≤ n := by
 unfold Jf at h
 rw [Bool.not_eq_true', I5] at h
 have hb : ∀ i, i < L.length → 1 ≤ atI L i 0 ∧ atI L i 0 ≤ n := fun i hi => by
  have := h i (by omega) (by omega)
  unfold PH at this
  rw [Bool.or_eq_false_iff, Bool.not_eq_false', Rp] at this
  exact this.1
 have := cq n.toNat L.length (fun i => (atI L i 0).toNat) (fun i hi => by have := hb i hi; show 1 ≤ (atI L i 0).toNat ∧ (atI L i 0).toNat ≤ n.toNat; omega) (fun i j hij hj => by
  show (atI L i 0).toNat ≠ (atI L j 0).toNat
  have h1 := hb i (by omega)
  have h2 := hb j hj
  have h3 := h j (by omega) (by omega)
  unfold PH at h3
  rw [Bool.or_eq_false_iff] at h3
  have h4 := I5.1 h3.2 i (by omega) (by omega)
  rw [beq_eq_false_iff_ne] at h4
  omega)
 omega
theorem O9 {r : Rul} {s : Inn} (h : Ge r s = true) : s.bowlers.length ≤ 11 ∧ s.before.length ≤ 11 ∧ s.Fit := by
 have ok := NW.1 h
 have hs := kr ok
 have h1 := dA ok.dw (by omega)
 have h2 := dA ok.df (by omega)
 have h3 := ok.lb
 have h4 := ok.ld
 have h5 := ok.lz
 exact ⟨by omega, by omega, by omega, by omega, by omega, by omega, by omega⟩
end Go.Px
end
section
namespace Go.Px
set_option maxRecDepth 100000
def XN (m : Mat) (e : Ev) : Mat × Int :=
  let sd := Co m (m.inns.length : Int)
  let b := CQ m.rules sd (GK m sd) (cond (sd == 2) m.pen2 m.pen1)
  let t := Ak m.rules b.1 e
  cond (!(b.2 == 0)) (m, 1) (cond (!(t.2 == 0)) (m, t.2)
    ({ m with stage := 3, inns := m.inns ++ [t.1], pen1 := cond (sd == 1) 0 m.pen1, pen2 := cond (sd == 2) 0 m.pen2 }, 0))
def L5 (xs : List Inn) (sd : Int) : Nat → Option Nat
 | 0 => none
 | k + 1 => cond ((inn xs k).side == sd) (some k) (L5 xs sd k)
def HN (m : Mat) (sd : Int) : Mat := match L5 m.inns sd m.inns.length with
 | some k => { m with inns := m.inns.set k (OB (inn m.inns k)) }
 | none => { m with pen1 := cond (sd == 1) (IntKind.i64.wrap (m.pen1 + 5)) m.pen1, pen2 := cond (sd == 2) (IntKind.i64.wrap (m.pen2 + 5)) m.pen2 }
def Fg (m : Mat) (e : Ev) : Mat × Int :=
 let t := Ak m.rules (Am m) e
 cond (!(t.2 == 0)) (m, t.2) (cond (e.kind == 13 && !(e.side == t.1.side)) (HN { m with inns := m.inns.set (lnx m.inns) t.1 } e.side) { m with inns := m.inns.set (lnx m.inns) t.1 }, 0)
def Xx (m : Mat) : Mat := { m with inns := cond (m.stage == 3) (m.inns.set (lnx m.inns) { Am m with ending := 5 }) m.inns, stage := 5, win := Xq m.rules, wside := 0, margin := 0 }
def Hn (m : Mat) (e : Ev) : Mat × Int :=
  cond (e.kind == 1) (cond (!(m.stage == 1)) (m, 1) ({ m with first := cond e.yes e.side (BD e.side), stage := 2 }, 0))
    (cond (e.kind == 2) (cond (!(m.stage == 2)) (m, 1) (XN m e))
      (cond (e.kind == 12) (cond (!(m.stage == 4)) (m, 1) (cond (!(e.side == m.first)) (m, 2) ({ m with follow := e.yes, stage := 2 }, 0)))
        (cond (e.kind == 16) (Xx m, 0) (cond (!(m.stage == 3)) (m, 1) (Fg m e)))))
def PN (m : Mat) : Mat :=
  let n : Int := m.inns.length
  let sd := (Am m).side
  let o := SS { m with stage := 5 }
  cond (n == IntKind.i64.wrap (2 * m.rules.innings) || (n == 3 && iLt (B6 m sd) (B6 m (BD sd)))) { m with stage := 5, win := o.1, wside := o.2.1, margin := o.2.2 }
    (cond (n == 2 && iLt 0 m.rules.followon && iLe m.rules.followon (IntKind.i64.wrap (B6 m m.first - B6 m (BD m.first)))) { m with stage := 4 } { m with stage := 2 })
def B4 (m : Mat) : Mat := cond (m.stage == 3 && !((Am m).ending == 0)) (PN m) m
def DK (m : Mat) (e : Ev) : Mat × Int :=
 cond (!Ff m || !(evS e == 0)) (m, 1) (cond (m.stage == 5) (m, 26) (cond (!((Hn m e).2 == 0)) (m, (Hn m e).2) (B4 (Hn m e).1, 0)))
theorem bind_ok {X : Option (List PV)} {r : List PV} {k : List PV → Option (List PV)} {g : Option (List PV)} (h : X = some r) (hk : k r = g) : X.bind k = g := by rw [h]; exact hk
structure MatOk (m : Mat) : Prop where
 code : A5 m.rules = 0
 len : m.inns.length ≤ 4
 innv : ∀ i, i < m.inns.length → Ge m.rules (inn m.inns i) = true ∧ (inn m.inns i).side = Co m (i : Int)
 begun : (m.stage == 3) = true → ((m.inns.length : Int) == 0) = false
 toss : (m.stage == 2) = true → m.first = 1 ∨ m.first = 2
 room : (m.stage == 2) = true → (m.inns.length : Int) < 2 * m.rules.innings
 most : IntKind.i64.wrap (2 * m.rules.innings) = 2 * m.rules.innings ∧ (m.inns.length : Int) ≤ 2 * m.rules.innings
theorem U0 {m : Mat} (h : Ff m = true) : MatOk m := by
 unfold Ff aK at h
 simp only [Bool.and_eq_true, Bool.not_eq_true'] at h
 obtain ⟨⟨h1, h2, h3, h4, h5, h6, h7, h8, h9, h10⟩, h11, h12⟩ := h
 have hc := beq_iff_eq.1 h1
 have rk := (EN hc).innings
 have e2 : IntKind.i64.wrap (2 * m.rules.innings) = 2 * m.rules.innings := DB (by omega) (by omega)
 rw [e2] at h5 h8
 rw [Bool.or_eq_false_iff, Bool.or_eq_false_iff] at h5
 have hn := h5.2
 have hf1 := h5.1.1
 have hf2 := h5.1.2
 simp only [iLt, decide_eq_false_iff_not] at hn hf1 hf2
 refine ⟨hc, by omega, fun i hi => ?_, fun hs => ?_, fun hs => ?_, fun hs => ?_, e2, by omega⟩
 ·have := I5.1 h11 i (by omega) (by omega)
  unfold Uc at this
  rw [Bool.or_eq_false_iff, Bool.not_eq_false', Bool.not_eq_false', beq_iff_eq] at this
  exact this
 ·unfold Uy at h12
  rw [hs, Bool.and_eq_true] at h12
  have := h12.2
  simp only [iLt, Bool.not_true, Bool.false_or, decide_eq_true_eq] at this
  exact beq_false_of_ne (by omega)
 ·rw [beq_iff_eq.1 hs] at h6
  cases h0 : m.first == 0 with
  | true => rw [h0] at h6; simp at h6
  | false =>
   rw [beq_eq_false_iff_ne] at h0
   omega
 ·rw [hs, Bool.true_and, beq_eq_false_iff_ne] at h8
  omega
theorem jN {m : Mat} (h : m.first = 1 ∨ m.first = 2) (i : Int) : Co m i = 1 ∨ Co m i = 2 := by
 unfold Co
 cases cond (m.follow && iLe 2 i) (i == 2) (i.tmod 2 == 1) with
 | false => exact h
 | true => rcases h with h | h <;> rw [h] <;> decide
theorem Zk {m : Mat} (h : MatOk m) : JM m.inns := fun i hi => (O9 (h.innv i hi).1).2.2
theorem Sk {F : (List AQ → Option (List PV)) → List PV → Option (List PV)} {len : Nat} (enc : Nat → List AQ) (ans : Nat → Option (List PV))
    (h0 : ∀ self, F self ((enc len).map Leaf.pv) = some [.int 1]) (h1 : ∀ i self, i < len → F self ((enc i).map Leaf.pv) = match ans i with | some r => some (.int 0 :: r) | none => self (enc (i + 1))) :
    ∀ (k i n : Nat), i + k = len → k < n → DI F n ((enc i).map Leaf.pv) = some (O7 (A8 ans k i))
  | 0, i, n, hk, hn => by
    obtain ⟨n, rfl⟩ : ∃ m, n = m + 1 := ⟨n - 1, by omega⟩
    obtain rfl : i = len := by omega
    exact h0 _
  | k + 1, i, n, hk, hn => by
    obtain ⟨n, rfl⟩ : ∃ m, n = m + 1 := ⟨n - 1, by omega⟩
    show F _ _ = _
    rw [h1 i _ (by omega)]
    simp only [A8]
    cases ans i with
    | some r => rfl
    | none => exact Sk enc ans h0 h1 k (i + 1) n (by omega) (by omega)
theorem eZ (ys : List Inn) (sd : Int) (g : Nat → List PV) (n : Nat) : ∀ k, k ≤ n → A8 (fun j => cond ((inn ys (n - 1 - j)).side == sd) (some (g (n - 1 - j))) none) k (n - k) = (L5 ys sd k).map g
 | 0, _ => rfl
 | k + 1, h => by
  have ih := eZ ys sd g n k (by omega)
  have e : n - 1 - (n - (k + 1)) = k := by omega
  have e2 : n - (k + 1) + 1 = n - k := by omega
  simp only [A8, L5, e, e2, ih]
  cases (inn ys k).side == sd <;> rfl
theorem VK (xs : List Inn) (k : Nat) (s : Inn) (i : Nat) (hi : i < xs.length) : inn (xs.set k s) i = (if k = i then s else inn xs i) := by
 rw [LT, LT, List.getElem?_set]
 by_cases h : k = i
 ·subst h
  rw [if_pos rfl, if_pos rfl, if_pos hi]
 ·rw [if_neg h, if_neg h]
theorem Pm {xs : List Inn} {s : Inn} (k : Nat) (h : JM xs) (hs : s.Fit) : JM (xs.set k s) := fun i hi => by
 rw [List.length_set] at hi
 rw [VK xs k s i hi]
 by_cases e : k = i
 ·rw [if_pos e]; exact hs
 ·rw [if_neg e]; exact h i hi
theorem iW {e : Ev} (h : (evS e == 0) = true) (hk : (e.kind == 13) = true) : e.side = 1 ∨ e.side = 2 := by
 have h0 := Y5 h
 rw [beq_iff_eq] at hk
 unfold evS at h
 rw [h0] at h
 cases h1 : br e with
 | true => rw [h1] at h; cases h
 | false =>
  cases h2 : XC e with
  | true => rw [h1, h2] at h; cases h
  | false =>
   unfold XC at h2
   rw [Bool.or_eq_false_iff] at h2
   have h3 := h2.1
   rw [hk, show uS 13 = true from rfl, Bool.and_true] at h3
   simp only [btw, iLe, Bool.not_eq_false', Bool.and_eq_true, decide_eq_true_eq] at h3
   omega
theorem lV (xs : List Inn) (s : Inn) (i : Nat) (hi : i < xs.length + 1) : inn (xs ++ [s]) i = (if i < xs.length then inn xs i else s) := by
 rw [LT, LT]
 by_cases h : i < xs.length
 ·rw [if_pos h, List.getElem?_append_left h]
 ·have : i = xs.length := by omega
  subst this
  rw [if_neg h, List.getElem?_append_right (Nat.le_refl _), Nat.sub_self]
  rfl
theorem jK {xs : List Inn} {s : Inn} (h : JM xs) (hs : s.Fit) : JM (xs ++ [s]) := fun i hi => by
 rw [List.length_append] at hi
 rw [lV xs s i hi]
 by_cases e : i < xs.length
 ·rw [if_pos e]; exact h i e
 ·rw [if_neg e]; exact hs
theorem Yw (r : Rul) (a b c : Int) (e : Ev) : (Ak r (CQ r a b c).1 e).1.Fit := by
 obtain ⟨f, h1, h2⟩ := Oq r a b c
 exact P9 (QZ r _ e) f (by rw [h1, h2]; exact Nat.zero_le _)
structure ActOk (m : Mat) (x : Mat × Int) : Prop where
 rules : x.1.rules = m.rules
 fit : JM x.1.inns
 len : x.1.inns.length ≤ 5
 some' : (x.2 == 0) = true → (x.1.stage == 3) = true → ((x.1.inns.length : Int) == 0) = false
theorem A_c {m : Mat} (b : Bool) (x y : Mat × Int) (hx : ActOk m x) (hy : ActOk m y) : ActOk m (cond b x y) := by cases b <;> assumption
theorem bu {m : Mat} (sd : Int) (hf : JM m.inns) : (HN m sd).rules = m.rules ∧ JM (HN m sd).inns ∧ (HN m sd).inns.length = m.inns.length ∧ (HN m sd).stage = m.stage := by
 unfold HN
 cases h : L5 m.inns sd m.inns.length with
 | none => exact ⟨rfl, hf, rfl, rfl⟩
 | some k =>
  have hk : k < m.inns.length := by
   have : ∀ n, L5 m.inns sd n = some k → k < n := by
    intro n
    induction n with
    | zero => intro h; cases h
    | succ n ih =>
     intro h
     unfold L5 at h
     cases hq : (inn m.inns n).side == sd with
     | true => rw [hq] at h; cases h; omega
     | false => rw [hq] at h; have := ih h; omega
   exact this _ h
  exact ⟨rfl, Pm k hf (lY (hf k hk)), List.length_set, rfl⟩
theorem hO {m : Mat} (ok : MatOk m) (e : Ev) : ActOk m (Hn m e) := by
 have hf := Zk ok
 have hl := ok.len
 have self : ∀ n : Int, (n == 0) = false → ActOk m (m, n) := fun n hn => ⟨rfl, hf, by show m.inns.length ≤ 5; omega, fun h => by rw [hn] at h; cases h⟩
 unfold Hn
 refine A_c _ _ _ (A_c _ _ _ (self 1 rfl) ⟨rfl, hf, by show m.inns.length ≤ 5; omega, fun _ h => by cases h⟩) (A_c _ _ _ ?_ (A_c _ _ _ ?_ (A_c _ _ _ ?_ ?_)))
 ·refine A_c _ _ _ (self 1 rfl) ?_
  unfold XN
  refine A_c _ _ _ (self 1 rfl) ?_
  cases hq : (Ak m.rules (CQ m.rules (Co m (m.inns.length : Int)) (GK m (Co m (m.inns.length : Int))) (cond (Co m (m.inns.length : Int) == 2) m.pen2 m.pen1)).1 e).2 == 0 with
  | false =>
   simp only [Bool.not_false, cond_true]
   exact self _ hq
  | true =>
   simp only [Bool.not_true, cond_false]
   exact ⟨rfl, jK hf (Yw _ _ _ _ e), by simp; omega, fun _ _ => by
    show ((((m.inns ++ [_]).length : Nat) : Int) == 0) = false
    rw [List.length_append]
    exact beq_false_of_ne (by simp; omega)⟩
 ·exact A_c _ _ _ (self 1 rfl) (A_c _ _ _ (self 2 rfl) ⟨rfl, hf, by show m.inns.length ≤ 5; omega, fun _ h => by cases h⟩)
 ·unfold Xx
  cases h3 : m.stage == 3 with
  | false => exact ⟨rfl, hf, by show m.inns.length ≤ 5; omega, fun _ h => by cases h⟩
  | true =>
   have h0 := ok.begun h3
   have fl := hf (lnx m.inns) (Uw h0 (by omega))
   exact ⟨rfl, Pm _ hf ⟨fl.bt, fl.bw, fl.bf, fl.bd, fl.sb⟩, by show (m.inns.set _ _).length ≤ 5; rw [List.length_set]; omega, fun _ h => by cases h⟩
 ·cases h3 : m.stage == 3 with
  | false => exact self 1 rfl
  | true =>
   have h0 := ok.begun h3
   have lv := O9 (ok.innv (lnx m.inns) (Uw h0 (by omega))).1
   have h1 := lv.1
   have h2 := lv.2.1
   have ft := P9 (QZ m.rules (Am m) e) lv.2.2 (show (inn m.inns (lnx m.inns)).before.length + (inn m.inns (lnx m.inns)).bowlers.length ≤ 1048575 by omega)
   simp only [Bool.not_true, cond_false, Fg]
   cases hq : (Ak m.rules (Am m) e).2 == 0 with
   | false =>
    simp only [Bool.not_false, Bool.not_true, cond_true, cond_false]
    exact self _ hq
   | true =>
    have fs := Pm (lnx m.inns) hf ft
    have ln : (m.inns.set (lnx m.inns) (Ak m.rules (Am m) e).1).length = m.inns.length := List.length_set
    simp only [Bool.not_true, cond_false]
    cases (e.kind == 13 && !(e.side == (Ak m.rules (Am m) e).1.side)) with
    | false =>
     exact ⟨rfl, fs, by show (m.inns.set _ _).length ≤ 5; omega, fun _ _ => by
      show ((((m.inns.set _ _).length : Nat) : Int) == 0) = false
      rw [ln]; exact h0⟩
    | true =>
     obtain ⟨a1, a2, a3, a4⟩ := bu (m := { m with inns := m.inns.set (lnx m.inns) (Ak m.rules (Am m) e).1 }) e.side fs
     exact ⟨a1, a2, by show (HN _ _).inns.length ≤ 5; rw [a3]; show (m.inns.set _ _).length ≤ 5; omega, fun _ _ => by
      show ((((HN _ _).inns.length : Nat) : Int) == 0) = false
      rw [a3]
      show ((((m.inns.set _ _).length : Nat) : Int) == 0) = false
      rw [ln]; exact h0⟩
end Go.Px
end
section
namespace Go.Px
set_option maxRecDepth 100000
set_option maxHeartbeats 8000000 in
theorem bl {N : Nat} {m1 m2 m3 m4 m5 m6 m7 m9 m10 m11 m12 m14 m15 m18 m19 m20 m21 m22 : Int} {m8 m16 : Bool} {m0 : ByteArray} {m13 : Rows} {m17 : List Inn} {e0 e1 e2 e3 e5 e6 e7 e8 e9 e10 e11 e13 e14 e15 e16 e18 : Int} {e4 e12 e17 : Bool} (hN : 2097152 < N) (hf : JM m17) (hl : m17.length ≤ 1000000) (hs : m0.size ≤ 1048576) (h13 : m13.length ≤ 1048576) : LQ N [.str m0, .int m1, .int m2, .int m3, .int m4, .int m5, .int m6, .int m7, .bool m8, .int m9, .int m10, .int m11, .int m12, .rows m13, .int m14, .int m15, .bool m16, .rows (Ac m17), .int m18, .int m19, .int m20, .int m21, .int m22, .int e0, .int e1, .int e2, .int e3, .bool e4, .int e5, .int e6, .int e7, .int e8, .int e9, .int e10, .int e11, .bool e12, .int e13, .int e14, .int e15, .int e16, .bool e17, .int e18] = some (Sv (DK (⟨⟨m0, m1, m2, m3, m4, m5, m6, m7, m8, m9, m10, m11, m12, m13⟩, m14, m15, m16, m17, m18, m19, m20, m21, m22⟩ : Mat) (⟨e0, e1, e2, e3, e4, e5, e6, ⟨e7, e8, e9, e10, e11, e12, e13, e14, e15, e16, e17, e18⟩⟩ : Ev))) := by
 show K9 (std (A6 N) N) (xOf _) = _
 generalize hres : (some (Sv (DK (⟨⟨m0, m1, m2, m3, m4, m5, m6, m7, m8, m9, m10, m11, m12, m13⟩, m14, m15, m16, m17, m18, m19, m20, m21, m22⟩ : Mat) (⟨e0, e1, e2, e3, e4, e5, e6, ⟨e7, e8, e9, e10, e11, e12, e13, e14, e15, e16, e17, e18⟩⟩ : Ev))) : Option (List PV)) = RR
 simp only [K9, Py, Pr, PQ, EZ, Eg, Ij, HJ, Dr, EB, Cj, C5, GE, std, xOf, PXb, TU hf hN hl hs, TX hN, Z6 hf hN hl h13]
 subst hres; simp only [DK]
 cases hv : Ff (⟨⟨m0, m1, m2, m3, m4, m5, m6, m7, m8, m9, m10, m11, m12, m13⟩, m14, m15, m16, m17, m18, m19, m20, m21, m22⟩ : Mat)
 case false => rfl
 cases he : evS (⟨e0, e1, e2, e3, e4, e5, e6, ⟨e7, e8, e9, e10, e11, e12, e13, e14, e15, e16, e17, e18⟩⟩ : Ev) == 0
 case false => simp only [PXb, he]; rfl
 simp only [PXb, he]
 cases h5 : m14 == 5
 case true => rfl
 simp only [PXb]
 have ok := U0 hv
 refine bind_ok (r := .int (Hn (⟨⟨m0, m1, m2, m3, m4, m5, m6, m7, m8, m9, m10, m11, m12, m13⟩, m14, m15, m16, m17, m18, m19, m20, m21, m22⟩ : Mat) (⟨e0, e1, e2, e3, e4, e5, e6, ⟨e7, e8, e9, e10, e11, e12, e13, e14, e15, e16, e17, e18⟩⟩ : Ev)).2 :: (Hn (⟨⟨m0, m1, m2, m3, m4, m5, m6, m7, m8, m9, m10, m11, m12, m13⟩, m14, m15, m16, m17, m18, m19, m20, m21, m22⟩ : Mat) (⟨e0, e1, e2, e3, e4, e5, e6, ⟨e7, e8, e9, e10, e11, e12, e13, e14, e15, e16, e17, e18⟩⟩ : Ev)).1.ls) ?_ ?_
 ·unfold Hn
  cases hk1 : e0 == 1
  case true =>
   simp only [PXb, Eg, HL]
   cases m14 == 1 <;> cases e4 <;> rfl
  cases hk2 : e0 == 2
  case true =>
   simp only [PXb]
   cases hs2 : m14 == 2
   case false => rfl
   have hl2 : m17.length ≤ 1048576 := by omega
   have h304 : iSm ((m17.length + 1 : Nat) : Int) 304 = true := G5 (by omega) (by omega)
   have fb := fun a b c => (Oq (⟨⟨m0, m1, m2, m3, m4, m5, m6, m7, m8, m9, m10, m11, m12, m13⟩, m14, m15, m16, m17, m18, m19, m20, m21, m22⟩ : Mat).rules a b c).1
   have wb : ∀ a b c, (CQ (⟨⟨m0, m1, m2, m3, m4, m5, m6, m7, m8, m9, m10, m11, m12, m13⟩, m14, m15, m16, m17, m18, m19, m20, m21, m22⟩ : Mat).rules a b c).1.before.length + (CQ (⟨⟨m0, m1, m2, m3, m4, m5, m6, m7, m8, m9, m10, m11, m12, m13⟩, m14, m15, m16, m17, m18, m19, m20, m21, m22⟩ : Mat).rules a b c).1.bowlers.length ≤ 1000000 := fun a b c => by
    rw [(Oq (⟨⟨m0, m1, m2, m3, m4, m5, m6, m7, m8, m9, m10, m11, m12, m13⟩, m14, m15, m16, m17, m18, m19, m20, m21, m22⟩ : Mat).rules a b c).2.1, (Oq (⟨⟨m0, m1, m2, m3, m4, m5, m6, m7, m8, m9, m10, m11, m12, m13⟩, m14, m15, m16, m17, m18, m19, m20, m21, m22⟩ : Mat).rules a b c).2.2]
    exact Nat.zero_le _
   rcases jN (m := (⟨⟨m0, m1, m2, m3, m4, m5, m6, m7, m8, m9, m10, m11, m12, m13⟩, m14, m15, m16, m17, m18, m19, m20, m21, m22⟩ : Mat)) (ok.toss hs2) (m17.length : Int) with ho | ho
   ·simp only [PXb, PXc, JY, cj, Nat.reduceAdd, Int.reduceBEq, PXi, PXr, Inn.eta, BK, List.length_append, List.length_cons, List.length_nil, h304, XN, EZ, EB, Dr, Cj, N5, SO hN hl2, Q8 hN hs, MV (fb _ _ _) (wb _ _ _) hN hs h13, ho, wr1, wr2, dG, cn]
    cases (CQ (⟨⟨m0, m1, m2, m3, m4, m5, m6, m7, m8, m9, m10, m11, m12, m13⟩, m14, m15, m16, m17, m18, m19, m20, m21, m22⟩ : Mat).rules 1 (GK (⟨⟨m0, m1, m2, m3, m4, m5, m6, m7, m8, m9, m10, m11, m12, m13⟩, m14, m15, m16, m17, m18, m19, m20, m21, m22⟩ : Mat) 1) m18).2 == 0 <;> try rfl
    cases (Ak (⟨⟨m0, m1, m2, m3, m4, m5, m6, m7, m8, m9, m10, m11, m12, m13⟩, m14, m15, m16, m17, m18, m19, m20, m21, m22⟩ : Mat).rules (CQ (⟨⟨m0, m1, m2, m3, m4, m5, m6, m7, m8, m9, m10, m11, m12, m13⟩, m14, m15, m16, m17, m18, m19, m20, m21, m22⟩ : Mat).rules 1 (GK (⟨⟨m0, m1, m2, m3, m4, m5, m6, m7, m8, m9, m10, m11, m12, m13⟩, m14, m15, m16, m17, m18, m19, m20, m21, m22⟩ : Mat) 1) m18).1 (⟨e0, e1, e2, e3, e4, e5, e6, ⟨e7, e8, e9, e10, e11, e12, e13, e14, e15, e16, e17, e18⟩⟩ : Ev)).2 == 0 <;> rfl
   ·simp only [PXb, PXc, JY, cj, Nat.reduceAdd, Int.reduceBEq, PXi, PXr, Inn.eta, BK, List.length_append, List.length_cons, List.length_nil, h304, XN, EZ, EB, Dr, Cj, N5, SO hN hl2, Q8 hN hs, MV (fb _ _ _) (wb _ _ _) hN hs h13, ho, wr1, wr2, dG, cn]
    cases (CQ (⟨⟨m0, m1, m2, m3, m4, m5, m6, m7, m8, m9, m10, m11, m12, m13⟩, m14, m15, m16, m17, m18, m19, m20, m21, m22⟩ : Mat).rules 2 (GK (⟨⟨m0, m1, m2, m3, m4, m5, m6, m7, m8, m9, m10, m11, m12, m13⟩, m14, m15, m16, m17, m18, m19, m20, m21, m22⟩ : Mat) 2) m19).2 == 0 <;> try rfl
    cases (Ak (⟨⟨m0, m1, m2, m3, m4, m5, m6, m7, m8, m9, m10, m11, m12, m13⟩, m14, m15, m16, m17, m18, m19, m20, m21, m22⟩ : Mat).rules (CQ (⟨⟨m0, m1, m2, m3, m4, m5, m6, m7, m8, m9, m10, m11, m12, m13⟩, m14, m15, m16, m17, m18, m19, m20, m21, m22⟩ : Mat).rules 2 (GK (⟨⟨m0, m1, m2, m3, m4, m5, m6, m7, m8, m9, m10, m11, m12, m13⟩, m14, m15, m16, m17, m18, m19, m20, m21, m22⟩ : Mat) 2) m19).1 (⟨e0, e1, e2, e3, e4, e5, e6, ⟨e7, e8, e9, e10, e11, e12, e13, e14, e15, e16, e17, e18⟩⟩ : Ev)).2 == 0 <;> rfl
  cases hk3 : e0 == 12
  case true =>
   simp only [PXb]
   cases m14 == 4 <;> cases e1 == m15 <;> rfl
  cases hk4 : e0 == 16
  case true =>
   simp only [PXb, Xx]
   cases h3 : m14 == 3
   case false => simp only [PXb, PXc, PXi, PXr, JY, Nat.reduceAdd, C5, Ii]; rfl
   simp only [PXb, PXc, PXi, PXr, JY, Nat.reduceAdd, Rw (ok.begun h3) hl, C5, Ii]
   rfl
  simp only [PXb]
  cases h3 : m14 == 3
  case false => rfl
  have h0 := ok.begun h3
  have lv := O9 (ok.innv (lnx m17) (Uw h0 hl)).1
  have fl : (inn m17 (IntKind.i64.wrap ((m17.length : Int) - 1)).toNat).Fit := lv.2.2
  have wl : (inn m17 (IntKind.i64.wrap ((m17.length : Int) - 1)).toNat).before.length + (inn m17 (IntKind.i64.wrap ((m17.length : Int) - 1)).toNat).bowlers.length ≤ 1000000 := by
   have h1 := lv.1
   have h2 := lv.2.1
   change (inn m17 (IntKind.i64.wrap ((m17.length : Int) - 1)).toNat).bowlers.length ≤ 11 at h1
   change (inn m17 (IntKind.i64.wrap ((m17.length : Int) - 1)).toNat).before.length ≤ 11 at h2
   omega
  have f1 := P9 (QZ (⟨⟨m0, m1, m2, m3, m4, m5, m6, m7, m8, m9, m10, m11, m12, m13⟩, m14, m15, m16, m17, m18, m19, m20, m21, m22⟩ : Mat).rules (inn m17 (IntKind.i64.wrap ((m17.length : Int) - 1)).toNat) (⟨e0, e1, e2, e3, e4, e5, e6, ⟨e7, e8, e9, e10, e11, e12, e13, e14, e15, e16, e17, e18⟩⟩ : Ev)) fl (by omega)
  simp only [PXb, PXc, PXi, PXr, BK, Inn.eta, JY, Nat.reduceAdd, List.length_set, Rw h0 hl, Cj, MV fl wl hN hs h13, Fg, Am, lnx]
  generalize hX : Ak (⟨⟨m0, m1, m2, m3, m4, m5, m6, m7, m8, m9, m10, m11, m12, m13⟩, m14, m15, m16, m17, m18, m19, m20, m21, m22⟩ : Mat).rules (inn m17 (IntKind.i64.wrap ((m17.length : Int) - 1)).toNat) (⟨e0, e1, e2, e3, e4, e5, e6, ⟨e7, e8, e9, e10, e11, e12, e13, e14, e15, e16, e17, e18⟩⟩ : Ev) = X at f1
  have fy := Pm (IntKind.i64.wrap ((m17.length : Int) - 1)).toNat hf f1
  generalize hy : m17.set (IntKind.i64.wrap ((m17.length : Int) - 1)).toNat X.1 = ys at fy
  have ly : ys.length = m17.length := by rw [← hy, List.length_set]
  cases X.2 == 0 <;> try rfl
  cases h13k : e0 == 13
  case false => rfl
  cases hsd : e1 == X.1.side
  case true => rfl
  simp only [PXb, Option.bind_assoc]
  have e0w : IntKind.i64.wrap ((m17.length : Int) - 1) = (m17.length : Int) - 1 - ((0 : Nat) : Int) := by
   rw [beq_eq_false_iff_ne] at h0
   rw [DB (by omega) (by omega)]; omega
  rw [e0w]
  have hside := iW (e := (⟨e0, e1, e2, e3, e4, e5, e6, ⟨e7, e8, e9, e10, e11, e12, e13, e14, e15, e16, e17, e18⟩⟩ : Ev)) he h13k
  simp only at hside
  refine AZ (Sk (len := m17.length) (fun j => [.int ((m17.length : Int) - 1 - (j : Int))]) (fun j => cond ((inn ys (m17.length - 1 - j)).side == e1) (some [PV.str m0, PV.int m1, PV.int m2, PV.int m3, PV.int m4, PV.int m5, PV.int m6, PV.int m7, PV.bool m8, PV.int m9, PV.int m10, PV.int m11, PV.int m12, PV.rows m13, PV.int m14, PV.int m15, PV.bool m16, PV.rows (Ac (ys.set (m17.length - 1 - j) (OB (inn ys (m17.length - 1 - j))))), PV.int m18, PV.int m19, PV.int m20, PV.int m21, PV.int m22]) none) ?_ ?_ m17.length 0 N (by omega) (by omega)) ?_
  ·intro self
   have q1 : iLe 0 ((m17.length : Int) - 1 - (m17.length : Int)) = false := by simp only [iLe, decide_eq_false_iff_not]; omega
   simp only [PXb, q1]
  ·intro i self hi
   have q1 : iLe 0 ((m17.length : Int) - 1 - (i : Int)) = true := by simp only [iLe, decide_eq_true_eq]; omega
   have q2 : iIn ((m17.length : Int) - 1 - (i : Int)) (m17.length : Int) = true := by simp only [iIn, decide_eq_true_eq]; omega
   have q3 : ((m17.length : Int) - 1 - (i : Int)).toNat = m17.length - 1 - i := by omega
   have q4 : IntKind.i64.wrap ((m17.length : Int) - 1 - (i : Int) - 1) = (m17.length : Int) - 1 - ((i + 1 : Nat) : Int) := by rw [DB (by omega) (by omega)]; omega
   have q5 := fy (m17.length - 1 - i) (by omega)
   simp only [PXb, PXc, q1, q2, q3, q4, GE, OV q5, PXm]
   cases (inn ys (m17.length - 1 - i)).side == e1 <;> rfl
  ·have hfa := eZ ys e1 (fun k => [PV.str m0, PV.int m1, PV.int m2, PV.int m3, PV.int m4, PV.int m5, PV.int m6, PV.int m7, PV.bool m8, PV.int m9, PV.int m10, PV.int m11, PV.int m12, PV.rows m13, PV.int m14, PV.int m15, PV.bool m16, PV.rows (Ac (ys.set k (OB (inn ys k)))), PV.int m18, PV.int m19, PV.int m20, PV.int m21, PV.int m22]) m17.length m17.length (Nat.le_refl _)
   rw [Nat.sub_self] at hfa
   rw [hfa]
   unfold HN
   simp only [ly]
   cases L5 ys e1 m17.length with
   | some k => rfl
   | none =>
    rcases hside with h | h <;> subst h
    ·simp only [Option.map_none, O7, PXb, PXc, JY, Int.reduceBEq, wr1, dG]
     rfl
    ·simp only [Option.map_none, O7, PXb, PXc, JY, Int.reduceBEq, wr2, cn]
     rfl
 ·have ak := hO ok (⟨e0, e1, e2, e3, e4, e5, e6, ⟨e7, e8, e9, e10, e11, e12, e13, e14, e15, e16, e17, e18⟩⟩ : Ev)
  generalize Hn (⟨⟨m0, m1, m2, m3, m4, m5, m6, m7, m8, m9, m10, m11, m12, m13⟩, m14, m15, m16, m17, m18, m19, m20, m21, m22⟩ : Mat) (⟨e0, e1, e2, e3, e4, e5, e6, ⟨e7, e8, e9, e10, e11, e12, e13, e14, e15, e16, e17, e18⟩⟩ : Ev) = A at ak
  obtain ⟨⟨⟨a0, a1, a2, a3, a4, a5, a6, a7, a8, a9, a10, a11, a12, a13⟩, a14, a15, a16, a17, a18, a19, a20, a21, a22⟩, l⟩ := A
  obtain ⟨k1, k2, k3, k4⟩ := ak
  simp only at k1 k2 k3 k4
  have hl5 : a17.length ≤ 1048576 := by omega
  have hs5 : a0.size ≤ 1048576 := by
   have := congrArg Rul.name k1
   simp only at this
   rw [this]; exact hs
  simp only [PXb, PXc, PXk, PXi, JY, Nat.reduceAdd]
  cases hl0 : l == 0
  case false => rfl
  simp only [PXb, B4]
  cases h3 : a14 == 3
  case false => rfl
  have h0 := k4 hl0 h3
  have li := Rw h0 (show a17.length ≤ 1000000 by omega)
  simp only [PXb, PXc, PXi, li]
  cases he2 : (inn a17 (IntKind.i64.wrap ((a17.length : Int) - 1)).toNat).ending == 0
  case true => simp only [PXb, Am, lnx, he2]
  simp only [PXb, PXc, PXi, Am, lnx, he2, Ij, Eg, HJ, Ny hN hl5, HL, XK k2 hN (show a17.length ≤ 1000000 by omega) hs5]
  unfold PN
  simp only [Am, lnx]
  simp only [B6, Am, lnx]
  cases hq1 : ((a17.length : Int) == IntKind.i64.wrap (2 * a2))
  case true => rfl
  cases hq2 : ((a17.length : Int) == 3)
  case true =>
   simp only [PXb]
   cases iLt (OC a17 (inn a17 (IntKind.i64.wrap ((a17.length : Int) - 1)).toNat).side a17.length) (OC a17 (BD (inn a17 (IntKind.i64.wrap ((a17.length : Int) - 1)).toNat).side) a17.length)
   case true => rfl
   simp only [PXb]
   cases ((a17.length : Int) == 2) && iLt 0 a10 && iLe a10 (IntKind.i64.wrap (OC a17 a15 a17.length - OC a17 (BD a15) a17.length)) <;> rfl
  simp only [PXb]
  cases ((a17.length : Int) == 2) && iLt 0 a10 && iLe a10 (IntKind.i64.wrap (OC a17 a15 a17.length - OC a17 (BD a15) a17.length)) <;> rfl
end Go.Px
end
section
namespace Go.Px
set_option maxRecDepth 100000
theorem eD (m : Mat) : (PN m).rules = m.rules ∧ (PN m).inns = m.inns := by
 unfold PN
 dsimp only
 cases ((m.inns.length : Int) == IntKind.i64.wrap (2 * m.rules.innings) || ((m.inns.length : Int) == 3 && iLt (B6 m (Am m).side) (B6 m (BD (Am m).side)))) with
 | true => exact ⟨rfl, rfl⟩
 | false =>
  cases ((m.inns.length : Int) == 2 && iLt 0 m.rules.followon && iLe m.rules.followon (IntKind.i64.wrap (B6 m m.first - B6 m (BD m.first)))) <;> exact ⟨rfl, rfl⟩
theorem Xv (m : Mat) : (B4 m).rules = m.rules ∧ (B4 m).inns = m.inns := by
 unfold B4
 cases (m.stage == 3 && !((Am m).ending == 0)) with
 | true => exact eD m
 | false => exact ⟨rfl, rfl⟩
structure StepOk (r : Rul) (m : Mat) : Prop where
 rules : m.rules = r
 fit : JM m.inns
 len : m.inns.length ≤ 5
theorem gF {r : Rul} {m : Mat} (h : StepOk r m) (e : Ev) : StepOk r (DK m e).1 := by
 unfold DK
 cases hv : Ff m with
 | false => exact h
 | true =>
  cases he : evS e == 0 with
  | false => exact h
  | true =>
   cases h5 : m.stage == 5 with
   | true => exact h
   | false =>
    have a := hO (U0 hv) e
    cases hx : (Hn m e).2 == 0 with
    | false => exact h
    | true =>
     have k := Xv (Hn m e).1
     exact ⟨k.1.trans (a.rules.trans h.rules), by show JM (B4 _).inns; rw [k.2]; exact a.fit, by show (B4 _).inns.length ≤ 5; rw [k.2]; exact a.len⟩
theorem eP (r : Rul) (h : ((A9 r).2 == 0) = true) : StepOk r (A9 r).1 := by
 unfold A9 at h ⊢
 cases hc : A5 r == 0 with
 | false => rw [hc] at h; exact absurd (show (A5 r == 0) = true from h) (by rw [hc]; decide)
 | true => exact ⟨rfl, fun i hi => absurd hi (Nat.not_lt_zero i), Nat.zero_le _⟩
theorem Wd {m : Mat} {e : Ev} (h : ((DK m e).2 == 0) = true) : Ff m = true ∧ (evS e == 0) = true ∧ (m.stage == 5) = false ∧ ((Hn m e).2 == 0) = true ∧ (DK m e).1 = B4 (Hn m e).1 := by
 unfold DK at h ⊢
 cases hv : Ff m with
 | false => rw [hv] at h; exact absurd (show ((1 : Int) == 0) = true from h) (by decide)
 | true =>
  cases he : evS e == 0 with
  | false => rw [hv, he] at h; exact absurd (show ((1 : Int) == 0) = true from h) (by decide)
  | true =>
   cases h5 : m.stage == 5 with
   | true => rw [hv, he, h5] at h; exact absurd (show ((26 : Int) == 0) = true from h) (by decide)
   | false =>
    cases hx : (Hn m e).2 == 0 with
    | false => rw [hv, he, h5, hx] at h; exact absurd (show ((Hn m e).2 == 0) = true from h) (by rw [hx]; decide)
    | true => exact ⟨rfl, rfl, rfl, rfl, rfl⟩
theorem fG {m : Mat} {e : Ev} (h : ((DK m e).2 == 0) = true) (hk : (e.kind == 4) = true) : (m.stage == 3) = true ∧ ((m.inns.length : Int) == 0) = false ∧ ((Ak m.rules (Am m) e).2 == 0) = true ∧ (DK m e).1.inns = m.inns.set (lnx m.inns) (Ak m.rules (Am m) e).1 := by
 obtain ⟨hv, he, h5, ha, hs⟩ := Wd h
 have hk4 := beq_iff_eq.1 hk
 rw [hs, (Xv _).2]
 unfold Hn at ha ⊢
 simp only [hk4, Int.reduceBEq, cond_false] at ha ⊢
 cases h3 : m.stage == 3 with
 | false => rw [h3] at ha; exact absurd (show ((1 : Int) == 0) = true from ha) (by decide)
 | true =>
  rw [h3] at ha
  simp only [Bool.not_true, cond_false] at ha ⊢
  unfold Fg at ha ⊢
  cases hq : (Ak m.rules (Am m) e).2 == 0 with
  | false => simp only [hq, Bool.not_false, cond_true] at ha; exact absurd ha Bool.false_ne_true
  | true =>
   simp only [hk4, Int.reduceBEq, Bool.false_and, hq, Bool.not_true, cond_false]
   exact ⟨trivial, (U0 hv).begun h3, trivial, trivial⟩
end Go.Px
end
section
namespace Go.Px
set_option maxRecDepth 100000
def evR (L : Rows) (i : Nat) : Ev := ⟨atI L i 0, atI L i 1, atI L i 2, atI L i 3, atB L i 4, atI L i 5, atI L i 6, ⟨atI L i 7, atI L i 8, atI L i 9, atI L i 10, atI L i 11, atB L i 12, atI L i 13, atI L i 14, atI L i 15, atI L i 16, atB L i 17, atI L i 18⟩⟩
theorem nC (L : Rows) (i : Nat) : (⟨atI L i 0, atI L i 1, atI L i 2, atI L i 3, atB L i 4, atI L i 5, atI L i 6, ⟨atI L i 7, atI L i 8, atI L i 9, atI L i 10, atI L i 11, atB L i 12, atI L i 13, atI L i 14, atI L i 15, atI L i 16, atB L i 17, atI L i 18⟩⟩ : Ev) = evR L i := rfl
def A2 (i : Int) (m : Mat) (e : Ev) : Mat × Int := cond (iLe 4000 i) (m, 26) (DK m e)
def Cp (L : Rows) : Nat → Nat → Mat → Mat × Int × Int
 | 0, _, m => (m, -1, 0)
 | k + 1, i, m => cond (!((A2 i m (evR L i)).2 == 0)) (m, (i : Int), (A2 i m (evR L i)).2) (Cp L k (i + 1) (A2 i m (evR L i)).1)
def YY (i : Int) (m t : Mat) (d : Del) : List PV :=
 [.int i, .int (IntKind.i64.wrap ((m.inns.length : Int) - 1)), .int (Am m).complete, .int (Am m).inover, .int (Am m).bowler, .int (Am m).striker, .int (Am m).other, .bool (Am m).freehit,
  .int d.type, .int d.source, .int d.runs, .int d.short, .int d.boundary, .bool d.crossed, .int d.how, .int d.victim, .int d.fielder, .int d.second, .bool d.sub, .int d.sector,
  .int (AB m.rules d).batter, .int (AB m.rules d).wides, .int (AB m.rules d).noballs, .int (AB m.rules d).byes, .int (AB m.rules d).legbyes, .int (AB m.rules d).bowler, .bool (AB m.rules d).counts, .bool (AB m.rules d).faced, .bool (AB m.rules d).wicket, .bool (AB m.rules d).swap,
  .int (inn t.inns (lnx m.inns)).runs, .int (inn t.inns (lnx m.inns)).wickets]
def Qg (L : Rows) : Nat → Nat → Mat → Rows → Rows
 | 0, _, _, out => out
 | k + 1, i, m, out => cond (!((A2 i m (evR L i)).2 == 0)) out (Qg L k (i + 1) (A2 i m (evR L i)).1 (cond ((evR L i).kind == 4) (out ++ [YY i m (A2 i m (evR L i)).1 (evR L i).ball]) out))
def kD (f : Mat × Int × Int) : List PV := [.str f.1.rules.name, .int f.1.rules.side, .int f.1.rules.innings, .int f.1.rules.overs, .int f.1.rules.balls, .int f.1.rules.quota, .int f.1.rules.wide, .int f.1.rules.noball, .bool f.1.rules.freehit, .int f.1.rules.newball, .int f.1.rules.followon, .int f.1.rules.reviews, .int f.1.rules.outside, .rows f.1.rules.power, .int f.1.stage, .int f.1.first, .bool f.1.follow, .rows (Ac f.1.inns), .int f.1.pen1, .int f.1.pen2, .int f.1.win, .int f.1.wside, .int f.1.margin, .int f.2.1, .int f.2.2]
def BT (r : Rul) (L : Rows) : Mat × Int × Int := cond (!((A9 r).2 == 0)) (kK, 0, 1) (Cp L L.length 0 (A9 r).1)
def Yy (r : Rul) (L : Rows) : Rows := cond (!((A9 r).2 == 0)) [] (Qg L L.length 0 (A9 r).1 [])
theorem bL (L : Rows) : ∀ k i m, ((Cp L k i m).2.1 == -1) = true → (Cp L k i m).2.2 = 0
 | 0, _, _, _ => rfl
 | k + 1, i, m, h => by
  unfold Cp at h ⊢
  cases hq : (A2 i m (evR L i)).2 == 0 with
  | false =>
   rw [hq] at h
   have := beq_iff_eq.1 (show ((i : Int) == -1) = true from h)
   omega
  | true => rw [hq] at h; exact bL L k (i + 1) _ h
theorem bM {r : Rul} {m : Mat} (h : StepOk r m) (i : Int) (e : Ev) : StepOk r (A2 i m e).1 := by
 unfold A2
 cases iLe 4000 i with
 | true => exact h
 | false => exact gF h e
theorem gp {m : Mat} {i : Int} {e : Ev} (h : ((A2 i m e).2 == 0) = true) : A2 i m e = DK m e ∧ iLe 4000 i = false := by
 unfold A2 at h ⊢
 cases h4 : iLe 4000 i with
 | true => rw [h4] at h; exact absurd (show ((26 : Int) == 0) = true from h) (by decide)
 | false => exact ⟨rfl, rfl⟩
theorem fJ {N : Nat} {m1 m2 m3 m4 m5 m6 m7 m9 m10 m11 m12 m14 m15 m18 m19 m20 m21 m22 : Int} {m8 m16 : Bool} {m0 : ByteArray} {m13 : Rows} {m17 : List Inn} {i : Int} {e0 e1 e2 e3 e5 e6 e7 e8 e9 e10 e11 e13 e14 e15 e16 e18 : Int} {e4 e12 e17 : Bool} (hN : 2097152 < N) (hf : JM m17) (hl : m17.length ≤ 1000000) (hs : m0.size ≤ 1048576) (h13 : m13.length ≤ 1048576) : Ll N [.str m0, .int m1, .int m2, .int m3, .int m4, .int m5, .int m6, .int m7, .bool m8, .int m9, .int m10, .int m11, .int m12, .rows m13, .int m14, .int m15, .bool m16, .rows (Ac m17), .int m18, .int m19, .int m20, .int m21, .int m22, .int i, .int e0, .int e1, .int e2, .int e3, .bool e4, .int e5, .int e6, .int e7, .int e8, .int e9, .int e10, .int e11, .bool e12, .int e13, .int e14, .int e15, .int e16, .bool e17, .int e18] = some (Sv (A2 i (⟨⟨m0, m1, m2, m3, m4, m5, m6, m7, m8, m9, m10, m11, m12, m13⟩, m14, m15, m16, m17, m18, m19, m20, m21, m22⟩ : Mat) (⟨e0, e1, e2, e3, e4, e5, e6, ⟨e7, e8, e9, e10, e11, e12, e13, e14, e15, e16, e17, e18⟩⟩ : Ev))) := by
 show Lm (std (GD N) N) (xOf _) = _
 generalize hres : (some (Sv (A2 i (⟨⟨m0, m1, m2, m3, m4, m5, m6, m7, m8, m9, m10, m11, m12, m13⟩, m14, m15, m16, m17, m18, m19, m20, m21, m22⟩ : Mat) (⟨e0, e1, e2, e3, e4, e5, e6, ⟨e7, e8, e9, e10, e11, e12, e13, e14, e15, e16, e17, e18⟩⟩ : Ev))) : Option (List PV)) = RR
 simp only [Lm, SJ, std, xOf, PXb, bl hN hf hl hs h13]
 subst hres; simp only [A2]
 cases iLe 4000 i <;> rfl
theorem Xe {N : Nat} {i : Int} {m1 m2 m3 m4 m5 m6 m7 m9 m10 m11 m12 m14 m15 m18 m19 m20 m21 m22 : Int} {m8 m16 : Bool} {m0 : ByteArray} {m13 : Rows} {m17 : List Inn} {t1 t2 t3 t4 t5 t6 t7 t9 t10 t11 t12 t14 t15 t18 t19 t20 t21 t22 : Int} {t8 t16 : Bool} {t0 : ByteArray} {t13 : Rows} {t17 : List Inn} {d0 d1 d2 d3 d4 d6 d7 d8 d9 d11 : Int} {d5 d10 : Bool} (h1 : iIn (IntKind.i64.wrap ((m17.length : Int) - 1)) (m17.length : Int) = true) (h2 : iIn (IntKind.i64.wrap ((m17.length : Int) - 1)) (t17.length : Int) = true) : Hx N [.int i, .str m0, .int m1, .int m2, .int m3, .int m4, .int m5, .int m6, .int m7, .bool m8, .int m9, .int m10, .int m11, .int m12, .rows m13, .int m14, .int m15, .bool m16, .rows (Ac m17), .int m18, .int m19, .int m20, .int m21, .int m22, .str t0, .int t1, .int t2, .int t3, .int t4, .int t5, .int t6, .int t7, .bool t8, .int t9, .int t10, .int t11, .int t12, .rows t13, .int t14, .int t15, .bool t16, .rows (Ac t17), .int t18, .int t19, .int t20, .int t21, .int t22, .int d0, .int d1, .int d2, .int d3, .int d4, .bool d5, .int d6, .int d7, .int d8, .int d9, .bool d10, .int d11] = some (YY i (⟨⟨m0, m1, m2, m3, m4, m5, m6, m7, m8, m9, m10, m11, m12, m13⟩, m14, m15, m16, m17, m18, m19, m20, m21, m22⟩ : Mat) (⟨⟨t0, t1, t2, t3, t4, t5, t6, t7, t8, t9, t10, t11, t12, t13⟩, t14, t15, t16, t17, t18, t19, t20, t21, t22⟩ : Mat) (⟨d0, d1, d2, d3, d4, d5, d6, d7, d8, d9, d10, d11⟩ : Del)) := by
 show H1 (std (JQ N) N) (xOf _) = _
 simp only [H1, K4, std, xOf, PXb, PXi, h1, h2, Fu]
 rfl
end Go.Px
end
section
namespace Go.Px
set_option maxRecDepth 100000
def Pw (L : Rows) (i : Nat) (s : Rows × Mat) : List PV ⊕ Rows × Mat := cond (!((A2 i s.2 (evR L i)).2 == 0)) (.inl (.int 0 :: .rows s.1 :: .int i :: .int (A2 i s.2 (evR L i)).2 :: s.2.ls)) (.inr (cond ((evR L i).kind == 4) (s.1 ++ [YY i s.2 (A2 i s.2 (evR L i)).1 (evR L i).ball]) s.1, (A2 i s.2 (evR L i)).1))
def fR (out : Rows) (f : Mat × Int × Int) : List PV := cond (f.2.1 == -1) (.int 1 :: .rows out :: f.1.ls) (.int 0 :: .rows out :: .int f.2.1 :: .int f.2.2 :: f.1.ls)
theorem ZX (L : Rows) : ∀ k i s, Xy (Pw L) (fun s => .int 1 :: .rows s.1 :: s.2.ls) k i s = fR (Qg L k i s.2 s.1) (Cp L k i s.2)
 | 0, _, _ => rfl
 | k + 1, i, s => by
  simp only [Xy, Pw, Cp, Qg]
  cases (A2 i s.2 (evR L i)).2 == 0 with
  | false =>
   simp only [Bool.not_false, cond_true, fR]
   rw [show ((i : Int) == -1) = false from beq_false_of_ne (show (i : Int) ≠ -1 by omega)]
   rfl
  | true => exact ZX L k (i + 1) _
def ij (out : Rows) (f : Mat × Int × Int) : List PV := [.rows out, .str f.1.rules.name, .int f.1.rules.side, .int f.1.rules.innings, .int f.1.rules.overs, .int f.1.rules.balls, .int f.1.rules.quota, .int f.1.rules.wide, .int f.1.rules.noball, .bool f.1.rules.freehit, .int f.1.rules.newball, .int f.1.rules.followon, .int f.1.rules.reviews, .int f.1.rules.outside, .rows f.1.rules.power, .int f.1.stage, .int f.1.first, .bool f.1.follow, .rows (Ac f.1.inns), .int f.1.pen1, .int f.1.pen2, .int f.1.win, .int f.1.wside, .int f.1.margin, .int f.2.1, .int f.2.2]
theorem mL {m t : Mat} {e : Ev} (hl : m.inns.length ≤ 5) (h : ((DK m e).2 == 0) = true) (hk : (e.kind == 4) = true) (ht : (DK m e).1 = t) : iIn (IntKind.i64.wrap ((m.inns.length : Int) - 1)) (m.inns.length : Int) = true ∧ iIn (IntKind.i64.wrap ((m.inns.length : Int) - 1)) (t.inns.length : Int) = true := by
 obtain ⟨_, h2, _, h4⟩ := fG h hk
 have := Rw h2 (show m.inns.length ≤ 1000000 by omega)
 rw [← ht, h4, List.length_set]
 exact ⟨this, this⟩
set_option maxHeartbeats 8000000 in
theorem gC {N : Nat} {r1 r2 r3 r4 r5 r6 r7 r9 r10 r11 r12 : Int} {r8 : Bool} {r0 : ByteArray} {r13 : Rows} {L : Rows} (hN : 2097152 < N) (hs : r0.size ≤ 1048576) (h13 : r13.length ≤ 1048576) (hL : L.length ≤ 1048576) : LN N [.str r0, .int r1, .int r2, .int r3, .int r4, .int r5, .int r6, .int r7, .bool r8, .int r9, .int r10, .int r11, .int r12, .rows r13, .rows L] = some (ij (Yy (⟨r0, r1, r2, r3, r4, r5, r6, r7, r8, r9, r10, r11, r12, r13⟩ : Rul) L) (BT (⟨r0, r1, r2, r3, r4, r5, r6, r7, r8, r9, r10, r11, r12, r13⟩ : Rul) L)) := by
  show LW (std (DT N) N) (xOf _) = _
  generalize hres : (some (ij (Yy (⟨r0, r1, r2, r3, r4, r5, r6, r7, r8, r9, r10, r11, r12, r13⟩ : Rul) L) (BT (⟨r0, r1, r2, r3, r4, r5, r6, r7, r8, r9, r10, r11, r12, r13⟩ : Rul) L)) : Option (List PV)) = RR
  simp only [LW, S5, MQ, IH, std, xOf, PXb, eC hN hs h13]
  subst hres; simp only [Yy, BT]
  have nk := eP (⟨r0, r1, r2, r3, r4, r5, r6, r7, r8, r9, r10, r11, r12, r13⟩ : Rul)
  generalize A9 (⟨r0, r1, r2, r3, r4, r5, r6, r7, r8, r9, r10, r11, r12, r13⟩ : Rul) = X at nk
  obtain ⟨⟨⟨m0, m1, m2, m3, m4, m5, m6, m7, m8, m9, m10, m11, m12, m13⟩, m14, m15, m16, m17, m18, m19, m20, m21, m22⟩, l⟩ := X
  simp only at nk
  simp only [PXb, PXc, PXk, Nat.reduceAdd]
  cases hl : l == 0
  case false => rfl
  have ok := nk hl
  simp only [PXb]
  refine AZ (ZK (St := Rows × Mat) (len := L.length) (enc := fun i s => [.rows s.1, .int (i : Int), .str s.2.rules.name, .int s.2.rules.side, .int s.2.rules.innings, .int s.2.rules.overs, .int s.2.rules.balls, .int s.2.rules.quota, .int s.2.rules.wide, .int s.2.rules.noball, .bool s.2.rules.freehit, .int s.2.rules.newball, .int s.2.rules.followon, .int s.2.rules.reviews, .int s.2.rules.outside, .rows s.2.rules.power, .int s.2.stage, .int s.2.first, .bool s.2.follow, .rows (Ac s.2.inns), .int s.2.pen1, .int s.2.pen2, .int s.2.win, .int s.2.wside, .int s.2.margin])
    (body := Pw L) (fin := fun s => .int 1 :: .rows s.1 :: s.2.ls) (fun i s => StepOk (⟨r0, r1, r2, r3, r4, r5, r6, r7, r8, r9, r10, r11, r12, r13⟩ : Rul) s.2 ∧ s.1.length ≤ i) ?_ ?_ L.length 0 ([], (⟨⟨m0, m1, m2, m3, m4, m5, m6, m7, m8, m9, m10, m11, m12, m13⟩, m14, m15, m16, m17, m18, m19, m20, m21, m22⟩ : Mat)) N (by omega) (by omega) ⟨ok, Nat.zero_le _⟩) ?_
  · intro m self _
    simp only [PXb, PXc, PXn, AG, BM]
    rfl
  · intro i s self hi ok
    obtain ⟨out, ⟨⟨a0, a1, a2, a3, a4, a5, a6, a7, a8, a9, a10, a11, a12, a13⟩, a14, a15, a16, a17, a18, a19, a20, a21, a22⟩⟩ := s
    obtain ⟨ok, hout⟩ := ok
    have o1 := ok.rules
    have o2 := ok.fit
    have o3 := ok.len
    simp only at o1 o2 o3 hout
    cases o1
    have kp := bM ok (i : Int) (evR L i)
    have acc := gp (m := (⟨⟨r0, r1, r2, r3, r4, r5, r6, r7, r8, r9, r10, r11, r12, r13⟩, a14, a15, a16, a17, a18, a19, a20, a21, a22⟩ : Mat)) (i := (i : Int)) (e := evR L i)
    refine ⟨?_, ?_⟩
    · simp only [PXb, PXc, PXn, AG, Ar (show i ≤ 1099511627776 by omega), A0 hi, Ab hi, MQ, fJ hN o2 (show a17.length ≤ 1000000 by omega) hs h13, CG, Y6, Nat.reduceAdd, PXk, PXc, nC, List.length_append, List.length_cons, List.length_nil, IH]
      unfold Pw
      simp only
      generalize hT : A2 (i : Int) (⟨⟨r0, r1, r2, r3, r4, r5, r6, r7, r8, r9, r10, r11, r12, r13⟩, a14, a15, a16, a17, a18, a19, a20, a21, a22⟩ : Mat) (evR L i) = T at acc
      obtain ⟨⟨⟨b0, b1, b2, b3, b4, b5, b6, b7, b8, b9, b10, b11, b12, b13⟩, b14, b15, b16, b17, b18, b19, b20, b21, b22⟩, l2⟩ := T
      simp only at acc
      simp only
      cases hl2 : l2 == 0
      case false => rfl
      have hk0 : (evR L i).kind = atI L i 0 := rfl
      rw [hk0]
      simp only [PXb]
      cases hk : atI L i 0 == 4
      case false => rfl
      have ha := (acc hl2).1
      have hd := mL (m := (⟨⟨r0, r1, r2, r3, r4, r5, r6, r7, r8, r9, r10, r11, r12, r13⟩, a14, a15, a16, a17, a18, a19, a20, a21, a22⟩ : Mat)) (e := evR L i) o3 (by rw [← ha]; exact hl2) hk (congrArg Prod.fst ha).symm
      simp only at hd
      have h216 : iSm ((out.length + 1 : Nat) : Int) 216 = true := G5 (by omega) (by omega)
      simp only [PXb, PXc, Xe hd.1 hd.2, h216]
      rfl
    · intro s' h
      unfold Pw at h
      simp only at h
      cases hq : (A2 (i : Int) (⟨⟨r0, r1, r2, r3, r4, r5, r6, r7, r8, r9, r10, r11, r12, r13⟩, a14, a15, a16, a17, a18, a19, a20, a21, a22⟩ : Mat) (evR L i)).2 == 0 with
      | false => rw [hq] at h; cases h
      | true =>
        rw [hq] at h; cases h
        refine ⟨kp, ?_⟩
        cases (evR L i).kind == 4 with
        | false => show out.length ≤ _; omega
        | true => show (out ++ [_]).length ≤ _; rw [List.length_append]; simp; omega
  · rw [ZX]
    have he := bL L L.length 0 (⟨⟨m0, m1, m2, m3, m4, m5, m6, m7, m8, m9, m10, m11, m12, m13⟩, m14, m15, m16, m17, m18, m19, m20, m21, m22⟩ : Mat)
    simp only
    generalize Qg L L.length 0 (⟨⟨m0, m1, m2, m3, m4, m5, m6, m7, m8, m9, m10, m11, m12, m13⟩, m14, m15, m16, m17, m18, m19, m20, m21, m22⟩ : Mat) [] = out
    generalize Cp L L.length 0 (⟨⟨m0, m1, m2, m3, m4, m5, m6, m7, m8, m9, m10, m11, m12, m13⟩, m14, m15, m16, m17, m18, m19, m20, m21, m22⟩ : Mat) = f at he
    obtain ⟨⟨⟨a0, a1, a2, a3, a4, a5, a6, a7, a8, a9, a10, a11, a12, a13⟩, a14, a15, a16, a17, a18, a19, a20, a21, a22⟩, b, l⟩ := f
    simp only at he
    unfold fR
    cases hb : b == -1 with
    | false => rfl
    | true =>
      rw [he hb, beq_iff_eq.1 hb]
      rfl
end Go.Px
end
section
namespace Go.Px
set_option maxRecDepth 100000
theorem bg {N : Nat} {r1 r2 r3 r4 r5 r6 r7 r9 r10 r11 r12 : Int} {r8 : Bool} {r0 : ByteArray} {r13 : Rows} {L : Rows} (hN : 2097152 < N) (hs : r0.size ≤ 1048576) (h13 : r13.length ≤ 1048576) (hL : L.length ≤ 1048576) : IQ N [.str r0, .int r1, .int r2, .int r3, .int r4, .int r5, .int r6, .int r7, .bool r8, .int r9, .int r10, .int r11, .int r12, .rows r13, .rows L] = some (kD (BT (⟨r0, r1, r2, r3, r4, r5, r6, r7, r8, r9, r10, r11, r12, r13⟩ : Rul) L)) := by
 show IY (std (EJ N) N) (xOf _) = _
 generalize hres : (some (kD (BT (⟨r0, r1, r2, r3, r4, r5, r6, r7, r8, r9, r10, r11, r12, r13⟩ : Rul) L)) : Option (List PV)) = RR
 simp only [IY, SC, std, xOf, PXb, gC hN hs h13 hL]
 subst hres
 rfl
def Bj (r : Rul) (L : Rows) : Int := cond (!(A5 r == 0)) (A5 r) (cond (iLt 4000 (L.length : Int)) 9 (cond (!((BT r L).2.2 == 0)) 10 0))
theorem WI {N : Nat} {r1 r2 r3 r4 r5 r6 r7 r9 r10 r11 r12 : Int} {r8 : Bool} {r0 : ByteArray} {r13 : Rows} {L : Rows} (hN : 2097152 < N) (hs : r0.size ≤ 1048576) (h13 : r13.length ≤ 1048576) (hL : L.length ≤ 1048576) : DM N [.str r0, .int r1, .int r2, .int r3, .int r4, .int r5, .int r6, .int r7, .bool r8, .int r9, .int r10, .int r11, .int r12, .rows r13, .rows L] = some [.int (Bj (⟨r0, r1, r2, r3, r4, r5, r6, r7, r8, r9, r10, r11, r12, r13⟩ : Rul) L)] := by
 show Ji (std (Ds N) N) (xOf _) = _
 generalize hres : (some [.int (Bj (⟨r0, r1, r2, r3, r4, r5, r6, r7, r8, r9, r10, r11, r12, r13⟩ : Rul) L)] : Option (List PV)) = RR
 simp only [Ji, Rj, QP, std, xOf, PXb, C4 hN hs, bg hN hs h13 hL, PXm]
 subst hres; simp only [Bj]
 rfl
def BG (L : Rows) (n : Int) : Rows := (L.take n.toNat).drop (0 : Int).toNat
theorem gY (L : Rows) (n : Int) : (BG L n).length ≤ L.length := by
 unfold BG
 rw [List.length_drop, List.length_take]
 omega
structure LogOk (m : Mat) : Prop where
 fit : JM m.inns
 len : m.inns.length ≤ 5
 name : m.rules.name.size ≤ 1048576
 power : m.rules.power.length ≤ 1048576
end Go.Px
end
section
namespace Go.Px
set_option maxRecDepth 100000
def acc (L : Rows) : Nat → Nat → Mat → Prop
 | 0, _, _ => True
 | k + 1, i, m => ((A2 i m (evR L i)).2 == 0) = true ∧ acc L k (i + 1) (A2 i m (evR L i)).1
def stM (L : Rows) : Nat → Nat → Mat → Mat
 | 0, _, m => m
 | k + 1, i, m => stM L k (i + 1) (A2 i m (evR L i)).1
def kJ (L : Rows) : Nat → Nat → Mat → Rows → Rows
 | 0, _, _, out => out
 | k + 1, i, m, out => kJ L k (i + 1) (A2 i m (evR L i)).1 (cond ((evR L i).kind == 4) (out ++ [YY i m (A2 i m (evR L i)).1 (evR L i).ball]) out)
theorem YX {L : Rows} : ∀ k j i m, acc L k i m → Cp L (k + j) i m = Cp L j (i + k) (stM L k i m)
 | 0, j, i, m, _ => by rw [Nat.zero_add]; rfl
 | k + 1, j, i, m, h => by
  have ih := YX k j (i + 1) _ h.2
  rw [show k + 1 + j = (k + j) + 1 by omega, show i + (k + 1) = i + 1 + k by omega]
  simp only [Cp, h.1, Bool.not_true, cond_false]
  exact ih
theorem au (L : Rows) : ∀ K i m, ∃ k, k ≤ K ∧ acc L k i m ∧ (∀ out, Qg L K i m out = kJ L k i m out) ∧
    ((k = K ∧ Cp L K i m = (stM L k i m, -1, 0)) ∨ (k < K ∧ ((A2 ((i + k : Nat) : Int) (stM L k i m) (evR L (i + k))).2 == 0) = false ∧ Cp L K i m = (stM L k i m, ((i + k : Nat) : Int), (A2 ((i + k : Nat) : Int) (stM L k i m) (evR L (i + k))).2)))
  | 0, i, m => ⟨0, Nat.le_refl _, trivial, fun _ => rfl, Or.inl ⟨rfl, rfl⟩⟩
  | K + 1, i, m => by
    cases hq : (A2 i m (evR L i)).2 == 0 with
    | false =>
      refine ⟨0, Nat.zero_le _, trivial, fun out => ?_, Or.inr ⟨Nat.succ_pos _, hq, ?_⟩⟩
      · simp only [Qg, hq, Bool.not_false, cond_true]; rfl
      · simp only [Cp, hq, Bool.not_false, cond_true]; rfl
    | true =>
      obtain ⟨k, h1, h2, h3, h4⟩ := au L K (i + 1) (A2 i m (evR L i)).1
      refine ⟨k + 1, Nat.succ_le_succ h1, ⟨hq, h2⟩, fun out => ?_, ?_⟩
      · simp only [Qg, hq, Bool.not_true, cond_false]
        exact h3 _
      · have e : Cp L (K + 1) i m = Cp L K (i + 1) (A2 i m (evR L i)).1 := by simp only [Cp, hq, Bool.not_true, cond_false]
        rw [e, show i + (k + 1) = i + 1 + k by omega]
        rcases h4 with ⟨h5, h6⟩ | ⟨h5, h6⟩
        · exact Or.inl ⟨by omega, h6⟩
        · exact Or.inr ⟨by omega, h6⟩
theorem iA {L : Rows} : ∀ k j i m, j ≤ k → acc L k i m → acc L j i m
 | _, 0, _, _, _, _ => trivial
 | 0, j + 1, _, _, h, _ => absurd h (by omega)
 | k + 1, j + 1, i, m, h, ha => ⟨ha.1, iA k j (i + 1) _ (by omega) ha.2⟩
theorem j9 {L : Rows} {k i : Nat} {m : Mat} (h : acc L k i m) : Cp L k i m = (stM L k i m, -1, 0) := YX k 0 i m h
theorem jY {L : Rows} {n : Int} {i : Nat} (h : (i : Int) < n) : evR (BG L n) i = evR L i := by
 have e : ∀ j, AE (BG L n) i j = AE L i j := fun j => by
  unfold AE Af BG
  rw [List.getD_eq_getElem?_getD, List.getD_eq_getElem?_getD, List.getElem?_drop, List.getElem?_take, if_pos (by omega)]
  simp
 unfold evR atI atB
 simp only [e]
theorem XX {L : Rows} {n : Nat} (h : n ≤ L.length) : (BG L (n : Int)).length = n := by
 unfold BG
 rw [List.length_drop, List.length_take]
 omega
theorem YQ {L : Rows} {n : Int} : ∀ k i m, ((i + k : Nat) : Int) ≤ n → Cp (BG L n) k i m = Cp L k i m
 | 0, _, _, _ => rfl
 | k + 1, i, m, h => by
  simp only [Cp]
  rw [jY (show (i : Int) < n by omega), YQ k (i + 1) _ (by omega)]
theorem bI {r : Rul} {L : Rows} {n : Nat} (hc : ((A9 r).2 == 0) = true) (h : n ≤ L.length) : BT r (BG L (n : Int)) = Cp L n 0 (A9 r).1 := by
 unfold BT
 rw [hc, XX h]
 exact YQ n 0 _ (by omega)
theorem dJ (r : Rul) : ((A9 r).2 == 0) = (A5 r == 0) := by
 unfold A9
 cases h : A5 r == 0 with
 | false => exact h
 | true => rfl
theorem eE {r : Rul} {L : Rows} {n : Nat} (hc : (A5 r == 0) = true) (h : n ≤ L.length) (ha : acc L n 0 (A9 r).1) : BT r (BG L (n : Int)) = (stM L n 0 (A9 r).1, -1, 0) := by
 rw [bI ((dJ r).trans hc) h]
 exact j9 ha
theorem bO {L : Rows} : ∀ k i m, stM L (k + 1) i m = (A2 ((i + k : Nat) : Int) (stM L k i m) (evR L (i + k))).1
 | 0, i, m => rfl
 | k + 1, i, m => by
  show stM L (k + 1) (i + 1) _ = _
  rw [bO k (i + 1), show i + 1 + k = i + (k + 1) by omega]
  rfl
end Go.Px
end
section
namespace Go.Px
set_option maxRecDepth 100000
theorem gf {L : Rows} : ∀ k i m, acc L k i m → ∀ j, j < k → ((A2 ((i + j : Nat) : Int) (stM L j i m) (evR L (i + j))).2 == 0) = true
 | 0, _, _, _, j, h => absurd h (Nat.not_lt_zero j)
 | k + 1, i, m, ha, 0, _ => ha.1
 | k + 1, i, m, ha, j + 1, h => by
  have := gf k (i + 1) _ ha.2 j (by omega)
  rw [show i + 1 + j = i + (j + 1) by omega] at this
  exact this
end Go.Px
end
section
namespace Go.Px
set_option maxRecDepth 100000
abbrev wr (n : Int) : Int := IntKind.i64.wrap n
structure Nums (q : Int) (s t : Inn) (a b c : Int) : Prop where
 runs : wr (t.runs - t.pens) = wr (s.runs - s.pens + a)
 rw : wr s.runs = s.runs → wr t.runs = t.runs
 balls : Cd q t.complete t.inover = wr (s.complete * q + s.inover + b)
 wk : wr t.wickets = wr (s.wickets + c)
theorem Pj (q c i : Int) : Cd q c i = wr (c * q + i) := by
 unfold Cd
 simp only [wr, MZ]
 omega
theorem Nums.of {q : Int} {s t : Inn} (h1 : t.runs = s.runs) (h2 : t.pens = s.pens) (h3 : t.complete = s.complete) (h4 : t.inover = s.inover) (h5 : t.wickets = s.wickets) : Nums q s t 0 0 0 :=
 ⟨by rw [h1, h2, Int.add_zero], fun h => by rw [h1]; exact h, by rw [h3, h4, Pj, Int.add_zero], by rw [h5, Int.add_zero]⟩
theorem Nums.out {q : Int} {s t : Inn} (h1 : t.runs = s.runs) (h2 : t.pens = s.pens) (h3 : t.complete = s.complete) (h4 : t.inover = s.inover) (h5 : t.wickets = wr (s.wickets + 1)) : Nums q s t 0 0 1 :=
 ⟨by rw [h1, h2, Int.add_zero], fun h => by rw [h1]; exact h, by rw [h3, h4, Pj, Int.add_zero], by rw [h5]; exact Gn _⟩
theorem Nums.pen (q : Int) (s : Inn) : Nums q s (OB s) 0 0 0 :=
 ⟨by show wr (wr (s.runs + 5) - wr (s.pens + 5)) = _; simp only [wr, MZ]; omega, fun _ => Gn _, by show Cd q s.complete s.inover = _; rw [Pj, Int.add_zero], by show wr s.wickets = _; rw [Int.add_zero]⟩
def Bs (e : Ev) : Int := cond ((e.kind == 5 && e.yes) || (e.kind == 6 && !e.yes)) 1 0
theorem Nums.fin {q : Int} {s t : Inn} {a b c : Int} (h : Nums q s t a b c) (r : Rul) (x : Bool) : Nums q s (Bk r t x) a b c := ⟨h.runs, h.rw, h.balls, h.wk⟩
def LM (e : Ev) : Int := cond (e.kind == 4) (cond (e.ball.how == 0) 0 1) (Bs e)
structure SumInv (q : Int) (xs : List Inn) (R B : Nat → Int) (O : Int) : Prop where
 runs : ∀ i, i < xs.length → wr ((inn xs i).runs - (inn xs i).pens) = wr (R i)
 rw : ∀ i, i < xs.length → wr (inn xs i).runs = (inn xs i).runs
 balls : ∀ i, i < xs.length → Cd q (inn xs i).complete (inn xs i).inover = wr (B i)
 zero : ∀ i, xs.length ≤ i → R i = 0 ∧ B i = 0
 wk : wr (xs.map Inn.wickets).sum = wr O
theorem SumInv.congr {q : Int} {xs : List Inn} {R B R' B' : Nat → Int} {O O' : Int} (h : SumInv q xs R B O) (h1 : ∀ i, R i = R' i) (h2 : ∀ i, B i = B' i) (h3 : O = O') : SumInv q xs R' B' O' :=
 ⟨fun i hi => (h.runs i hi).trans (by rw [h1]), h.rw, fun i hi => (h.balls i hi).trans (by rw [h2]), fun i hi => by rw [← h1, ← h2]; exact h.zero i hi, h.wk.trans (by rw [h3])⟩
def rT (L : Rows) (j : Nat) : Int := Cl ⟨atI L j 20, atI L j 21, atI L j 22, atI L j 23, atI L j 24, atI L j 25, atB L j 26, atB L j 27, atB L j 28, atB L j 29⟩
def rS (L : Rows) (i : Nat) : Nat → Int
 | 0 => 0
 | n + 1 => rS L i n + cond (atI L n 1 == (i : Int)) (rT L n) 0
def bS (L : Rows) (i : Nat) : Nat → Int
 | 0 => 0
 | n + 1 => bS L i n + cond (atI L n 1 == (i : Int) && atB L n 26) 1 0
def hS (L : Rows) : Nat → Int
 | 0 => 0
 | n + 1 => hS L n + cond (atI L n 14 == 0) 0 1
end Go.Px
end
