/- Part 11. -/
import Derived.Test.YtapipgdcgmmkaaaGreatPart07
import Derived.Test.YtapipgdcgmmkaaaGreatPart10
set_option linter.unusedVariables false
set_option linter.unusedSimpArgs false
section
namespace Go.Px
def VR (xs : List Inn) : Rows := xs.map Inn.ls
def dI : Inn := ⟨0, 0, 0, 0, 0, 0, 0, 0, 0, 0, 0, 0, 0, 0, [], 0, [], [], false, [], false, 0, 0, 0, [], 0, 0, 0⟩
def inn (xs : List Inn) (i : Nat) : Inn := xs.getD i dI
structure Mat where
 rules : Rul
 stage : Int
 first : Int
 follow : Bool
 inns : List Inn
 pen1 : Int
 pen2 : Int
 win : Int
 wside : Int
 margin : Int
def Mat.ls (m : Mat) : List PV := [.str m.rules.name, .int m.rules.side, .int m.rules.innings, .int m.rules.overs, .int m.rules.balls, .int m.rules.quota, .int m.rules.wide, .int m.rules.noball, .bool m.rules.freehit, .int m.rules.newball, .int m.rules.followon, .int m.rules.reviews, .int m.rules.outside, .rows m.rules.power, .int m.stage, .int m.first, .bool m.follow, .rows (VR m.inns), .int m.pen1, .int m.pen2, .int m.win, .int m.wside, .int m.margin]
theorem Mat.eta (m : Mat) : Mat.mk m.rules m.stage m.first m.follow m.inns m.pen1 m.pen2 m.win m.wside m.margin = m := rfl
end Go.Px
end
section
namespace Go.Px
set_option maxRecDepth 100000
def Uu (n : Int) : Int := IntKind.i64.wrap (3 - n)
def Ul (m : Mat) (i : Int) : Int := cond (cond (m.follow && iLe 2 i) (i == 2) (i.tmod 2 == 1)) (Uu m.first) m.first
end Go.Px
end
section
namespace Go.Px
set_option maxRecDepth 100000
def Tw (xs : List Inn) : Prop := ∀ i, i < xs.length → (inn xs i).Fit
def U9 : Rul := ⟨⟨#[]⟩, 0, 0, 0, 0, 0, 0, 0, false, 0, 0, 0, 0, []⟩
end Go.Px
end
section
namespace Go.Px
set_option maxRecDepth 100000
theorem bind_ok {X : Option (List PV)} {r : List PV} {k : List PV → Option (List PV)} {g : Option (List PV)} (h : X = some r) (hk : k r = g) : X.bind k = g := by rw [h]; exact hk
structure MatOk (m : Mat) : Prop where
 code : CK m.rules = 0
 len : m.inns.length ≤ 4
 innv : ∀ i, i < m.inns.length → Um m.rules (inn m.inns i) = true ∧ (inn m.inns i).side = Ul m (i : Int)
 begun : (m.stage == 3) = true → ((m.inns.length : Int) == 0) = false
 toss : (m.stage == 2) = true → m.first = 1 ∨ m.first = 2
 room : (m.stage == 2) = true → (m.inns.length : Int) < 2 * m.rules.innings
 most : IntKind.i64.wrap (2 * m.rules.innings) = 2 * m.rules.innings ∧ (m.inns.length : Int) ≤ 2 * m.rules.innings
structure ActOk (m : Mat) (x : Mat × Int) : Prop where
 rules : x.1.rules = m.rules
 fit : Tw x.1.inns
 len : x.1.inns.length ≤ 5
 some' : (x.2 == 0) = true → (x.1.stage == 3) = true → ((x.1.inns.length : Int) == 0) = false
end Go.Px
end
section
namespace Go.Px
set_option maxRecDepth 100000
structure StepOk (r : Rul) (m : Mat) : Prop where
 rules : m.rules = r
 fit : Tw m.inns
 len : m.inns.length ≤ 5
theorem SX (b : ByteArray) : (b.toList == b.toList) = true := beq_self_eq_true _
theorem Pf {N : Nat} {r1 r2 r3 r4 r5 r6 r7 r9 r10 r11 r12 : Int} {r8 : Bool} {r0 : ByteArray} {r13 : Rows} (hN : 2097152 < N) (h13 : r13.length ≤ 1048576) : G8 N [.str r0, .int r1, .int r2, .int r3, .int r4, .int r5, .int r6, .int r7, .bool r8, .int r9, .int r10, .int r11, .int r12, .rows r13, .str r0, .int r1, .int r2, .int r3, .int r4, .int r5, .int r6, .int r7, .bool r8, .int r9, .int r10, .int r11, .int r12, .rows r13] = some [.bool true] := by
 show G6 (std (L9 N) N) (xOf _) = _
 simp only [G6, std, xOf, PXb, PXm]
 refine F1 (UE (len := r13.length) (fun i => [.int (i : Int)]) [.int 1] ?_ ?_ N (by omega)) ?_
 ·intro self
  simp only [PXb, PXc, PXn, Bo, Mk]
 ·intro i self hi
  simp only [PXb, PXc, PXn, PXm, Nat.reduceAdd, Int.reduceBEq, Hs (show i ≤ 1099511627776 by omega), Lc hi, Hj hi]
  rfl
 ·simp only [PXb, PXc, PXn, PXm, Nat.reduceAdd, Int.reduceBEq, SX]
end Go.Px
end
section
namespace Go.Px
set_option maxRecDepth 100000
structure LogOk (m : Mat) : Prop where
 fit : Tw m.inns
 len : m.inns.length ≤ 5
 name : m.rules.name.size ≤ 1048576
 power : m.rules.power.length ≤ 1048576
end Go.Px
end
section
namespace Go.Px
set_option maxRecDepth 100000
def Bm (r : Rul) : Rul × Int := cond (!(CK r == 0)) (U9, CK r) (⟨⟨#[83, 85, 80, 69, 82]⟩, cond (iLt r.side 3) r.side 3, 1, 1, r.balls, 0, r.wide, r.noball, r.freehit, 0, 0, r.reviews, r.outside, []⟩, 0)
def Ox (x : Rul × Int) : List PV := [.str x.1.name, .int x.1.side, .int x.1.innings, .int x.1.overs, .int x.1.balls, .int x.1.quota, .int x.1.wide, .int x.1.noball, .bool x.1.freehit, .int x.1.newball, .int x.1.followon, .int x.1.reviews, .int x.1.outside, .rows x.1.power, .int x.2]
theorem M0 {N : Nat} {r1 r2 r3 r4 r5 r6 r7 r9 r10 r11 r12 : Int} {r8 : Bool} {r0 : ByteArray} {r13 : Rows} (hN : 2097152 < N) (hs : r0.size ≤ 1048576) : A9 N [.str r0, .int r1, .int r2, .int r3, .int r4, .int r5, .int r6, .int r7, .bool r8, .int r9, .int r10, .int r11, .int r12, .rows r13] = some (Ox (Bm (⟨r0, r1, r2, r3, r4, r5, r6, r7, r8, r9, r10, r11, r12, r13⟩ : Rul))) := by
 show CM (std (DB N) N) (xOf _) = _
 generalize hres : (some (Ox (Bm (⟨r0, r1, r2, r3, r4, r5, r6, r7, r8, r9, r10, r11, r12, r13⟩ : Rul))) : Option (List PV)) = RR
 simp only [CM, FG, std, xOf, PXb, PXc, PXn, PXm, Nat.reduceAdd, Int.reduceBEq, GV hN hs]
 subst hres; simp only [Bm]
 cases CK (⟨r0, r1, r2, r3, r4, r5, r6, r7, r8, r9, r10, r11, r12, r13⟩ : Rul) == 0 <;> rfl
theorem SD {N : Nat} {r1 r2 r3 r4 r5 r6 r7 r9 r10 r11 r12 : Int} {r8 : Bool} {r0 : ByteArray} {r13 : Rows} (hN : 2097152 < N) (hs : r0.size ≤ 1048576) : Fp N [.str r0, .int r1, .int r2, .int r3, .int r4, .int r5, .int r6, .int r7, .bool r8, .int r9, .int r10, .int r11, .int r12, .rows r13] = some (Ox (Bm (⟨r0, r1, r2, r3, r4, r5, r6, r7, r8, r9, r10, r11, r12, r13⟩ : Rul))) := by
 show Fw (std (GO N) N) (xOf _) = _
 generalize hres : (some (Ox (Bm (⟨r0, r1, r2, r3, r4, r5, r6, r7, r8, r9, r10, r11, r12, r13⟩ : Rul))) : Option (List PV)) = RR
 simp only [Fw, Jr, std, xOf, PXb, PXc, PXn, PXm, Nat.reduceAdd, Int.reduceBEq, R7 hN hs]
 subst hres; simp only [Bm]
 cases CK (⟨r0, r1, r2, r3, r4, r5, r6, r7, r8, r9, r10, r11, r12, r13⟩ : Rul) == 0 <;> rfl
end Go.Px
end
section
namespace Go.Px
set_option maxRecDepth 100000
theorem S6 (r : Rul) : (Bm r).1.name.size ≤ 1048576 := by
 unfold Bm
 cases CK r == 0
 ·exact Nat.zero_le _
 ·show (5 : Nat) ≤ 1048576
  omega
theorem SC (r : Rul) : (Bm r).1.power.length ≤ 1048576 := by
 unfold Bm
 cases CK r == 0 <;> exact Nat.zero_le _
theorem Qi {N : Nat} {r1 r2 r3 r4 r5 r6 r7 r9 r10 r11 r12 : Int} {r8 : Bool} {r0 : ByteArray} {r13 : Rows}  : Cu N [.str r0, .int r1, .int r2, .int r3, .int r4, .int r5, .int r6, .int r7, .bool r8, .int r9, .int r10, .int r11, .int r12, .rows r13] = some (EF (⟨r0, r1, r2, r3, r4, r5, r6, r7, r8, r9, r10, r11, r12, r13⟩ : Rul)).ls := by
 show Cp (std (CC N) N) (xOf _) = _
 simp only [Cp, std, xOf, PXb, PXc, PXn, PXm, Nat.reduceAdd, Int.reduceBEq, UQ (show (0 : Int) ≤ 20 by omega), UQ (show (0 : Int) ≤ 10 by omega)]
 rfl
theorem Rv {N : Nat} {r1 r2 r3 r4 r5 r6 r7 r9 r10 r11 r12 : Int} {r8 : Bool} {r0 : ByteArray} {r13 : Rows} (hN : 2097152 < N) (hs : r0.size ≤ 1048576) : FE N [.str r0, .int r1, .int r2, .int r3, .int r4, .int r5, .int r6, .int r7, .bool r8, .int r9, .int r10, .int r11, .int r12, .rows r13] = some [.int (cond (!(CK (⟨r0, r1, r2, r3, r4, r5, r6, r7, r8, r9, r10, r11, r12, r13⟩ : Rul) == 0)) 0 (IntKind.i64.wrap (r3 * r4)))] := by
 show Ez (std (Fl N) N) (xOf _) = _
 simp only [Ez, HN, std, xOf, PXb, PXc, PXn, PXm, Nat.reduceAdd, Int.reduceBEq, GV hN hs]
theorem S1 {r : Rul} (h : ((Bm r).2 == 0) = true) : (CK (Bm r).1 == 0) = true ∧ (Bm r).1.overs = 1 ∧ (Bm r).1.balls = r.balls ∧ r.balls ≤ 8 ∧ 4 ≤ r.balls := by
 unfold Bm at h ⊢
 cases hc : CK r == 0 with
 | false => rw [hc] at h; exact absurd (show (CK r == 0) = true from h) (by rw [hc]; decide)
 | true =>
  have rk := Ui (beq_iff_eq.1 hc)
  refine ⟨?_, rfl, rfl, rk.balls.2, rk.balls.1⟩
  show (B7 ⟨#[83, 85, 80, 69, 82]⟩ (cond (iLt r.side 3) r.side 3) 1 1 r.balls 0 r.wide r.noball 0 0 r.reviews r.outside [] == 0) = true
  have n : Dt ⟨#[83, 85, 80, 69, 82]⟩ = true := by decide
  have hs : 2 ≤ (cond (iLt r.side 3) r.side 3) ∧ (cond (iLt r.side 3) r.side 3) ≤ 11 := by
   have := rk.side
   cases iLt r.side 3
   ·show (2 : Int) ≤ 3 ∧ (3 : Int) ≤ 11
    decide
   ·exact this
  have g : CG (cond (iLt r.side 3) r.side 3) 1 1 r.balls 0 r.wide r.noball 0 0 r.reviews r.outside = true := by
   have h1 := rk.balls
   have h2 := rk.wide
   have h3 := rk.noball
   have h4 := rk.reviews
   have h5 := rk.outside
   unfold CG
   simp only [Bool.and_eq_true, SS]
   omega
  unfold B7
  rw [n, g]
  rfl
set_option maxHeartbeats 2000000 in
theorem KR {N : Nat} {r1 r2 r3 r4 r5 r6 r7 r9 r10 r11 r12 : Int} {r8 : Bool} {r0 : ByteArray} {r13 : Rows} (ha : Dy N [] = some [.bool true]) (hN : 2097152 < N) (hs : r0.size ≤ 1048576) : BS N [.str r0, .int r1, .int r2, .int r3, .int r4, .int r5, .int r6, .int r7, .bool r8, .int r9, .int r10, .int r11, .int r12, .rows r13] = some [.bool true] := by
 show BR (std (AP N) N) (xOf _) = _
 have nn := RJ (⟨r0, r1, r2, r3, r4, r5, r6, r7, r8, r9, r10, r11, r12, r13⟩ : Rul) hs
 have sn := S6 (EF (⟨r0, r1, r2, r3, r4, r5, r6, r7, r8, r9, r10, r11, r12, r13⟩ : Rul))
 have sp := SC (EF (⟨r0, r1, r2, r3, r4, r5, r6, r7, r8, r9, r10, r11, r12, r13⟩ : Rul))
 simp only [BR, En, EL, EJ, DW, E2, FF, Eb, std, xOf, PXb, PXc, PXn, PXm, Nat.reduceAdd, Int.reduceBEq, ha, Qi, Rul.ls, M0 hN nn, SD hN nn, Ox, Pf hN sp, GV hN sn, Rv hN sn]
 cases h : (Bm (EF (⟨r0, r1, r2, r3, r4, r5, r6, r7, r8, r9, r10, r11, r12, r13⟩ : Rul))).2 == 0 with
 | false => rfl
 | true =>
  obtain ⟨h1, h2, h3, h4, h5⟩ := S1 h
  have hw : IntKind.i64.wrap (1 * (EF (⟨r0, r1, r2, r3, r4, r5, r6, r7, r8, r9, r10, r11, r12, r13⟩ : Rul)).balls) = (EF (⟨r0, r1, r2, r3, r4, r5, r6, r7, r8, r9, r10, r11, r12, r13⟩ : Rul)).balls := by rw [Int.one_mul]; exact Qw (by omega) (by omega)
  simp only [h1, h2, h3, hw, PXb, beq_self_eq_true]
end Go.Px
end
