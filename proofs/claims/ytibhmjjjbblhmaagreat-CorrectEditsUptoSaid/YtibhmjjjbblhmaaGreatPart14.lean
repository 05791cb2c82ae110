/- Part 14. -/
import Derived.Test.YtibhmjjjbblhmaaGreatPart13
set_option linter.unusedVariables false
set_option linter.unusedSimpArgs false
namespace Go.Px
set_option maxRecDepth 100000
def KF (r : Rul) (L : Rows) : Rows × Int × Int := cond (!((Bq r L).2.2 == 0)) ([], (Bq r L).2.1, (Bq r L).2.2) (L, -1, 0)
def B3 (x : Rows × Int × Int) : List PV := [.rows x.1, .int x.2.1, .int x.2.2]
theorem Lx {N : Nat} {r1 r2 r3 r4 r5 r6 r7 r9 r10 r11 r12 : Int} {r8 : Bool} {r0 : ByteArray} {r13 : Rows} {L : Rows} (hN : 2097152 < N) (hs : r0.size ≤ 1048576) (h13 : r13.length ≤ 1048576) (hL : L.length ≤ 1048576) : A5 N [.str r0, .int r1, .int r2, .int r3, .int r4, .int r5, .int r6, .int r7, .bool r8, .int r9, .int r10, .int r11, .int r12, .rows r13, .rows L] = some (B3 (KF (⟨r0, r1, r2, r3, r4, r5, r6, r7, r8, r9, r10, r11, r12, r13⟩ : Rul) L)) := by
 show Ec (std (Cp N) N) (xOf _) = _
 generalize hres : (some (B3 (KF (⟨r0, r1, r2, r3, r4, r5, r6, r7, r8, r9, r10, r11, r12, r13⟩ : Rul) L)) : Option (List PV)) = RR
 simp only [Ec, Qg, std, xOf, PXb, dZ hN hs h13 hL, Tg, PXc]
 subst hres; simp only [KF]
 cases (Bq (⟨r0, r1, r2, r3, r4, r5, r6, r7, r8, r9, r10, r11, r12, r13⟩ : Rul) L).2.2 == 0 <;> rfl
def Sv (e : Ev) : List PV := [.int e.kind, .int e.side, .int e.player, .int e.other, .bool e.yes, .int e.runs, .int e.overs] ++ e.ball.ls
def edL (L : Rows) (k : Int) (e : Ev) : Rows := L.set k.toNat (Bw (A6 L k.toNat) 0 (Sv e))
theorem dL (L : Rows) (k : Int) (e : Ev) : (edL L k e).length = L.length := List.length_set
def edS (r : Rul) (L : Rows) (k : Int) (e : Ev) : Rows × Int × Int := cond (!(BD r L == 0) || iLt k 0 || iLe (L.length : Int) k) ([], -1, 1) (KF r (edL L k e))
theorem Ll {N : Nat} {r1 r2 r3 r4 r5 r6 r7 r9 r10 r11 r12 : Int} {r8 : Bool} {r0 : ByteArray} {r13 : Rows} {L : Rows} {k : Int} {e0 e1 e2 e3 e5 e6 e7 e8 e9 e10 e11 e13 e14 e15 e16 e18 : Int} {e4 e12 e17 : Bool} (hN : 2097152 < N) (hs : r0.size ≤ 1048576) (h13 : r13.length ≤ 1048576) (hL : L.length ≤ 1000000) : Bf N [.str r0, .int r1, .int r2, .int r3, .int r4, .int r5, .int r6, .int r7, .bool r8, .int r9, .int r10, .int r11, .int r12, .rows r13, .rows L, .int k, .int e0, .int e1, .int e2, .int e3, .bool e4, .int e5, .int e6, .int e7, .int e8, .int e9, .int e10, .int e11, .bool e12, .int e13, .int e14, .int e15, .int e16, .bool e17, .int e18] = some (B3 (edS (⟨r0, r1, r2, r3, r4, r5, r6, r7, r8, r9, r10, r11, r12, r13⟩ : Rul) L k (⟨e0, e1, e2, e3, e4, e5, e6, ⟨e7, e8, e9, e10, e11, e12, e13, e14, e15, e16, e17, e18⟩⟩ : Ev))) := by
 show Ef (std (Bd N) N) (xOf _) = _
 generalize hres : (some (B3 (edS (⟨r0, r1, r2, r3, r4, r5, r6, r7, r8, r9, r10, r11, r12, r13⟩ : Rul) L k (⟨e0, e1, e2, e3, e4, e5, e6, ⟨e7, e8, e9, e10, e11, e12, e13, e14, e15, e16, e17, e18⟩⟩ : Ev))) : Option (List PV)) = RR
 simp only [Ef, SN, Kk, MG, std, xOf, PXb, MC hN hs h13 (show L.length ≤ 1048576 by omega), Ey, BU (show L.length ≤ 1048576 by omega) (show 136 ≤ 4096 by omega), PXc]
 subst hres
 unfold edS
 cases hx : !BD (⟨r0, r1, r2, r3, r4, r5, r6, r7, r8, r9, r10, r11, r12, r13⟩ : Rul) L == 0 || iLt k 0 || iLe (L.length : Int) k
 case true => rfl
 have hi : iIn k (L.length : Int) = true := by
  simp only [Bool.or_eq_false_iff, iLt, iLe, decide_eq_false_iff_not] at hx
  simp only [iIn, decide_eq_true_eq, Bool.and_eq_true]
  omega
 simp only [hi, PXb]
 have : A5 N [.str r0, .int r1, .int r2, .int r3, .int r4, .int r5, .int r6, .int r7, .bool r8, .int r9, .int r10, .int r11, .int r12, .rows r13, .rows (edL L k (⟨e0, e1, e2, e3, e4, e5, e6, ⟨e7, e8, e9, e10, e11, e12, e13, e14, e15, e16, e17, e18⟩⟩ : Ev))] = some (B3 (KF (⟨r0, r1, r2, r3, r4, r5, r6, r7, r8, r9, r10, r11, r12, r13⟩ : Rul) (edL L k (⟨e0, e1, e2, e3, e4, e5, e6, ⟨e7, e8, e9, e10, e11, e12, e13, e14, e15, e16, e17, e18⟩⟩ : Ev)))) := Lx hN hs h13 (by rw [dL]; omega)
 simp only [edL, Sv, Del.ls, List.cons_append, List.nil_append] at this
 simp only [this]
 rfl
end Go.Px
