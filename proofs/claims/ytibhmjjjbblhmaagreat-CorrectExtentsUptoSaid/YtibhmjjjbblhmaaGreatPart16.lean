/- Part 16. -/
import Derived.Test.YtibhmjjjbblhmaaGreatPart15
set_option linter.unusedVariables false
set_option linter.unusedSimpArgs false
namespace Go.Px
set_option maxRecDepth 100000
set_option maxHeartbeats 4000000 in
theorem Yz {N : Nat} {r1 r2 r3 r4 r5 r6 r7 r9 r10 r11 r12 : Int} {r8 : Bool} {r0 : ByteArray} {r13 : Rows} {A : Rows} {B : Rows} (ha : Gi N [] = some [.bool true]) (hN : 2097152 < N) (hs : r0.size ≤ 1048576) (h13 : r13.length ≤ 1048576) : Eg N [.str r0, .int r1, .int r2, .int r3, .int r4, .int r5, .int r6, .int r7, .bool r8, .int r9, .int r10, .int r11, .int r12, .rows r13, .rows A, .rows B] = some [.bool true] := by
 show Ek (std (Ci N) N) (xOf _) = _
 have l1 : (cut A 40).length ≤ 1000000 := Nat.le_trans (ut A 40) (show 40 ≤ 1000000 by omega)
 have l2 : (cut B 40).length ≤ 1000000 := Nat.le_trans (ut B 40) (show 40 ≤ 1000000 by omega)
 have c1 : List.drop (Int.toNat 0) (List.take (cond (iLt 40 (A.length : Int)) 40 (A.length : Int)).toNat A) = cut A 40 := rfl
 have c2 : List.drop (Int.toNat 0) (List.take (cond (iLt 40 (B.length : Int)) 40 (B.length : Int)).toNat B) = cut B 40 := rfl
 simp only [Ek, Om, K8, Ne, std, xOf, PXb, PXc, PXn, PXm, Nat.reduceAdd, Int.reduceBEq, ha, ym (show (0 : Int) ≤ 40 by omega), c1, c2, Un hN hs h13 l1 l2, qR hN hs h13 l1 l2, Qv]
end Go.Px
