/- Part 12. -/
import Derived.Test.YtibhmjjjbblhmaaGreatPart11
import Derived.KernelRfl
set_option linter.unusedVariables false
set_option linter.unusedSimpArgs false
namespace Go.Px
set_option maxRecDepth 100000
def LU (k s p o : Int) (y : Bool) (t f n b h v : Int) : List PV := [.int k, .int s, .int p, .int o, .bool y, .int 0, .int 0, .int t, .int f, .int n, .int 0, .int b, .bool false, .int h, .int v, .int 0, .int 0, .bool false, .int 0]
def C8 : Rows := [LU 1 1 0 0 true 0 0 0 0 0 0, LU 2 0 1 2 false 0 0 0 0 0 0, LU 8 0 2 0 false 0 0 0 0 0 0, LU 3 0 1 0 false 0 0 0 0 0 0, LU 4 0 0 0 false 1 1 1 0 0 0, LU 4 0 0 0 false 1 0 0 0 1 1, LU 2 0 2 1 false 0 0 0 0 0 0, LU 8 0 1 0 false 0 0 0 0 0 0, LU 3 0 2 0 false 0 0 0 0 0 0, LU 4 0 0 0 false 2 0 0 0 0 0, LU 4 0 0 0 false 1 1 0 4 0 0]
def LL : Rul := ⟨⟨#[84, 69, 83, 84]⟩, 2, 1, 1, 4, 0, 1, 1, false, 0, 0, 0, 11, []⟩
def On (n : Int) : Ev := ⟨4, 0, 0, 0, false, 0, 0, ⟨1, 1, n, 0, 0, false, 0, 0, 0, 0, false, 0⟩⟩
theorem ka : Qc 4194304 [] = some [.rows C8] := by kernel_rfl
theorem i7 : NC 4194304 [] = some LL.ls := by kernel_rfl
theorem jg : O8 4194304 [.int 2] = some (Bx (On 2)) := by kernel_rfl
theorem kn : edS LL C8 4 (On 2) = (edL C8 4 (On 2), -1, 0) := by kernel_rfl
theorem kP : edS LL C8 4 (evR C8 5) = ([], 5, 1) := by kernel_rfl
theorem kO : cj LL C8 (edL C8 4 (On 2)) = (4, 12, 0) := by kernel_rfl
theorem Y5 {x : Option (List PV)} {v : List PV} {f : List PV → Option (List PV)} {r : Option (List PV)} (h : x = some v) (hk : f v = r) : x.bind f = r := by rw [h]; exact hk
set_option maxHeartbeats 2000000 in
theorem dH : HU 4194304 [] = some [.bool true] := by
 have hs : LL.name.size ≤ 1048576 := by decide
 have hl : C8.length = 11 := rfl
 have k1 : BQ 4194304 (LL.ls ++ [.rows C8, .int 4] ++ Bx (On 2)) = some (Da (edS LL C8 4 (On 2))) := Fr (by omega) hs (Nat.zero_le _) (by rw [hl]; omega)
 have k2 : BQ 4194304 (LL.ls ++ [.rows C8, .int 4] ++ Bx (evR C8 5)) = some (Da (edS LL C8 4 (evR C8 5))) := Fr (by omega) hs (Nat.zero_le _) (by rw [hl]; omega)
 have k3 : EO 4194304 (LL.ls ++ [.rows C8, .rows (edL C8 4 (On 2))]) = some (XU (cj LL C8 (edL C8 4 (On 2)))) := Wl (by omega) hs (Nat.zero_le _) (by rw [hl]; omega) (by rw [R8, hl]; omega)
 rw [kn] at k1
 rw [kP] at k2
 rw [kO] at k3
 show Jt (std (B6 4194304) 4194304) (xOf []) = _
 simp only [Jt, N0, NQ, Tm, Ry, SK, std, xOf, PXb, ka, i7, jg]
 refine Y5 k1 ?_
 have z : ((edL C8 4 (On 2)).length : Int) = (C8.length : Int) := by rw [R8]
 simp only [Da, PXb, PXc, PXn, PXm, Nat.reduceAdd, Int.reduceBEq, z, beq_self_eq_true]
 have i5 : iIn 5 (C8.length : Int) = true := rfl
 refine Y5 k3 ?_
 simp only [i5, cond_true]
 refine Y5 k2 ?_
 rfl
end Go.Px
