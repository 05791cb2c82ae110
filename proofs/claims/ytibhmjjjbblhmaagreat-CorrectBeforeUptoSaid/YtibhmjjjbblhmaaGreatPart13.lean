/- Part 13. -/
import Derived.Test.YtibhmjjjbblhmaaGreatPart12
import Derived.KernelRfl
set_option linter.unusedVariables false
set_option linter.unusedSimpArgs false
namespace Go.Px
set_option maxRecDepth 100000
def Kt (k s p o : Int) (y : Bool) (t f n b h v : Int) : List PV := [.int k, .int s, .int p, .int o, .bool y, .int 0, .int 0, .int t, .int f, .int n, .int 0, .int b, .bool false, .int h, .int v, .int 0, .int 0, .bool false, .int 0]
def C8 : Rows := [Kt 1 1 0 0 true 0 0 0 0 0 0, Kt 2 0 1 2 false 0 0 0 0 0 0, Kt 8 0 2 0 false 0 0 0 0 0 0, Kt 3 0 1 0 false 0 0 0 0 0 0, Kt 4 0 0 0 false 1 1 1 0 0 0, Kt 4 0 0 0 false 1 0 0 0 1 1, Kt 2 0 2 1 false 0 0 0 0 0 0, Kt 8 0 1 0 false 0 0 0 0 0 0, Kt 3 0 2 0 false 0 0 0 0 0 0, Kt 4 0 0 0 false 2 0 0 0 0 0, Kt 4 0 0 0 false 1 1 0 4 0 0]
def LN : Rul := ⟨⟨#[84, 69, 83, 84]⟩, 2, 1, 1, 4, 0, 1, 1, false, 0, 0, 0, 11, []⟩
def OH (n : Int) : Ev := ⟨4, 0, 0, 0, false, 0, 0, ⟨1, 1, n, 0, 0, false, 0, 0, 0, 0, false, 0⟩⟩
theorem jI : QV 4194304 [] = some [.rows C8] := by kernel_rfl
theorem go : Mc 4194304 [] = some LN.ls := by kernel_rfl
theorem i7 : OX 4194304 [.int 2] = some (Zr (OH 2)) := by kernel_rfl
theorem jZ : edS LN C8 4 (OH 2) = (edL C8 4 (OH 2), -1, 0) := by kernel_rfl
theorem jH : edS LN C8 4 (evR C8 5) = ([], 5, 1) := by kernel_rfl
theorem jE : WN LN C8 (edL C8 4 (OH 2)) = (4, 12, 0) := by kernel_rfl
theorem YZ {x : Option (List PV)} {v : List PV} {f : List PV → Option (List PV)} {r : Option (List PV)} (h : x = some v) (hk : f v = r) : x.bind f = r := by rw [h]; exact hk
set_option maxHeartbeats 2000000 in
theorem bz : HJ 4194304 [] = some [.bool true] := by
 have hs : LN.name.size ≤ 1048576 := by decide
 have hl : C8.length = 11 := rfl
 have k1 : BM 4194304 (LN.ls ++ [.rows C8, .int 4] ++ Zr (OH 2)) = some (Od (edS LN C8 4 (OH 2))) := Iv (by omega) hs (Nat.zero_le _) (by rw [hl]; omega)
 have k2 : BM 4194304 (LN.ls ++ [.rows C8, .int 4] ++ Zr (evR C8 5)) = some (Od (edS LN C8 4 (evR C8 5))) := Iv (by omega) hs (Nat.zero_le _) (by rw [hl]; omega)
 have k3 : CN 4194304 (LN.ls ++ [.rows C8, .rows (edL C8 4 (OH 2))]) = some (Ux (WN LN C8 (edL C8 4 (OH 2)))) := PK (by omega) hs (Nat.zero_le _) (by rw [hl]; omega) (by rw [Ua, hl]; omega)
 rw [jZ] at k1
 rw [jH] at k2
 rw [jE] at k3
 show JA (std (Bv 4194304) 4194304) (xOf []) = _
 simp only [JA, NW, M5, TS, Rf, R8, std, xOf, PXb, jI, go, i7]
 refine YZ k1 ?_
 have z : ((edL C8 4 (OH 2)).length : Int) = (C8.length : Int) := by rw [Ua]
 simp only [Od, PXb, PXc, PXn, PXm, Nat.reduceAdd, Int.reduceBEq, z, beq_self_eq_true]
 have i5 : iIn 5 (C8.length : Int) = true := rfl
 refine YZ k3 ?_
 simp only [i5, cond_true]
 refine YZ k2 ?_
 rfl
end Go.Px
