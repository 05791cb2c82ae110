/- Part 12. -/
import Derived.Test.YtibhmjjjbblhmaaGreatPart11
import Derived.KernelRfl
set_option linter.unusedVariables false
set_option linter.unusedSimpArgs false
namespace Go.Px
set_option maxRecDepth 100000
def Le (k s p o : Int) (y : Bool) (t f n b h v : Int) : List PV := [.int k, .int s, .int p, .int o, .bool y, .int 0, .int 0, .int t, .int f, .int n, .int 0, .int b, .bool false, .int h, .int v, .int 0, .int 0, .bool false, .int 0]
def DD : Rows := [Le 1 1 0 0 true 0 0 0 0 0 0, Le 2 0 1 2 false 0 0 0 0 0 0, Le 8 0 2 0 false 0 0 0 0 0 0, Le 3 0 1 0 false 0 0 0 0 0 0, Le 4 0 0 0 false 1 1 1 0 0 0, Le 4 0 0 0 false 1 0 0 0 1 1, Le 2 0 2 1 false 0 0 0 0 0 0, Le 8 0 1 0 false 0 0 0 0 0 0, Le 3 0 2 0 false 0 0 0 0 0 0, Le 4 0 0 0 false 2 0 0 0 0 0, Le 4 0 0 0 false 1 1 0 4 0 0]
def Lq : Rul := ⟨⟨#[84, 69, 83, 84]⟩, 2, 1, 1, 4, 0, 1, 1, false, 0, 0, 0, 11, []⟩
def OU (n : Int) : Ev := ⟨4, 0, 0, 0, false, 0, 0, ⟨1, 1, n, 0, 0, false, 0, 0, 0, 0, false, 0⟩⟩
theorem jx : QT 4194304 [] = some [.rows DD] := by kernel_rfl
theorem iy : Mw 4194304 [] = some Lq.ls := by kernel_rfl
theorem jY : Ou 4194304 [.int 2] = some (aL (OU 2)) := by kernel_rfl
theorem kG : edS Lq DD 4 (OU 2) = (edL DD 4 (OU 2), -1, 0) := by kernel_rfl
theorem j8 : edS Lq DD 4 (evR DD 5) = ([], 5, 1) := by kernel_rfl
theorem jz : aK Lq DD (edL DD 4 (OU 2)) = (4, 12, 0) := by kernel_rfl
theorem Yt {x : Option (List PV)} {v : List PV} {f : List PV → Option (List PV)} {r : Option (List PV)} (h : x = some v) (hk : f v = r) : x.bind f = r := by rw [h]; exact hk
set_option maxHeartbeats 2000000 in
theorem dB : HQ 4194304 [] = some [.bool true] := by
 have hs : Lq.name.size ≤ 1048576 := by decide
 have hl : DD.length = 11 := rfl
 have k1 : CA 4194304 (Lq.ls ++ [.rows DD, .int 4] ++ aL (OU 2)) = some (I0 (edS Lq DD 4 (OU 2))) := N2 (by omega) hs (Nat.zero_le _) (by rw [hl]; omega)
 have k2 : CA 4194304 (Lq.ls ++ [.rows DD, .int 4] ++ aL (evR DD 5)) = some (I0 (edS Lq DD 4 (evR DD 5))) := N2 (by omega) hs (Nat.zero_le _) (by rw [hl]; omega)
 have k3 : Ee 4194304 (Lq.ls ++ [.rows DD, .rows (edL DD 4 (OU 2))]) = some (XC (aK Lq DD (edL DD 4 (OU 2)))) := WT (by omega) hs (Nat.zero_le _) (by rw [hl]; omega) (by rw [bK, hl]; omega)
 rw [kG] at k1
 rw [j8] at k2
 rw [jz] at k3
 show JP (std (B4 4194304) 4194304) (xOf []) = _
 simp only [JP, Nr, NE, Tc, RY, SI, std, xOf, PXb, jx, iy, jY]
 refine Yt k1 ?_
 have z : ((edL DD 4 (OU 2)).length : Int) = (DD.length : Int) := by rw [bK]
 simp only [I0, PXb, PXc, PXn, PXm, Nat.reduceAdd, Int.reduceBEq, z, beq_self_eq_true]
 have i5 : iIn 5 (DD.length : Int) = true := rfl
 refine Yt k3 ?_
 simp only [i5, cond_true]
 refine Yt k2 ?_
 rfl
end Go.Px
