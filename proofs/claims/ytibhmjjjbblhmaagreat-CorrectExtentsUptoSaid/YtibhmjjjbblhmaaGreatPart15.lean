/- Part 15. -/
import Derived.Test.YtibhmjjjbblhmaaGreatPart14
import Derived.KernelRfl
set_option linter.unusedVariables false
set_option linter.unusedSimpArgs false
namespace Go.Px
set_option maxRecDepth 100000
def On (k s p o : Int) (y : Bool) (t f n b h v : Int) : List PV := [.int k, .int s, .int p, .int o, .bool y, .int 0, .int 0, .int t, .int f, .int n, .int 0, .int b, .bool false, .int h, .int v, .int 0, .int 0, .bool false, .int 0]
def Dp : Rows := [On 1 1 0 0 true 0 0 0 0 0 0, On 2 0 1 2 false 0 0 0 0 0 0, On 8 0 2 0 false 0 0 0 0 0 0, On 3 0 1 0 false 0 0 0 0 0 0, On 4 0 0 0 false 1 1 1 0 0 0, On 4 0 0 0 false 1 0 0 0 1 1, On 2 0 2 1 false 0 0 0 0 0 0, On 8 0 1 0 false 0 0 0 0 0 0, On 3 0 2 0 false 0 0 0 0 0 0, On 4 0 0 0 false 2 0 0 0 0 0, On 4 0 0 0 false 1 1 0 4 0 0]
def Np : Rul := ⟨⟨#[84, 69, 83, 84]⟩, 2, 1, 1, 4, 0, 1, 1, false, 0, 0, 0, 11, []⟩
def S1 (n : Int) : Ev := ⟨4, 0, 0, 0, false, 0, 0, ⟨1, 1, n, 0, 0, false, 0, 0, 0, 0, false, 0⟩⟩
theorem ya : We 4194304 [] = some [.rows Dp] := by kernel_rfl
theorem xo : Qc 4194304 [] = some Np.ls := by kernel_rfl
theorem yH : TU 4194304 [.int 2] = some (pX (S1 2)) := by kernel_rfl
theorem yr : edS Np Dp 4 (S1 2) = (edL Dp 4 (S1 2), -1, 0) := by kernel_rfl
theorem yh : edS Np Dp 4 (evR Dp 5) = ([], 5, 1) := by kernel_rfl
theorem yf : cY Np Dp (edL Dp 4 (S1 2)) = (4, 12, 0) := by kernel_rfl
theorem lL {x : Option (List PV)} {v : List PV} {f : List PV → Option (List PV)} {r : Option (List PV)} (h : x = some v) (hk : f v = r) : x.bind f = r := by rw [h]; exact hk
set_option maxHeartbeats 2000000 in
theorem q9 : Gi 4194304 [] = some [.bool true] := by
 have hs : Np.name.size ≤ 1048576 := by decide
 have hl : Dp.length = 11 := rfl
 have k1 : CV 4194304 (Np.ls ++ [.rows Dp, .int 4] ++ pX (S1 2)) = some (WJ (edS Np Dp 4 (S1 2))) := Sb (by omega) hs (Nat.zero_le _) (by rw [hl]; omega)
 have k2 : CV 4194304 (Np.ls ++ [.rows Dp, .int 4] ++ pX (evR Dp 5)) = some (WJ (edS Np Dp 4 (evR Dp 5))) := Sb (by omega) hs (Nat.zero_le _) (by rw [hl]; omega)
 have k3 : CJ 4194304 (Np.ls ++ [.rows Dp, .rows (edL Dp 4 (S1 2))]) = some (Qv (cY Np Dp (edL Dp 4 (S1 2)))) := Un (by omega) hs (Nat.zero_le _) (by rw [hl]; omega) (by rw [qS, hl]; omega)
 rw [yr] at k1
 rw [yh] at k2
 rw [yf] at k3
 show LS (std (CN 4194304) 4194304) (xOf []) = _
 simp only [LS, SR, Ri, bW, Yd, ZJ, std, xOf, PXb, ya, xo, yH]
 refine lL k1 ?_
 have z : ((edL Dp 4 (S1 2)).length : Int) = (Dp.length : Int) := by rw [qS]
 simp only [WJ, PXb, PXc, PXn, PXm, Nat.reduceAdd, Int.reduceBEq, z, beq_self_eq_true]
 have i5 : iIn 5 (Dp.length : Int) = true := rfl
 refine lL k3 ?_
 simp only [i5, cond_true]
 refine lL k2 ?_
 rfl
end Go.Px
