/- Part 15. -/
import Derived.Test.YtibhmjjjbblhmaaGreatPart14
import Derived.KernelRfl
set_option linter.unusedVariables false
set_option linter.unusedSimpArgs false
namespace Go.Px
set_option maxRecDepth 100000
def PH (k s p o : Int) (y : Bool) (t f n b h v : Int) : List PV := [.int k, .int s, .int p, .int o, .bool y, .int 0, .int 0, .int t, .int f, .int n, .int 0, .int b, .bool false, .int h, .int v, .int 0, .int 0, .bool false, .int 0]
def Dv : Rows := [PH 1 1 0 0 true 0 0 0 0 0 0, PH 2 0 1 2 false 0 0 0 0 0 0, PH 8 0 2 0 false 0 0 0 0 0 0, PH 3 0 1 0 false 0 0 0 0 0 0, PH 4 0 0 0 false 1 1 1 0 0 0, PH 4 0 0 0 false 1 0 0 0 1 1, PH 2 0 2 1 false 0 0 0 0 0 0, PH 8 0 1 0 false 0 0 0 0 0 0, PH 3 0 2 0 false 0 0 0 0 0 0, PH 4 0 0 0 false 2 0 0 0 0 0, PH 4 0 0 0 false 1 1 0 4 0 0]
def O5 : Rul := ⟨⟨#[84, 69, 83, 84]⟩, 2, 1, 1, 4, 0, 1, 1, false, 0, 0, 0, 11, []⟩
def T0 (n : Int) : Ev := ⟨4, 0, 0, 0, false, 0, 0, ⟨1, 1, n, 0, 0, false, 0, 0, 0, 0, false, 0⟩⟩
theorem zO : WS 4194304 [] = some [.rows Dv] := by kernel_rfl
theorem yS : RN 4194304 [] = some O5.ls := by kernel_rfl
theorem yv : T8 4194304 [.int 2] = some (Sv (T0 2)) := by kernel_rfl
theorem zn : edS O5 Dv 4 (T0 2) = (edL Dv 4 (T0 2), -1, 0) := by kernel_rfl
theorem zQ : edS O5 Dv 4 (evR Dv 5) = ([], 5, 1) := by kernel_rfl
theorem zV : rE O5 Dv (edL Dv 4 (T0 2)) = (4, 12, 0) := by kernel_rfl
theorem mO {x : Option (List PV)} {v : List PV} {f : List PV → Option (List PV)} {r : Option (List PV)} (h : x = some v) (hk : f v = r) : x.bind f = r := by rw [h]; exact hk
set_option maxHeartbeats 2000000 in
theorem sa : JP 4194304 [] = some [.bool true] := by
 have hs : O5.name.size ≤ 1048576 := by decide
 have hl : Dv.length = 11 := rfl
 have k1 : Bf 4194304 (O5.ls ++ [.rows Dv, .int 4] ++ Sv (T0 2)) = some (B3 (edS O5 Dv 4 (T0 2))) := Ll (by omega) hs (Nat.zero_le _) (by rw [hl]; omega)
 have k2 : Bf 4194304 (O5.ls ++ [.rows Dv, .int 4] ++ Sv (evR Dv 5)) = some (B3 (edS O5 Dv 4 (evR Dv 5))) := Ll (by omega) hs (Nat.zero_le _) (by rw [hl]; omega)
 have k3 : Ff 4194304 (O5.ls ++ [.rows Dv, .rows (edL Dv 4 (T0 2))]) = some (Zd (rE O5 Dv (edL Dv 4 (T0 2)))) := ip (by omega) hs (Nat.zero_le _) (by rw [hl]; omega) (by rw [dL, hl]; omega)
 rw [zn] at k1
 rw [zQ] at k2
 rw [zV] at k3
 show MV (std (CV 4194304) 4194304) (xOf []) = _
 simp only [MV, S1, Rz, cE, Yd, ZN, std, xOf, PXb, zO, yS, yv]
 refine mO k1 ?_
 have z : ((edL Dv 4 (T0 2)).length : Int) = (Dv.length : Int) := by rw [dL]
 simp only [B3, PXb, PXc, PXn, PXm, Nat.reduceAdd, Int.reduceBEq, z, beq_self_eq_true]
 have i5 : iIn 5 (Dv.length : Int) = true := rfl
 refine mO k3 ?_
 simp only [i5, cond_true]
 refine mO k2 ?_
 rfl
end Go.Px
