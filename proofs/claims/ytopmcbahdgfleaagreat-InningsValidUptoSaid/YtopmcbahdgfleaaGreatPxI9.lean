/-
The laws of an innings: PxI9.
-/
import Derived.Test.YtopmcbahdgfleaaGreatPxI8
namespace Go.Px
set_option linter.unusedVariables false
set_option linter.unusedSimpArgs false
set_option maxRecDepth 100000
section
variable (N : Nat) (s : ByteArray) (a1 a2 a3 a4 a5 a6 a7 a9 a10 a11 a12 : Int) (a8 : Bool) (La : Rows) (L14 L16 L17 L19 L24 : Rows) (b18 b20 : Bool) (x0 x1 x2 x3 x4 x5 x6 x7 x8 x9 x10 x11 x12 x13 x15 x21 x22 x23 x25 x26 x27 : Int)
def ballsR (a4 x10 x11 : Int) : Int := IntKind.i64.wrap (IntKind.i64.wrap (x10 * a4) + x11)
theorem M20 : c20 N ([.str s, .int a1, .int a2, .int a3, .int a4, .int a5, .int a6, .int a7, .bool a8, .int a9, .int a10, .int a11, .int a12, .rows La] ++ lsI L14 L16 L17 L19 L24 b18 b20 x0 x1 x2 x3 x4 x5 x6 x7 x8 x9 x10 x11 x12 x13 x15 x21 x22 x23 x25 x26 x27) = some [.int (ballsR a4 x10 x11)] := rfl
theorem M21 : c21 N ([.str s, .int a1, .int a2, .int a3, .int a4, .int a5, .int a6, .int a7, .bool a8, .int a9, .int a10, .int a11, .int a12, .rows La] ++ lsI L14 L16 L17 L19 L24 b18 b20 x0 x1 x2 x3 x4 x5 x6 x7 x8 x9 x10 x11 x12 x13 x15 x21 x22 x23 x25 x26 x27) = some [.int (ballsR a4 x10 x11)] := rfl
theorem M3 (hN : 2097152 < N) (h13 : c13 N [] = some [.bool true]) (hs : s.size ≤ 1048576) (h14 : L14.length ≤ 1048576) (h16 : L16.length ≤ 1048576) (h17 : L17.length ≤ 1048576) (h19 : L19.length ≤ 1048576) : c3 N ([.str s, .int a1, .int a2, .int a3, .int a4, .int a5, .int a6, .int a7, .bool a8, .int a9, .int a10, .int a11, .int a12, .rows La] ++ lsI L14 L16 L17 L19 L24 b18 b20 x0 x1 x2 x3 x4 x5 x6 x7 x8 x9 x10 x11 x12 x13 x15 x21 x22 x23 x25 x26 x27) = some [.bool true] := by
  simp only [lsI, List.cons_append, List.nil_append]
  show t3 (std (env3 N) N) (xOf _) = _
  have e1 : ∀ ls, env3 N 13 [] ls = c13 N ls := fun ls => rfl
  have e2 : ∀ ls, env3 N 14 [] ls = c14 N ls := fun ls => rfl
  have e3 : ∀ ls, env3 N 15 [] ls = c15 N ls := fun ls => rfl
  have e4 : ∀ ls, env3 N 16 [] ls = c16 N ls := fun ls => rfl
  have e5 : ∀ ls, env3 N 17 [] ls = c17 N ls := fun ls => rfl
  have e6 : ∀ ls, env3 N 18 [] ls = c18 N ls := fun ls => rfl
  have e7 : ∀ ls, env3 N 19 [] ls = c19 N ls := fun ls => rfl
  have e8 : ∀ ls, env3 N 20 [] ls = c20 N ls := fun ls => rfl
  have e9 : ∀ ls, env3 N 21 [] ls = c21 N ls := fun ls => rfl
  have l15 := M15 N L14 L16 L17 L19 L24 b18 b20 x0 x1 x2 x3 x4 x5 x6 x7 x8 x9 x10 x11 x12 x13 x15 x21 x22 x23 x25 x26 x27
  have q0 := Nat.le_trans (cut_size s 20) hs
  have q1 := Nat.le_trans (cut_len L14 13) h14
  have q2 := Nat.le_trans (cut_len L16 13) h16
  have q3 := Nat.le_trans (cut_len L17 13) h17
  have q4 := Nat.le_trans (cut_len L19 13) h19
  have l16 := M16 N (cutS s 20) a1 a2 a3 a4 a5 a6 a7 a9 a10 a11 a12 a8 (cut La 10) (cut L14 13) (cut L16 13) (cut L17 13) (cut L19 13) (cut L24 13) b18 b20 x0 x1 x2 x3 x4 x5 x6 x7 x8 x9 x10 x11 x12 x13 x15 x21 x22 x23 x25 x26 x27 hN q0 q1 q2 q3 q4
  have l17 := M17 N (cutS s 20) a1 a2 a3 a4 a5 a6 a7 a9 a10 a11 a12 a8 (cut La 10) (cut L14 13) (cut L16 13) (cut L17 13) (cut L19 13) (cut L24 13) b18 b20 x0 x1 x2 x3 x4 x5 x6 x7 x8 x9 x10 x11 x12 x13 x15 x21 x22 x23 x25 x26 x27 hN q0 q1 q2 q3 q4
  have l18 := M18 N (cutS s 20) a1 a2 a3 a4 a5 a6 a7 a9 a10 a11 a12 a8 (cut La 10) (cut L14 13) (cut L16 13) (cut L17 13) (cut L19 13) (cut L24 13) b18 b20 x0 x1 x2 x3 x4 x5 x6 x7 x8 x9 x10 x11 x12 x13 x15 x21 x22 x23 x25 x26 x27 hN q0 q1 q2 q3 q4
  have l19 := M19 N (cutS s 20) a1 a2 a3 a4 a5 a6 a7 a9 a10 a11 a12 a8 (cut La 10) (cut L14 13) (cut L16 13) (cut L17 13) (cut L19 13) (cut L24 13) b18 b20 x0 x1 x2 x3 x4 x5 x6 x7 x8 x9 x10 x11 x12 x13 x15 x21 x22 x23 x25 x26 x27 hN q0 q1 q2 q3 q4
  have l20 := M20 N (cutS s 20) a1 a2 a3 a4 a5 a6 a7 a9 a10 a11 a12 a8 (cut La 10) (cut L14 13) (cut L16 13) (cut L17 13) (cut L19 13) (cut L24 13) b18 b20 x0 x1 x2 x3 x4 x5 x6 x7 x8 x9 x10 x11 x12 x13 x15 x21 x22 x23 x25 x26 x27
  have l21 := M21 N (cutS s 20) a1 a2 a3 a4 a5 a6 a7 a9 a10 a11 a12 a8 (cut La 10) (cut L14 13) (cut L16 13) (cut L17 13) (cut L19 13) (cut L24 13) b18 b20 x0 x1 x2 x3 x4 x5 x6 x7 x8 x9 x10 x11 x12 x13 x15 x21 x22 x23 x25 x26 x27
  simp only [lsI, List.cons_append, List.nil_append] at l15 l16 l17 l18 l19 l20 l21
  simp only [t3, std, xOf, List.map_cons, List.map_nil, pv_int, pv_bool, pv_str, pv_rows, Option.bind_some, bind_c, pvB_c, pvI_c, pvS_c, pvL_c, cell_zero, cell_succ, pvI_int, pvB_bool, pvS_str, pvL_rows, c_and, c_or, c_andn, c_orn, cond_true, cond_false, Bool.and_self_left, Bool.and_self, Bool.or_self_left, Bool.or_self, Bool.or_true, Bool.or_false, Bool.true_or, Bool.false_or, Bool.and_true, Bool.and_false, Bool.true_and, Bool.false_and, Bool.not_true, Bool.not_false, Int.toNat_natCast, Bool.not_not, Bool.not_or, Bool.not_and, xr, cr, List.cons_append, List.nil_append, e1, e2, e3, e4, e5, e6, e7, e8, e9, h13, M14, l15, l16, l17, l18, l19, l20, l21, beq_self_eq_true]
end
end Go.Px
