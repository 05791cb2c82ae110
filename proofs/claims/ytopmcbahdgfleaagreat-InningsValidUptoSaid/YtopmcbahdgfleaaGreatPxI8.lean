/-
The laws of an innings: PxI8.
-/
import Derived.Test.YtopmcbahdgfleaaGreatPxI7
namespace Go.Px
set_option linter.unusedVariables false
set_option linter.unusedSimpArgs false
set_option maxRecDepth 100000
section
variable (N : Nat) (s : ByteArray) (a1 a2 a3 a4 a5 a6 a7 a9 a10 a11 a12 : Int) (a8 : Bool) (La : Rows) (L14 L16 L17 L19 L24 : Rows) (b18 b20 : Bool) (x0 x1 x2 x3 x4 x5 x6 x7 x8 x9 x10 x11 x12 x13 x15 x21 x22 x23 x25 x26 x27 : Int)
theorem M18 (hN : 2097152 < N) (hs : s.size ≤ 1048576) (h14 : L14.length ≤ 1048576) (h16 : L16.length ≤ 1048576) (h17 : L17.length ≤ 1048576) (h19 : L19.length ≤ 1048576) : c18 N ([.str s, .int a1, .int a2, .int a3, .int a4, .int a5, .int a6, .int a7, .bool a8, .int a9, .int a10, .int a11, .int a12, .rows La] ++ lsI L14 L16 L17 L19 L24 b18 b20 x0 x1 x2 x3 x4 x5 x6 x7 x8 x9 x10 x11 x12 x13 x15 x21 x22 x23 x25 x26 x27) =
    some [.int (endR (validR s a1 a2 a3 a4 a5 a6 a7 a9 a10 a11 a12 La L14 L16 L17 L19 L24 x0 x1 x2 x3 x4 x5 x6 x7 x8 x9 x10 x11 x12 x13 x15 x21 x22 x23 x25 x26 x27) L14 x12 x13 x1 x2 x3 x10)] := by
  simp only [lsI, List.cons_append, List.nil_append]
  show t18 (std (env18 N) N) (xOf _) = _
  have e1 : ∀ ls, env18 N 16 [] ls = c16 N ls := fun ls => rfl
  have e2 : ∀ ls, env18 N 61 [] ls = c61 N ls := fun ls => rfl
  have e3 : ∀ ls, env18 N 62 [] ls = c62 N ls := fun ls => rfl
  have l16 := M16 N s a1 a2 a3 a4 a5 a6 a7 a9 a10 a11 a12 a8 La L14 L16 L17 L19 L24 b18 b20 x0 x1 x2 x3 x4 x5 x6 x7 x8 x9 x10 x11 x12 x13 x15 x21 x22 x23 x25 x26 x27 hN hs h14 h16 h17 h19
  have l61 := L61 N L14 L16 L17 L19 L24 b18 b20 x0 x1 x2 x3 x4 x5 x6 x7 x8 x9 x10 x11 x12 x13 x15 x21 x22 x23 x25 x26 x27 (by omega) (by omega)
  have l62 := L62 N L14 L16 L17 L19 L24 b18 b20 x0 x1 x2 x3 x4 x5 x6 x7 x8 x9 x10 x11 x12 x13 x15 x21 x22 x23 x25 x26 x27 (by omega) (by omega)
  simp only [lsI, List.cons_append, List.nil_append] at l16 l61 l62
  simp only [t18, std, xOf, List.map_cons, List.map_nil, pv_int, pv_bool, pv_str, pv_rows, Option.bind_some, bind_c, pvB_c, pvI_c, pvS_c, pvL_c, cell_zero, cell_succ, pvI_int, pvB_bool, pvS_str, pvL_rows, c_and, c_or, c_andn, c_orn, cond_true, cond_false, Bool.and_self_left, Bool.and_self, Bool.or_self_left, Bool.or_self, Bool.or_true, Bool.or_false, Bool.true_or, Bool.false_or, Bool.and_true, Bool.and_false, Bool.true_and, Bool.false_and, Bool.not_true, Bool.not_false, Int.toNat_natCast, Bool.not_not, Bool.not_or, Bool.not_and, xr, cr, List.cons_append, List.nil_append, e1, e2, e3, l16, l61, l62, endR]
  cases validR s a1 a2 a3 a4 a5 a6 a7 a9 a10 a11 a12 La L14 L16 L17 L19 L24 x0 x1 x2 x3 x4 x5 x6 x7 x8 x9 x10 x11 x12 x13 x15 x21 x22 x23 x25 x26 x27 <;> try rfl
  cases (iLt 0 x1 && iLe x1 x3) <;> try rfl
  cases shortR L14 x12 x13
  · cases (iLt 0 x2 && iLe x2 x10) <;> rfl
  · simp only [List.map_cons, List.map_nil, pv_int, pv_bool, pv_str, pv_rows, Option.bind_some, bind_c, pvB_c, pvI_c, pvS_c, pvL_c, cell_zero, cell_succ, pvI_int, pvB_bool, pvS_str, pvL_rows, c_and, c_or, c_andn, c_orn, cond_true, cond_false, Bool.and_self_left, Bool.and_self, Bool.or_self_left, Bool.or_self, Bool.or_true, Bool.or_false, Bool.true_or, Bool.false_or, Bool.and_true, Bool.and_false, Bool.true_and, Bool.false_and, Bool.not_true, Bool.not_false, Int.toNat_natCast, Bool.not_not, Bool.not_or, Bool.not_and, xr, cr, List.cons_append, List.nil_append]
    cases ((leftR L14 L14.length).length : Int) == 0 <;> cases (iLt 0 x2 && iLe x2 x10) <;> rfl
theorem M19 (hN : 2097152 < N) (hs : s.size ≤ 1048576) (h14 : L14.length ≤ 1048576) (h16 : L16.length ≤ 1048576) (h17 : L17.length ≤ 1048576) (h19 : L19.length ≤ 1048576) : c19 N ([.str s, .int a1, .int a2, .int a3, .int a4, .int a5, .int a6, .int a7, .bool a8, .int a9, .int a10, .int a11, .int a12, .rows La] ++ lsI L14 L16 L17 L19 L24 b18 b20 x0 x1 x2 x3 x4 x5 x6 x7 x8 x9 x10 x11 x12 x13 x15 x21 x22 x23 x25 x26 x27) =
    some [.int (endR (validR s a1 a2 a3 a4 a5 a6 a7 a9 a10 a11 a12 La L14 L16 L17 L19 L24 x0 x1 x2 x3 x4 x5 x6 x7 x8 x9 x10 x11 x12 x13 x15 x21 x22 x23 x25 x26 x27) L14 x12 x13 x1 x2 x3 x10)] := by
  simp only [lsI, List.cons_append, List.nil_append]
  show t19 (std (env19 N) N) (xOf _) = _
  have e1 : ∀ ls, env19 N 17 [] ls = c17 N ls := fun ls => rfl
  have e2 : ∀ ls, env19 N 63 [] ls = c63 N ls := fun ls => rfl
  have e3 : ∀ ls, env19 N 64 [] ls = c64 N ls := fun ls => rfl
  have l16 := M17 N s a1 a2 a3 a4 a5 a6 a7 a9 a10 a11 a12 a8 La L14 L16 L17 L19 L24 b18 b20 x0 x1 x2 x3 x4 x5 x6 x7 x8 x9 x10 x11 x12 x13 x15 x21 x22 x23 x25 x26 x27 hN hs h14 h16 h17 h19
  have l61 := L63 N L14 L16 L17 L19 L24 b18 b20 x0 x1 x2 x3 x4 x5 x6 x7 x8 x9 x10 x11 x12 x13 x15 x21 x22 x23 x25 x26 x27 (by omega) (by omega)
  have l62 := L64 N L14 L16 L17 L19 L24 b18 b20 x0 x1 x2 x3 x4 x5 x6 x7 x8 x9 x10 x11 x12 x13 x15 x21 x22 x23 x25 x26 x27 (by omega) (by omega)
  simp only [lsI, List.cons_append, List.nil_append] at l16 l61 l62
  simp only [t19, std, xOf, List.map_cons, List.map_nil, pv_int, pv_bool, pv_str, pv_rows, Option.bind_some, bind_c, pvB_c, pvI_c, pvS_c, pvL_c, cell_zero, cell_succ, pvI_int, pvB_bool, pvS_str, pvL_rows, c_and, c_or, c_andn, c_orn, cond_true, cond_false, Bool.and_self_left, Bool.and_self, Bool.or_self_left, Bool.or_self, Bool.or_true, Bool.or_false, Bool.true_or, Bool.false_or, Bool.and_true, Bool.and_false, Bool.true_and, Bool.false_and, Bool.not_true, Bool.not_false, Int.toNat_natCast, Bool.not_not, Bool.not_or, Bool.not_and, xr, cr, List.cons_append, List.nil_append, e1, e2, e3, l16, l61, l62, endR]
  cases validR s a1 a2 a3 a4 a5 a6 a7 a9 a10 a11 a12 La L14 L16 L17 L19 L24 x0 x1 x2 x3 x4 x5 x6 x7 x8 x9 x10 x11 x12 x13 x15 x21 x22 x23 x25 x26 x27 <;> try rfl
  cases (iLt 0 x1 && iLe x1 x3) <;> try rfl
  cases shortR L14 x12 x13
  · cases (iLt 0 x2 && iLe x2 x10) <;> rfl
  · simp only [List.map_cons, List.map_nil, pv_int, pv_bool, pv_str, pv_rows, Option.bind_some, bind_c, pvB_c, pvI_c, pvS_c, pvL_c, cell_zero, cell_succ, pvI_int, pvB_bool, pvS_str, pvL_rows, c_and, c_or, c_andn, c_orn, cond_true, cond_false, Bool.and_self_left, Bool.and_self, Bool.or_self_left, Bool.or_self, Bool.or_true, Bool.or_false, Bool.true_or, Bool.false_or, Bool.and_true, Bool.and_false, Bool.true_and, Bool.false_and, Bool.not_true, Bool.not_false, Int.toNat_natCast, Bool.not_not, Bool.not_or, Bool.not_and, xr, cr, List.cons_append, List.nil_append]
    cases ((leftR L14 L14.length).length : Int) == 0 <;> cases (iLt 0 x2 && iLe x2 x10) <;> rfl
end
end Go.Px
