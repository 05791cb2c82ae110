/-
The laws of an innings: lists of players, numbers.
-/
import Derived.Test.YtopmcbahdgfleaaGreatPxI2
namespace Go.Px
set_option linter.unusedVariables false
set_option linter.unusedSimpArgs false
set_option maxRecDepth 100000

theorem L163 (N : Nat) (L : Rows) (v : Int) (hN : L.length < N) (hl : L.length ≤ 2097152) : c163 N [.rows L, .int v] = some [.int (idxR (fun j => v == atI L j 0) L.length)] := by
  show t163 (std (env163 N) N) (xOf _) = _
  simp only [t163, std, xOf, List.map_cons, List.map_nil, pv_int, pv_bool, pv_str, pv_rows, Option.bind_some, bind_c, pvB_c, pvI_c, pvS_c, pvL_c, cell_zero, cell_succ, pvI_int, pvB_bool, pvS_str, pvL_rows, c_and, c_or, c_andn, c_orn, cond_true, cond_false, Bool.and_self_left, Bool.and_self, Bool.or_self_left, Bool.or_self, Bool.or_true, Bool.or_false, Bool.true_or, Bool.false_or, Bool.and_true, Bool.and_false, Bool.true_and, Bool.false_and, Bool.not_true, Bool.not_false, Int.toNat_natCast, Bool.not_not, Bool.not_or, Bool.not_and, xr, cr, List.cons_append, List.nil_append]
  refine bind_loop (iter_find (len := L.length) (seek fun j => v == atI L j 0) ?_ ?_ L.length 0 N (by omega) (by omega)) ?_
  · intro self
    simp only [List.map_cons, List.map_nil, pv_int, pv_bool, pv_str, pv_rows, Option.bind_some, bind_c, pvB_c, pvI_c, pvS_c, pvL_c, cell_zero, cell_succ, pvI_int, pvB_bool, pvS_str, pvL_rows, c_and, c_or, c_andn, c_orn, cond_true, cond_false, Bool.and_self_left, Bool.and_self, Bool.or_self_left, Bool.or_self, Bool.or_true, Bool.or_false, Bool.true_or, Bool.false_or, Bool.and_true, Bool.and_false, Bool.true_and, Bool.false_and, Bool.not_true, Bool.not_false, Int.toNat_natCast, Bool.not_not, Bool.not_or, Bool.not_and, xr, cr, List.cons_append, List.nil_append, ge_len]
  · intro i self hi
    simp only [List.map_cons, List.map_nil, pv_int, pv_bool, pv_str, pv_rows, Option.bind_some, bind_c, pvB_c, pvI_c, pvS_c, pvL_c, cell_zero, cell_succ, pvI_int, pvB_bool, pvS_str, pvL_rows, c_and, c_or, c_andn, c_orn, cond_true, cond_false, Bool.and_self_left, Bool.and_self, Bool.or_self_left, Bool.or_self, Bool.or_true, Bool.or_false, Bool.true_or, Bool.false_or, Bool.and_true, Bool.and_false, Bool.true_and, Bool.false_and, Bool.not_true, Bool.not_false, Int.toNat_natCast, Bool.not_not, Bool.not_or, Bool.not_and, xr, cr, List.cons_append, List.nil_append, wrap_nat (show i ≤ 1099511627776 by omega), lt_len hi, in_range hi, seek, atI_def]
    cases v == atI L i 0 <;> rfl
  · unfold idxR
    cases findR (seek fun j => v == atI L j 0) L.length 0 <;> rfl
def hasI (L : Rows) (k : Nat) (v : Int) : Bool := anyR (fun j => v == atI L j 0) k 0
theorem L98 (N : Nat) (L : Rows) (v : Int) (hN : L.length < N) (hl : L.length ≤ 2097152) : c98 N [.rows L, .int v] = some [.bool (hasI L L.length v)] := by
  show t98 (std (env98 N) N) (xOf _) = _
  have e : ∀ ls, env98 N 163 [] ls = c163 N ls := fun ls => rfl
  simp only [t98, std, xOf, List.map_cons, List.map_nil, pv_int, pv_bool, pv_str, pv_rows, Option.bind_some, bind_c, pvB_c, pvI_c, pvS_c, pvL_c, cell_zero, cell_succ, pvI_int, pvB_bool, pvS_str, pvL_rows, c_and, c_or, c_andn, c_orn, cond_true, cond_false, Bool.and_self_left, Bool.and_self, Bool.or_self_left, Bool.or_self, Bool.or_true, Bool.or_false, Bool.true_or, Bool.false_or, Bool.and_true, Bool.and_false, Bool.true_and, Bool.false_and, Bool.not_true, Bool.not_false, Int.toNat_natCast, Bool.not_not, Bool.not_or, Bool.not_and, xr, cr, List.cons_append, List.nil_append, e, L163 N L v hN hl, idx_nonneg, hasI]
theorem has_take (L : Rows) (i : Nat) (v : Int) (h : i ≤ L.length) : hasI (L.take i) (L.take i).length v = hasI L i v := by
  rw [List.length_take, Nat.min_eq_left h]
  exact anyR_congr i 0 (fun j _ hj => by rw [atI_take (by omega)])
def diffBad (L : Rows) (n : Int) (i : Nat) : Bool := !btw (atI L i 0) 1 n || hasI L i (atI L i 0)
def diffOk (L : Rows) (n : Int) : Bool := !anyR (diffBad L n) L.length 0
theorem L55 (N : Nat) (L : Rows) (n : Int) (hN : L.length < N) (hl : L.length ≤ 2097152) : c55 N [.rows L, .int n] = some [.bool (diffOk L n)] := by
  show t55 (std (env55 N) N) (xOf _) = _
  have e : ∀ ls, env55 N 53 [] ls = c53 N ls := fun ls => rfl
  have e2 : ∀ ls, env55 N 98 [] ls = c98 N ls := fun ls => rfl
  simp only [t55, std, xOf, List.map_cons, List.map_nil, pv_int, pv_bool, pv_str, pv_rows, Option.bind_some, bind_c, pvB_c, pvI_c, pvS_c, pvL_c, cell_zero, cell_succ, pvI_int, pvB_bool, pvS_str, pvL_rows, c_and, c_or, c_andn, c_orn, cond_true, cond_false, Bool.and_self_left, Bool.and_self, Bool.or_self_left, Bool.or_self, Bool.or_true, Bool.or_false, Bool.true_or, Bool.false_or, Bool.and_true, Bool.and_false, Bool.true_and, Bool.false_and, Bool.not_true, Bool.not_false, Int.toNat_natCast, Bool.not_not, Bool.not_or, Bool.not_and, xr, cr, List.cons_append, List.nil_append]
  refine bind_loop (iter_any (len := L.length) (diffBad L n) [.bool false] ?_ ?_ N hN) ?_
  · intro self
    simp only [List.map_cons, List.map_nil, pv_int, pv_bool, pv_str, pv_rows, Option.bind_some, bind_c, pvB_c, pvI_c, pvS_c, pvL_c, cell_zero, cell_succ, pvI_int, pvB_bool, pvS_str, pvL_rows, c_and, c_or, c_andn, c_orn, cond_true, cond_false, Bool.and_self_left, Bool.and_self, Bool.or_self_left, Bool.or_self, Bool.or_true, Bool.or_false, Bool.true_or, Bool.false_or, Bool.and_true, Bool.and_false, Bool.true_and, Bool.false_and, Bool.not_true, Bool.not_false, Int.toNat_natCast, Bool.not_not, Bool.not_or, Bool.not_and, xr, cr, List.cons_append, List.nil_append, ge_len]
  · intro i self hi
    have h1 : (L.take i).length ≤ L.length := List.length_take_le' i L
    simp only [List.map_cons, List.map_nil, pv_int, pv_bool, pv_str, pv_rows, Option.bind_some, bind_c, pvB_c, pvI_c, pvS_c, pvL_c, cell_zero, cell_succ, pvI_int, pvB_bool, pvS_str, pvL_rows, c_and, c_or, c_andn, c_orn, cond_true, cond_false, Bool.and_self_left, Bool.and_self, Bool.or_self_left, Bool.or_self, Bool.or_true, Bool.or_false, Bool.true_or, Bool.false_or, Bool.and_true, Bool.and_false, Bool.true_and, Bool.false_and, Bool.not_true, Bool.not_false, Int.toNat_natCast, Bool.not_not, Bool.not_or, Bool.not_and, xr, cr, List.cons_append, List.nil_append, wrap_nat (show i ≤ 1099511627776 by omega), lt_len hi, in_range hi, e, e2, L53, rg_ok (Nat.le_of_lt hi), Int.toNat_zero, List.drop_zero, L98 N (L.take i) _ (by omega) (by omega), has_take L i _ (by omega), atI_def, diffBad]
    cases btw (atI L i 0) 1 n <;> cases hasI L i (atI L i 0) <;> rfl
  · unfold diffOk
    cases anyR (diffBad L n) L.length 0 <;> rfl
theorem L59 (N : Nat) (L : Rows) (n : Int) (hN : L.length < N) (hl : L.length ≤ 2097152) : c59 N [.rows L, .int n] = some [.bool (diffOk L n)] := by
  show t59 (std (env59 N) N) (xOf _) = _
  have e : ∀ ls, env59 N 58 [] ls = c58 N ls := fun ls => rfl
  simp only [t59, std, xOf, List.map_cons, List.map_nil, pv_int, pv_bool, pv_str, pv_rows, Option.bind_some, bind_c, pvB_c, pvI_c, pvS_c, pvL_c, cell_zero, cell_succ, pvI_int, pvB_bool, pvS_str, pvL_rows, c_and, c_or, c_andn, c_orn, cond_true, cond_false, Bool.and_self_left, Bool.and_self, Bool.or_self_left, Bool.or_self, Bool.or_true, Bool.or_false, Bool.true_or, Bool.false_or, Bool.and_true, Bool.and_false, Bool.true_and, Bool.false_and, Bool.not_true, Bool.not_false, Int.toNat_natCast, Bool.not_not, Bool.not_or, Bool.not_and, xr, cr, List.cons_append, List.nil_append]
  refine bind_loop (iter_any (len := L.length) (diffBad L n) [.bool false] ?_ ?_ N hN) ?_
  · intro self
    simp only [List.map_cons, List.map_nil, pv_int, pv_bool, pv_str, pv_rows, Option.bind_some, bind_c, pvB_c, pvI_c, pvS_c, pvL_c, cell_zero, cell_succ, pvI_int, pvB_bool, pvS_str, pvL_rows, c_and, c_or, c_andn, c_orn, cond_true, cond_false, Bool.and_self_left, Bool.and_self, Bool.or_self_left, Bool.or_self, Bool.or_true, Bool.or_false, Bool.true_or, Bool.false_or, Bool.and_true, Bool.and_false, Bool.true_and, Bool.false_and, Bool.not_true, Bool.not_false, Int.toNat_natCast, Bool.not_not, Bool.not_or, Bool.not_and, xr, cr, List.cons_append, List.nil_append, ge_len]
  · intro i self hi
    have h1 : (L.take i).length = i := by rw [List.length_take]; omega
    simp only [List.map_cons, List.map_nil, pv_int, pv_bool, pv_str, pv_rows, Option.bind_some, bind_c, pvB_c, pvI_c, pvS_c, pvL_c, cell_zero, cell_succ, pvI_int, pvB_bool, pvS_str, pvL_rows, c_and, c_or, c_andn, c_orn, cond_true, cond_false, Bool.and_self_left, Bool.and_self, Bool.or_self_left, Bool.or_self, Bool.or_true, Bool.or_false, Bool.true_or, Bool.false_or, Bool.and_true, Bool.and_false, Bool.true_and, Bool.false_and, Bool.not_true, Bool.not_false, Int.toNat_natCast, Bool.not_not, Bool.not_or, Bool.not_and, xr, cr, List.cons_append, List.nil_append, wrap_nat (show i ≤ 1099511627776 by omega), lt_len hi, in_range hi, e, L58, rg_ok (Nat.le_of_lt hi), Int.toNat_zero, List.drop_zero, atI_def, diffBad, h1]
    cases btw (atI L i 0) 1 n with
    | false => rfl
    | true =>
      simp only [List.map_cons, List.map_nil, pv_int, pv_bool, pv_str, pv_rows, Option.bind_some, bind_c, pvB_c, pvI_c, pvS_c, pvL_c, cell_zero, cell_succ, pvI_int, pvB_bool, pvS_str, pvL_rows, c_and, c_or, c_andn, c_orn, cond_true, cond_false, Bool.and_self_left, Bool.and_self, Bool.or_self_left, Bool.or_self, Bool.or_true, Bool.or_false, Bool.true_or, Bool.false_or, Bool.and_true, Bool.and_false, Bool.true_and, Bool.false_and, Bool.not_true, Bool.not_false, Int.toNat_natCast, Bool.not_not, Bool.not_or, Bool.not_and, xr, cr, List.cons_append, List.nil_append]
      refine bind_loop (iter_enc (len := i) (fun j => [.int (j : Int)]) (fun j => atI L i 0 == atI L j 0) [.int 0, .bool false] [.int 1, .int (i : Int)] ?_ ?_ N (by omega)) ?_
      · intro self
        simp only [List.map_cons, List.map_nil, pv_int, pv_bool, pv_str, pv_rows, Option.bind_some, bind_c, pvB_c, pvI_c, pvS_c, pvL_c, cell_zero, cell_succ, pvI_int, pvB_bool, pvS_str, pvL_rows, c_and, c_or, c_andn, c_orn, cond_true, cond_false, Bool.and_self_left, Bool.and_self, Bool.or_self_left, Bool.or_self, Bool.or_true, Bool.or_false, Bool.true_or, Bool.false_or, Bool.and_true, Bool.and_false, Bool.true_and, Bool.false_and, Bool.not_true, Bool.not_false, Int.toNat_natCast, Bool.not_not, Bool.not_or, Bool.not_and, xr, cr, List.cons_append, List.nil_append, ge_len]
      · intro j self hj
        simp only [List.map_cons, List.map_nil, pv_int, pv_bool, pv_str, pv_rows, Option.bind_some, bind_c, pvB_c, pvI_c, pvS_c, pvL_c, cell_zero, cell_succ, pvI_int, pvB_bool, pvS_str, pvL_rows, c_and, c_or, c_andn, c_orn, cond_true, cond_false, Bool.and_self_left, Bool.and_self, Bool.or_self_left, Bool.or_self, Bool.or_true, Bool.or_false, Bool.true_or, Bool.false_or, Bool.and_true, Bool.and_false, Bool.true_and, Bool.false_and, Bool.not_true, Bool.not_false, Int.toNat_natCast, Bool.not_not, Bool.not_or, Bool.not_and, xr, cr, List.cons_append, List.nil_append, wrap_nat (show j ≤ 1099511627776 by omega), lt_len hj, in_range hj, atI_take hj]
        rfl
      · unfold hasI
        cases anyR (fun j => atI L i 0 == atI L j 0) i 0 <;> rfl
  · unfold diffOk
    cases anyR (diffBad L n) L.length 0 <;> rfl

def begunR (L : Rows) : Bool := anyR (fun i => !(atI L i 0 == 0)) L.length 0
theorem L165 (N : Nat) (v : Int) : c165 N [.int v] = some [.bool (!(v == 0))] := rfl
def lsI (L14 L16 L17 L19 L24 : Rows) (b18 b20 : Bool) (x0 x1 x2 x3 x4 x5 x6 x7 x8 x9 x10 x11 x12 x13 x15 x21 x22 x23 x25 x26 x27 : Int) : List PV :=
  [.int x0, .int x1, .int x2, .int x3, .int x4, .int x5, .int x6, .int x7, .int x8, .int x9, .int x10, .int x11, .int x12, .int x13, .rows L14, .int x15, .rows L16, .rows L17, .bool b18, .rows L19, .bool b20, .int x21, .int x22, .int x23, .rows L24, .int x25, .int x26, .int x27]
section
variable (N : Nat) (L14 L16 L17 L19 L24 : Rows) (b18 b20 : Bool) (x0 x1 x2 x3 x4 x5 x6 x7 x8 x9 x10 x11 x12 x13 x15 x21 x22 x23 x25 x26 x27 : Int)
theorem L103 (hN : L14.length < N) (hl : L14.length ≤ 2097152) : c103 N (lsI L14 L16 L17 L19 L24 b18 b20 x0 x1 x2 x3 x4 x5 x6 x7 x8 x9 x10 x11 x12 x13 x15 x21 x22 x23 x25 x26 x27) = some [.bool (begunR L14)] := by
  show t103 (std (env103 N) N) (xOf (lsI ..)) = _
  have e : ∀ ls, env103 N 165 [] ls = c165 N ls := fun ls => rfl
  simp only [t103, std, xOf, lsI, List.map_cons, List.map_nil, pv_int, pv_bool, pv_str, pv_rows, Option.bind_some, bind_c, pvB_c, pvI_c, pvS_c, pvL_c, cell_zero, cell_succ, pvI_int, pvB_bool, pvS_str, pvL_rows, c_and, c_or, c_andn, c_orn, cond_true, cond_false, Bool.and_self_left, Bool.and_self, Bool.or_self_left, Bool.or_self, Bool.or_true, Bool.or_false, Bool.true_or, Bool.false_or, Bool.and_true, Bool.and_false, Bool.true_and, Bool.false_and, Bool.not_true, Bool.not_false, Int.toNat_natCast, Bool.not_not, Bool.not_or, Bool.not_and, xr, cr, List.cons_append, List.nil_append]
  rw [show begunR L14 = iLe 0 (idxR (fun i => !(atI L14 i 0 == 0)) L14.length) from (idx_nonneg _ _).symm]
  rw [Option.bind_assoc]
  refine bind_loop (iter_find (len := L14.length) (seek fun i => !(atI L14 i 0 == 0)) ?_ ?_ L14.length 0 N (by omega) (by omega)) ?_
  · intro self
    simp only [List.map_cons, List.map_nil, pv_int, pv_bool, pv_str, pv_rows, Option.bind_some, bind_c, pvB_c, pvI_c, pvS_c, pvL_c, cell_zero, cell_succ, pvI_int, pvB_bool, pvS_str, pvL_rows, c_and, c_or, c_andn, c_orn, cond_true, cond_false, Bool.and_self_left, Bool.and_self, Bool.or_self_left, Bool.or_self, Bool.or_true, Bool.or_false, Bool.true_or, Bool.false_or, Bool.and_true, Bool.and_false, Bool.true_and, Bool.false_and, Bool.not_true, Bool.not_false, Int.toNat_natCast, Bool.not_not, Bool.not_or, Bool.not_and, xr, cr, List.cons_append, List.nil_append, ge_len]
  · intro i self hi
    simp only [List.map_cons, List.map_nil, pv_int, pv_bool, pv_str, pv_rows, Option.bind_some, bind_c, pvB_c, pvI_c, pvS_c, pvL_c, cell_zero, cell_succ, pvI_int, pvB_bool, pvS_str, pvL_rows, c_and, c_or, c_andn, c_orn, cond_true, cond_false, Bool.and_self_left, Bool.and_self, Bool.or_self_left, Bool.or_self, Bool.or_true, Bool.or_false, Bool.true_or, Bool.false_or, Bool.and_true, Bool.and_false, Bool.true_and, Bool.false_and, Bool.not_true, Bool.not_false, Int.toNat_natCast, Bool.not_not, Bool.not_or, Bool.not_and, xr, cr, List.cons_append, List.nil_append, wrap_nat (show i ≤ 1099511627776 by omega), lt_len hi, in_range hi, seek, atI_def, e, L165]
    cases atI L14 i 0 == 0 <;> rfl
  · unfold idxR
    cases findR (seek fun i => !(atI L14 i 0 == 0)) L14.length 0 <;> rfl
theorem L70 (hN : L14.length < N) (hl : L14.length ≤ 2097152) : c70 N (lsI L14 L16 L17 L19 L24 b18 b20 x0 x1 x2 x3 x4 x5 x6 x7 x8 x9 x10 x11 x12 x13 x15 x21 x22 x23 x25 x26 x27) = some [.bool (begunR L14)] := by
  show t70 (std (env70 N) N) (xOf (lsI ..)) = _
  simp only [t70, std, xOf, lsI, List.map_cons, List.map_nil, pv_int, pv_bool, pv_str, pv_rows, Option.bind_some, bind_c, pvB_c, pvI_c, pvS_c, pvL_c, cell_zero, cell_succ, pvI_int, pvB_bool, pvS_str, pvL_rows, c_and, c_or, c_andn, c_orn, cond_true, cond_false, Bool.and_self_left, Bool.and_self, Bool.or_self_left, Bool.or_self, Bool.or_true, Bool.or_false, Bool.true_or, Bool.false_or, Bool.and_true, Bool.and_false, Bool.true_and, Bool.false_and, Bool.not_true, Bool.not_false, Int.toNat_natCast, Bool.not_not, Bool.not_or, Bool.not_and, xr, cr, List.cons_append, List.nil_append]
  refine bind_loop (iter_any (len := L14.length) (fun i => !(atI L14 i 0 == 0)) [.bool true] ?_ ?_ N hN) ?_
  · intro self
    simp only [List.map_cons, List.map_nil, pv_int, pv_bool, pv_str, pv_rows, Option.bind_some, bind_c, pvB_c, pvI_c, pvS_c, pvL_c, cell_zero, cell_succ, pvI_int, pvB_bool, pvS_str, pvL_rows, c_and, c_or, c_andn, c_orn, cond_true, cond_false, Bool.and_self_left, Bool.and_self, Bool.or_self_left, Bool.or_self, Bool.or_true, Bool.or_false, Bool.true_or, Bool.false_or, Bool.and_true, Bool.and_false, Bool.true_and, Bool.false_and, Bool.not_true, Bool.not_false, Int.toNat_natCast, Bool.not_not, Bool.not_or, Bool.not_and, xr, cr, List.cons_append, List.nil_append, ge_len]
  · intro i self hi
    simp only [List.map_cons, List.map_nil, pv_int, pv_bool, pv_str, pv_rows, Option.bind_some, bind_c, pvB_c, pvI_c, pvS_c, pvL_c, cell_zero, cell_succ, pvI_int, pvB_bool, pvS_str, pvL_rows, c_and, c_or, c_andn, c_orn, cond_true, cond_false, Bool.and_self_left, Bool.and_self, Bool.or_self_left, Bool.or_self, Bool.or_true, Bool.or_false, Bool.true_or, Bool.false_or, Bool.and_true, Bool.and_false, Bool.true_and, Bool.false_and, Bool.not_true, Bool.not_false, Int.toNat_natCast, Bool.not_not, Bool.not_or, Bool.not_and, xr, cr, List.cons_append, List.nil_append, wrap_nat (show i ≤ 1099511627776 by omega), lt_len hi, in_range hi, atI_def]
  · unfold begunR
    cases anyR (fun i => !(atI L14 i 0 == 0)) L14.length 0 <;> rfl
def shortR (L : Rows) (s n : Int) : Bool := begunR L && (s == 0 || n == 0)
theorem L61 (hN : L14.length < N) (hl : L14.length ≤ 2097152) : c61 N (lsI L14 L16 L17 L19 L24 b18 b20 x0 x1 x2 x3 x4 x5 x6 x7 x8 x9 x10 x11 x12 x13 x15 x21 x22 x23 x25 x26 x27) = some [.bool (shortR L14 x12 x13)] := by
  show t61 (std (env61 N) N) (xOf (lsI ..)) = _
  have e : ∀ ls, env61 N 103 [] ls = c103 N ls := fun ls => rfl
  have := L103 N L14 L16 L17 L19 L24 b18 b20 x0 x1 x2 x3 x4 x5 x6 x7 x8 x9 x10 x11 x12 x13 x15 x21 x22 x23 x25 x26 x27 hN hl
  simp only [lsI] at this
  simp only [t61, std, xOf, lsI, List.map_cons, List.map_nil, pv_int, pv_bool, pv_str, pv_rows, Option.bind_some, bind_c, pvB_c, pvI_c, pvS_c, pvL_c, cell_zero, cell_succ, pvI_int, pvB_bool, pvS_str, pvL_rows, c_and, c_or, c_andn, c_orn, cond_true, cond_false, Bool.and_self_left, Bool.and_self, Bool.or_self_left, Bool.or_self, Bool.or_true, Bool.or_false, Bool.true_or, Bool.false_or, Bool.and_true, Bool.and_false, Bool.true_and, Bool.false_and, Bool.not_true, Bool.not_false, Int.toNat_natCast, Bool.not_not, Bool.not_or, Bool.not_and, xr, cr, List.cons_append, List.nil_append, e, this, shortR]
theorem L63 (hN : L14.length < N) (hl : L14.length ≤ 2097152) : c63 N (lsI L14 L16 L17 L19 L24 b18 b20 x0 x1 x2 x3 x4 x5 x6 x7 x8 x9 x10 x11 x12 x13 x15 x21 x22 x23 x25 x26 x27) = some [.bool (shortR L14 x12 x13)] := by
  show t63 (std (env63 N) N) (xOf (lsI ..)) = _
  have e : ∀ ls, env63 N 70 [] ls = c70 N ls := fun ls => rfl
  have := L70 N L14 L16 L17 L19 L24 b18 b20 x0 x1 x2 x3 x4 x5 x6 x7 x8 x9 x10 x11 x12 x13 x15 x21 x22 x23 x25 x26 x27 hN hl
  simp only [lsI] at this
  simp only [t63, std, xOf, lsI, List.map_cons, List.map_nil, pv_int, pv_bool, pv_str, pv_rows, Option.bind_some, bind_c, pvB_c, pvI_c, pvS_c, pvL_c, cell_zero, cell_succ, pvI_int, pvB_bool, pvS_str, pvL_rows, c_and, c_or, c_andn, c_orn, cond_true, cond_false, Bool.and_self_left, Bool.and_self, Bool.or_self_left, Bool.or_self, Bool.or_true, Bool.or_false, Bool.true_or, Bool.false_or, Bool.and_true, Bool.and_false, Bool.true_and, Bool.false_and, Bool.not_true, Bool.not_false, Int.toNat_natCast, Bool.not_not, Bool.not_or, Bool.not_and, xr, cr, List.cons_append, List.nil_append, e, this, shortR]
def leftR (L : Rows) : Nat → Rows
  | 0 => []
  | i + 1 => cond (atI L i 0 == 0 || atI L i 0 == 3) (leftR L i ++ [[.int ((i : Int) + 1)]]) (leftR L i)
theorem left_len (L : Rows) : ∀ i, (leftR L i).length ≤ i
  | 0 => Nat.le_refl _
  | i + 1 => by
    have := left_len L i
    unfold leftR
    cases (atI L i 0 == 0 || atI L i 0 == 3)
    · exact Nat.le_succ_of_le this
    · simp; exact this
theorem L62 (hN : L14.length < N) (hl : L14.length ≤ 2097152) : c62 N (lsI L14 L16 L17 L19 L24 b18 b20 x0 x1 x2 x3 x4 x5 x6 x7 x8 x9 x10 x11 x12 x13 x15 x21 x22 x23 x25 x26 x27) = some [.rows (leftR L14 L14.length)] := by
  show t62 (std (env62 N) N) (xOf (lsI ..)) = _
  simp only [t62, std, xOf, lsI, List.map_cons, List.map_nil, pv_int, pv_bool, pv_str, pv_rows, Option.bind_some, bind_c, pvB_c, pvI_c, pvS_c, pvL_c, cell_zero, cell_succ, pvI_int, pvB_bool, pvS_str, pvL_rows, c_and, c_or, c_andn, c_orn, cond_true, cond_false, Bool.and_self_left, Bool.and_self, Bool.or_self_left, Bool.or_self, Bool.or_true, Bool.or_false, Bool.true_or, Bool.false_or, Bool.and_true, Bool.and_false, Bool.true_and, Bool.false_and, Bool.not_true, Bool.not_false, Int.toNat_natCast, Bool.not_not, Bool.not_or, Bool.not_and, xr, cr, List.cons_append, List.nil_append]
  refine bind_loop (iter_all (len := L14.length) (fun i => [.rows (leftR L14 i), .int (i : Int)]) [.rows (leftR L14 L14.length)] ?_ ?_ N hN) rfl
  · intro self
    simp only [List.map_cons, List.map_nil, pv_int, pv_bool, pv_str, pv_rows, Option.bind_some, bind_c, pvB_c, pvI_c, pvS_c, pvL_c, cell_zero, cell_succ, pvI_int, pvB_bool, pvS_str, pvL_rows, c_and, c_or, c_andn, c_orn, cond_true, cond_false, Bool.and_self_left, Bool.and_self, Bool.or_self_left, Bool.or_self, Bool.or_true, Bool.or_false, Bool.true_or, Bool.false_or, Bool.and_true, Bool.and_false, Bool.true_and, Bool.false_and, Bool.not_true, Bool.not_false, Int.toNat_natCast, Bool.not_not, Bool.not_or, Bool.not_and, xr, cr, List.cons_append, List.nil_append, ge_len]
  · intro i self hi
    have h2 : (leftR L14 i ++ [[PV.int ((i : Int) + 1)]]).length ≤ 4194304 := by have := left_len L14 i; simp; omega
    simp only [List.map_cons, List.map_nil, pv_int, pv_bool, pv_str, pv_rows, Option.bind_some, bind_c, pvB_c, pvI_c, pvS_c, pvL_c, cell_zero, cell_succ, pvI_int, pvB_bool, pvS_str, pvL_rows, c_and, c_or, c_andn, c_orn, cond_true, cond_false, Bool.and_self_left, Bool.and_self, Bool.or_self_left, Bool.or_self, Bool.or_true, Bool.or_false, Bool.true_or, Bool.false_or, Bool.and_true, Bool.and_false, Bool.true_and, Bool.false_and, Bool.not_true, Bool.not_false, Int.toNat_natCast, Bool.not_not, Bool.not_or, Bool.not_and, xr, cr, List.cons_append, List.nil_append, wrap_nat (show i ≤ 1099511627776 by omega), lt_len hi, in_range hi, atI_def, leftR, sm_ok h2 (show 8 ≤ 4096 by omega)]
    cases (atI L14 i 0 == 0 || atI L14 i 0 == 3) <;> rfl
theorem L64 (hN : L14.length < N) (hl : L14.length ≤ 2097152) : c64 N (lsI L14 L16 L17 L19 L24 b18 b20 x0 x1 x2 x3 x4 x5 x6 x7 x8 x9 x10 x11 x12 x13 x15 x21 x22 x23 x25 x26 x27) = some [.rows (leftR L14 L14.length)] := by
  show t64 (std (env64 N) N) (xOf (lsI ..)) = _
  simp only [t64, std, xOf, lsI, List.map_cons, List.map_nil, pv_int, pv_bool, pv_str, pv_rows, Option.bind_some, bind_c, pvB_c, pvI_c, pvS_c, pvL_c, cell_zero, cell_succ, pvI_int, pvB_bool, pvS_str, pvL_rows, c_and, c_or, c_andn, c_orn, cond_true, cond_false, Bool.and_self_left, Bool.and_self, Bool.or_self_left, Bool.or_self, Bool.or_true, Bool.or_false, Bool.true_or, Bool.false_or, Bool.and_true, Bool.and_false, Bool.true_and, Bool.false_and, Bool.not_true, Bool.not_false, Int.toNat_natCast, Bool.not_not, Bool.not_or, Bool.not_and, xr, cr, List.cons_append, List.nil_append]
  refine bind_loop (iter_all (len := L14.length) (fun i => [.rows (leftR L14 i), .int (i : Int)]) [.rows (leftR L14 L14.length)] ?_ ?_ N hN) rfl
  · intro self
    simp only [List.map_cons, List.map_nil, pv_int, pv_bool, pv_str, pv_rows, Option.bind_some, bind_c, pvB_c, pvI_c, pvS_c, pvL_c, cell_zero, cell_succ, pvI_int, pvB_bool, pvS_str, pvL_rows, c_and, c_or, c_andn, c_orn, cond_true, cond_false, Bool.and_self_left, Bool.and_self, Bool.or_self_left, Bool.or_self, Bool.or_true, Bool.or_false, Bool.true_or, Bool.false_or, Bool.and_true, Bool.and_false, Bool.true_and, Bool.false_and, Bool.not_true, Bool.not_false, Int.toNat_natCast, Bool.not_not, Bool.not_or, Bool.not_and, xr, cr, List.cons_append, List.nil_append, ge_len]
  · intro i self hi
    have h2 : (leftR L14 i ++ [[PV.int ((i : Int) + 1)]]).length ≤ 4194304 := by have := left_len L14 i; simp; omega
    simp only [List.map_cons, List.map_nil, pv_int, pv_bool, pv_str, pv_rows, Option.bind_some, bind_c, pvB_c, pvI_c, pvS_c, pvL_c, cell_zero, cell_succ, pvI_int, pvB_bool, pvS_str, pvL_rows, c_and, c_or, c_andn, c_orn, cond_true, cond_false, Bool.and_self_left, Bool.and_self, Bool.or_self_left, Bool.or_self, Bool.or_true, Bool.or_false, Bool.true_or, Bool.false_or, Bool.and_true, Bool.and_false, Bool.true_and, Bool.false_and, Bool.not_true, Bool.not_false, Int.toNat_natCast, Bool.not_not, Bool.not_or, Bool.not_and, xr, cr, List.cons_append, List.nil_append, wrap_nat (show i ≤ 1099511627776 by omega), lt_len hi, in_range hi, atI_def, leftR, sm_ok h2 (show 8 ≤ 4096 by omega)]
    cases (atI L14 i 0 == 0 || atI L14 i 0 == 3) <;> rfl
end
theorem L100 (N : Nat) (v : Int) : c100 N [.int v] = some [.bool (!btw v 0 1000000000)] := by
  show t100 (std (env100 N) N) (xOf _) = _
  have e : ∀ ls, env100 N 53 [] ls = c53 N ls := fun ls => rfl
  simp only [t100, std, xOf, List.map_cons, List.map_nil, pv_int, pv_bool, pv_str, pv_rows, Option.bind_some, bind_c, pvB_c, pvI_c, pvS_c, pvL_c, cell_zero, cell_succ, pvI_int, pvB_bool, pvS_str, pvL_rows, c_and, c_or, c_andn, c_orn, cond_true, cond_false, Bool.and_self_left, Bool.and_self, Bool.or_self_left, Bool.or_self, Bool.or_true, Bool.or_false, Bool.true_or, Bool.false_or, Bool.and_true, Bool.and_false, Bool.true_and, Bool.false_and, Bool.not_true, Bool.not_false, Int.toNat_natCast, Bool.not_not, Bool.not_or, Bool.not_and, xr, cr, List.cons_append, List.nil_append, e, L53]
end Go.Px
