/-
The laws of an innings: the batters.
-/
import Derived.Test.YtopmcbahdgfleaaGreatPxI3
namespace Go.Px
set_option linter.unusedVariables false
set_option linter.unusedSimpArgs false
set_option maxRecDepth 100000

def pIs (L : Rows) (v : Int) (i : Nat) : Bool := atI L i 0 == v
def inAt (s n : Int) (i : Nat) : Bool := s == (i : Int) + 1 || n == (i : Int) + 1
def bad54 (L : Rows) (s n : Int) (i : Nat) : Bool := iLt 3 (atI L i 0) || (pIs L 1 i && !inAt s n i)
def bad60 (L : Rows) (s n : Int) (i : Nat) : Bool := iLt 3 (atI L i 0) || !(pIs L 1 i == inAt s n i)
def outs (L : Rows) : Int := cntR (pIs L 2) L.length
def ins (L : Rows) : Int := cntR (pIs L 1) L.length
def two (s n : Int) : Int := cond (!(n == 0)) (IntKind.i64.wrap (cond (!(s == 0)) (IntKind.i64.wrap (0 + 1)) 0 + 1)) (cond (!(s == 0)) (IntKind.i64.wrap (0 + 1)) 0)
def bat54 (L : Rows) (s n wk k : Int) : Bool :=
  !anyR (bad54 L s n) L.length 0 && ((btw s 0 k && btw n 0 k) && (!(s == n && !(s == 0)) && ((two s n == ins L && (!begunR L || iLt 0 (two s n))) && outs L == wk)))
def bat60 (L : Rows) (s n wk : Int) : Bool :=
  !anyR (bad60 L s n) L.length 0 && (!((begunR L && iLt (ins L) 1) || (!(s == 0) && s == n)) && wk == outs L)

theorem one_two {v : Int} (h : (v == 1) = true) : (v == 2) = false := by
  have := beq_iff_eq.1 h
  rw [beq_eq_false_iff_ne]; omega

def begT (L : Rows) : Nat → Bool
  | 0 => false
  | i + 1 => begT L i || !(atI L i 0 == 0)
theorem begT_eq (L : Rows) : ∀ i, begT L i = anyR (fun j => !(atI L j 0 == 0)) i 0
  | 0 => rfl
  | i + 1 => by rw [anyR_last, Nat.zero_add, ← begT_eq L i]; rfl

section
variable (N : Nat) (L14 L16 L17 L19 L24 : Rows) (b18 b20 : Bool) (x0 x1 x2 x3 x4 x5 x6 x7 x8 x9 x10 x11 x12 x13 x15 x21 x22 x23 x25 x26 x27 : Int)
theorem L54 (k : Int) (hN : L14.length < N) (hl : L14.length ≤ 2097152) : c54 N (lsI L14 L16 L17 L19 L24 b18 b20 x0 x1 x2 x3 x4 x5 x6 x7 x8 x9 x10 x11 x12 x13 x15 x21 x22 x23 x25 x26 x27 ++ [.int k]) = some [.bool (bat54 L14 x12 x13 x4 k)] := by
  simp only [lsI, List.cons_append, List.nil_append]
  show t54 (std (env54 N) N) (xOf _) = _
  have e : ∀ ls, env54 N 53 [] ls = c53 N ls := fun ls => rfl
  simp only [t54, std, xOf, lsI, List.map_cons, List.map_nil, pv_int, pv_bool, pv_str, pv_rows, Option.bind_some, bind_c, pvB_c, pvI_c, pvS_c, pvL_c, cell_zero, cell_succ, pvI_int, pvB_bool, pvS_str, pvL_rows, c_and, c_or, c_andn, c_orn, cond_true, cond_false, Bool.and_self_left, Bool.and_self, Bool.or_self_left, Bool.or_self, Bool.or_true, Bool.or_false, Bool.true_or, Bool.false_or, Bool.and_true, Bool.and_false, Bool.true_and, Bool.false_and, Bool.not_true, Bool.not_false, Int.toNat_natCast, Bool.not_not, Bool.not_or, Bool.not_and, xr, cr, List.cons_append, List.nil_append]
  refine bind_loop (iter_enc (len := L14.length) (fun i => [.int (cntR (pIs L14 2) i), .int (cntR (pIs L14 1) i), .bool (begT L14 i), .int (i : Int)])
    (bad54 L14 x12 x13) [.int 0, .bool false] [.int 1, .int (outs L14), .int (ins L14), .bool (begunR L14)] ?_ ?_ N hN) ?_
  · intro self
    simp only [List.map_cons, List.map_nil, pv_int, pv_bool, pv_str, pv_rows, Option.bind_some, bind_c, pvB_c, pvI_c, pvS_c, pvL_c, cell_zero, cell_succ, pvI_int, pvB_bool, pvS_str, pvL_rows, c_and, c_or, c_andn, c_orn, cond_true, cond_false, Bool.and_self_left, Bool.and_self, Bool.or_self_left, Bool.or_self, Bool.or_true, Bool.or_false, Bool.true_or, Bool.false_or, Bool.and_true, Bool.and_false, Bool.true_and, Bool.false_and, Bool.not_true, Bool.not_false, Int.toNat_natCast, Bool.not_not, Bool.not_or, Bool.not_and, xr, cr, List.cons_append, List.nil_append, ge_len, begT_eq]
    rfl
  · intro i self hi
    simp only [List.map_cons, List.map_nil, pv_int, pv_bool, pv_str, pv_rows, Option.bind_some, bind_c, pvB_c, pvI_c, pvS_c, pvL_c, cell_zero, cell_succ, pvI_int, pvB_bool, pvS_str, pvL_rows, c_and, c_or, cond_true, cond_false, Bool.and_self_left, Bool.and_self, Bool.or_self_left, Bool.or_self, Bool.or_true, Bool.or_false, Bool.true_or, Bool.false_or, Bool.and_true, Bool.and_false, Bool.true_and, Bool.false_and, Bool.not_true, Bool.not_false, Int.toNat_natCast, Bool.not_not, xr, cr, List.cons_append, List.nil_append, wrap_nat (show i ≤ 1099511627776 by omega), lt_len hi, in_range hi, atI_def, cnt_wrap (pIs L14 2) (show i ≤ 1099511627776 by omega), cnt_wrap (pIs L14 1) (show i ≤ 1099511627776 by omega)]
    unfold bad54 pIs inAt
    simp only [cntR, begT]
    cases h3 : iLt 3 (atI L14 i 0) with
    | true => rfl
    | false =>
      cases h1 : atI L14 i 0 == 1 with
      | true =>
        rw [one_two h1]
        cases x12 == (i : Int) + 1 <;> cases x13 == (i : Int) + 1 <;> rfl
      | false => cases h2 : atI L14 i 0 == 2 <;> rfl
  · unfold bat54
    simp only [e, L53]
    cases anyR (bad54 L14 x12 x13) L14.length 0 with
    | true => rfl
    | false =>
      simp only [List.map_cons, List.map_nil, pv_int, pv_bool, pv_str, pv_rows, Option.bind_some, bind_c, pvB_c, pvI_c, pvS_c, pvL_c, cell_zero, cell_succ, pvI_int, pvB_bool, pvS_str, pvL_rows, c_and, c_or, c_andn, c_orn, cond_true, cond_false, Bool.and_self_left, Bool.and_self, Bool.or_self_left, Bool.or_self, Bool.or_true, Bool.or_false, Bool.true_or, Bool.false_or, Bool.and_true, Bool.and_false, Bool.true_and, Bool.false_and, Bool.not_true, Bool.not_false, Int.toNat_natCast, Bool.not_not, Bool.not_or, Bool.not_and, xr, cr, List.cons_append, List.nil_append]
      unfold two
      cases btw x12 0 k <;> cases btw x13 0 k <;> try rfl
      cases x12 == 0 <;> cases x13 == 0 <;> cases x12 == x13 <;> try rfl
theorem L60 (hN : L14.length < N) (hl : L14.length ≤ 2097152) : c60 N (lsI L14 L16 L17 L19 L24 b18 b20 x0 x1 x2 x3 x4 x5 x6 x7 x8 x9 x10 x11 x12 x13 x15 x21 x22 x23 x25 x26 x27) = some [.bool (bat60 L14 x12 x13 x4)] := by
  show t60 (std (env60 N) N) (xOf (lsI ..)) = _
  have e : ∀ ls, env60 N 70 [] ls = c70 N ls := fun ls => rfl
  have h70 := L70 N L14 L16 L17 L19 L24 b18 b20 x0 x1 x2 x3 x4 x5 x6 x7 x8 x9 x10 x11 x12 x13 x15 x21 x22 x23 x25 x26 x27 hN hl
  simp only [lsI] at h70
  simp only [t60, std, xOf, lsI, List.map_cons, List.map_nil, pv_int, pv_bool, pv_str, pv_rows, Option.bind_some, bind_c, pvB_c, pvI_c, pvS_c, pvL_c, cell_zero, cell_succ, pvI_int, pvB_bool, pvS_str, pvL_rows, c_and, c_or, c_andn, c_orn, cond_true, cond_false, Bool.and_self_left, Bool.and_self, Bool.or_self_left, Bool.or_self, Bool.or_true, Bool.or_false, Bool.true_or, Bool.false_or, Bool.and_true, Bool.and_false, Bool.true_and, Bool.false_and, Bool.not_true, Bool.not_false, Int.toNat_natCast, Bool.not_not, Bool.not_or, Bool.not_and, xr, cr, List.cons_append, List.nil_append, e, h70]
  refine bind_loop (iter_enc (len := L14.length) (fun i => [.int (cntR (pIs L14 2) i), .int (cntR (pIs L14 1) i), .int (i : Int)])
    (bad60 L14 x12 x13) [.int 0, .bool false] [.int 1, .int (outs L14), .int (ins L14)] ?_ ?_ N hN) ?_
  · intro self
    simp only [List.map_cons, List.map_nil, pv_int, pv_bool, pv_str, pv_rows, Option.bind_some, bind_c, pvB_c, pvI_c, pvS_c, pvL_c, cell_zero, cell_succ, pvI_int, pvB_bool, pvS_str, pvL_rows, c_and, c_or, c_andn, c_orn, cond_true, cond_false, Bool.and_self_left, Bool.and_self, Bool.or_self_left, Bool.or_self, Bool.or_true, Bool.or_false, Bool.true_or, Bool.false_or, Bool.and_true, Bool.and_false, Bool.true_and, Bool.false_and, Bool.not_true, Bool.not_false, Int.toNat_natCast, Bool.not_not, Bool.not_or, Bool.not_and, xr, cr, List.cons_append, List.nil_append, ge_len]
    rfl
  · intro i self hi
    simp only [List.map_cons, List.map_nil, pv_int, pv_bool, pv_str, pv_rows, Option.bind_some, bind_c, pvB_c, pvI_c, pvS_c, pvL_c, cell_zero, cell_succ, pvI_int, pvB_bool, pvS_str, pvL_rows, c_and, c_or, cond_true, cond_false, Bool.and_self_left, Bool.and_self, Bool.or_self_left, Bool.or_self, Bool.or_true, Bool.or_false, Bool.true_or, Bool.false_or, Bool.and_true, Bool.and_false, Bool.true_and, Bool.false_and, Bool.not_true, Bool.not_false, Int.toNat_natCast, Bool.not_not, xr, cr, List.cons_append, List.nil_append, wrap_nat (show i ≤ 1099511627776 by omega), lt_len hi, in_range hi, atI_def, cnt_wrap (pIs L14 2) (show i ≤ 1099511627776 by omega), cnt_wrap (pIs L14 1) (show i ≤ 1099511627776 by omega)]
    unfold bad60 pIs inAt
    simp only [cntR]
    cases h3 : iLt 3 (atI L14 i 0) with
    | true => rfl
    | false =>
      cases h1 : atI L14 i 0 == 1 with
      | true =>
        rw [one_two h1]
        cases x12 == (i : Int) + 1 <;> cases x13 == (i : Int) + 1 <;> rfl
      | false => cases h2 : atI L14 i 0 == 2 <;> cases x12 == (i : Int) + 1 <;> cases x13 == (i : Int) + 1 <;> rfl
  · unfold bat60
    cases anyR (bad60 L14 x12 x13) L14.length 0 with
    | true => rfl
    | false =>
      simp only [List.map_cons, List.map_nil, pv_int, pv_bool, pv_str, pv_rows, Option.bind_some, bind_c, pvB_c, pvI_c, pvS_c, pvL_c, cell_zero, cell_succ, pvI_int, pvB_bool, pvS_str, pvL_rows, c_and, c_or, c_andn, c_orn, cond_true, cond_false, Bool.and_self_left, Bool.and_self, Bool.or_self_left, Bool.or_self, Bool.or_true, Bool.or_false, Bool.true_or, Bool.false_or, Bool.and_true, Bool.and_false, Bool.true_and, Bool.false_and, Bool.not_true, Bool.not_false, Int.toNat_natCast, Bool.not_not, Bool.not_or, Bool.not_and, xr, cr, List.cons_append, List.nil_append]
      cases begunR L14 <;> cases h : iLt (ins L14) 1 <;> cases x12 == 0 <;> cases x12 == x13 <;> first | rfl | (simp [found, cellAt, h])
end
end Go.Px
