/-
The laws of an innings: phases and rules.
-/
import Derived.Test.YtopmcbahdgfleaaGreatPxI1
namespace Go.Px
set_option linter.unusedVariables false
set_option linter.unusedSimpArgs false
set_option maxRecDepth 100000

theorem prev_ok {i len : Nat} (h : i < len) (hl : len ≤ 1099511627776) : (!iLt 0 (i : Int) || iIn (IntKind.i64.wrap ((i : Int) - 1)) (len : Int)) = true := by
  rw [wrap64 (by omega) (by omega)]
  simp only [iLt, iIn, Bool.or_eq_true, Bool.not_eq_true', decide_eq_false_iff_not, decide_eq_true_eq]
  omega
def phBad (L : Rows) (ov : Int) (i : Nat) : Bool := (iLt (atI L i 0) 1 || iLt (atI L i 1) (atI L i 0) || iLt ov (atI L i 1)) || !btw (atI L i 2) 0 11
def phBad2 (L : Rows) (i : Nat) : Bool := iLt 0 (i : Int) && iLe (atI L i 0) (pvI (pvAt L (IntKind.i64.wrap ((i : Int) - 1)).toNat 1))
def phAns (L : Rows) (ov : Int) (i : Nat) : Option (List PV) := cond (phBad L ov i) (some [.int 2]) (cond (phBad2 L i) (some [.int 8]) none)
def codeOf : Option (List PV) → Int
  | none => 0
  | some r => pvI (cellAt r 0)
def phCode (L : Rows) (ov : Int) : Int := cond (iLt 8 (L.length : Int)) 9 (codeOf (findR (phAns L ov) L.length 0))
theorem found_code (o : Option (List PV)) : cond (pvI (cellAt (found o) 0) == ((0 : Nat) : Int)) (some [PV.int (pvI (cellAt (found o) 1))]) (some [PV.int 0]) = some [PV.int (codeOf o)] := by
  cases o <;> rfl
theorem L97 (N : Nat) (x0 : ByteArray) (x1 x2 x3 x4 x5 x6 x7 x9 x10 x11 x12 : Int) (x8 : Bool) (L : Rows) (hN : 2097152 < N) :
   c97 N [.str x0, .int x1, .int x2, .int x3, .int x4, .int x5, .int x6, .int x7, .bool x8, .int x9, .int x10, .int x11, .int x12, .rows L] = some [.int (phCode L x3)] := by
  show t97 (std (env97 N) N) (xOf _) = _
  have e : ∀ ls, env97 N 162 [] ls = c162 N ls := fun ls => rfl
  simp only [t97, std, xOf, e, L162, List.map_cons, List.map_nil, pv_int, pv_bool, pv_str, pv_rows, Option.bind_some, bind_c, pvB_c, pvI_c, pvS_c, pvL_c, cell_zero, cell_succ, pvI_int, pvB_bool, pvS_str, pvL_rows, c_and, c_or, c_andn, c_orn, cond_true, cond_false, Bool.and_self_left, Bool.and_self, Bool.or_self_left, Bool.or_self, Bool.or_true, Bool.or_false, Bool.true_or, Bool.false_or, Bool.and_true, Bool.and_false, Bool.true_and, Bool.false_and, Bool.not_true, Bool.not_false, Int.toNat_natCast, Bool.not_not, Bool.not_or, Bool.not_and, xr, cr, List.cons_append, List.nil_append, phCode]
  cases h8 : iLt 8 (L.length : Int) with
  | true => rfl
  | false =>
    have hl : L.length ≤ 8 := by simp [iLt] at h8; omega
    simp only [cond_false]
    refine bind_loop (iter_find (len := L.length) (phAns L x3) ?_ ?_ L.length 0 N (by omega) (by omega)) ?_
    · intro self
      simp only [List.map_cons, List.map_nil, pv_int, pv_bool, pv_str, pv_rows, Option.bind_some, bind_c, pvB_c, pvI_c, pvS_c, pvL_c, cell_zero, cell_succ, pvI_int, pvB_bool, pvS_str, pvL_rows, c_and, c_or, c_andn, c_orn, cond_true, cond_false, Bool.and_self_left, Bool.and_self, Bool.or_self_left, Bool.or_self, Bool.or_true, Bool.or_false, Bool.true_or, Bool.false_or, Bool.and_true, Bool.and_false, Bool.true_and, Bool.false_and, Bool.not_true, Bool.not_false, Int.toNat_natCast, Bool.not_not, Bool.not_or, Bool.not_and, xr, cr, List.cons_append, List.nil_append, ge_len]
    · intro i self hi
      simp only [List.map_cons, List.map_nil, pv_int, pv_bool, pv_str, pv_rows, Option.bind_some, bind_c, pvB_c, pvI_c, pvS_c, pvL_c, cell_zero, cell_succ, pvI_int, pvB_bool, pvS_str, pvL_rows, c_and, c_or, c_andn, c_orn, cond_true, cond_false, Bool.and_self_left, Bool.and_self, Bool.or_self_left, Bool.or_self, Bool.or_true, Bool.or_false, Bool.true_or, Bool.false_or, Bool.and_true, Bool.and_false, Bool.true_and, Bool.false_and, Bool.not_true, Bool.not_false, Int.toNat_natCast, Bool.not_not, Bool.not_or, Bool.not_and, xr, cr, List.cons_append, List.nil_append, Int.toNat_natCast, wrap_nat (show i ≤ 1099511627776 by omega), lt_len hi, in_range hi, L162, e, prev_ok hi (by omega)]
      simp only [phAns, phBad, phBad2, atI]
      cases (iLt (pvI (pvAt L i 0)) 1 || iLt (pvI (pvAt L i 1)) (pvI (pvAt L i 0)) || iLt x3 (pvI (pvAt L i 1)) || !btw (pvI (pvAt L i 2)) 0 11) <;> 
      cases (iLt 0 (i : Int) && iLe (pvI (pvAt L i 0)) (pvI (pvAt L (IntKind.i64.wrap ((i : Int) - 1)).toNat 1))) <;> rfl
    · exact found_code _

def rulesCode (x0 : ByteArray) (x1 x2 x3 x4 x5 x6 x7 x9 x10 x11 x12 : Int) (L : Rows) : Int :=
  cond (!nameOk x0) 5 (cond (!rangesOk x1 x2 x3 x4 x5 x6 x7 x9 x10 x11 x12) 2
    (cond ((!(x10 == 0) && x2 == 1) || ((!(x5 == 0) || iLt 0 (L.length : Int)) && x3 == 0)) 1
      (cond (!(x5 == 0) && iLt (IntKind.i64.wrap (x5 * x1)) x3) 13 (phCode L x3))))
theorem L52 (N : Nat) (x0 : ByteArray) (x1 x2 x3 x4 x5 x6 x7 x9 x10 x11 x12 : Int) (x8 : Bool) (L : Rows) (hN : 2097152 < N) (hs : x0.size ≤ 1048576) :
   c52 N [.str x0, .int x1, .int x2, .int x3, .int x4, .int x5, .int x6, .int x7, .bool x8, .int x9, .int x10, .int x11, .int x12, .rows L] = some [.int (rulesCode x0 x1 x2 x3 x4 x5 x6 x7 x9 x10 x11 x12 L)] := by
  show t52 (std (env52 N) N) (xOf _) = _
  have e : ∀ ls, env52 N 95 [] ls = c95 N ls := fun ls => rfl
  have e2 : ∀ ls, env52 N 96 [] ls = c96 N ls := fun ls => rfl
  have e3 : ∀ ls, env52 N 97 [] ls = c97 N ls := fun ls => rfl
  simp only [t52, std, xOf, e, e2, e3, L95 N x0 (by omega) hs, L96, L97 N _ _ _ _ _ _ _ _ _ _ _ _ _ _ hN, List.map_cons, List.map_nil, pv_int, pv_bool, pv_str, pv_rows, Option.bind_some, bind_c, pvB_c, pvI_c, pvS_c, pvL_c, cell_zero, cell_succ, pvI_int, pvB_bool, pvS_str, pvL_rows, c_and, c_or, cond_true, cond_false, Bool.and_self_left, Bool.and_self, Bool.or_self_left, Bool.or_self, Bool.or_true, Bool.or_false, Bool.true_or, Bool.false_or, Bool.and_true, Bool.and_false, Bool.true_and, Bool.false_and, Bool.not_true, Bool.not_false, Int.toNat_natCast, Bool.not_not, xr, cr, List.cons_append, List.nil_append, rulesCode]
  cases nameOk x0 <;> cases rangesOk x1 x2 x3 x4 x5 x6 x7 x9 x10 x11 x12 <;> try rfl
  simp only [List.map_cons, List.map_nil, pv_int, pv_bool, pv_str, pv_rows, Option.bind_some, bind_c, pvB_c, pvI_c, pvS_c, pvL_c, cell_zero, cell_succ, pvI_int, pvB_bool, pvS_str, pvL_rows, c_and, c_or, cond_true, cond_false, Bool.and_self_left, Bool.and_self, Bool.or_self_left, Bool.or_self, Bool.or_true, Bool.or_false, Bool.true_or, Bool.false_or, Bool.and_true, Bool.and_false, Bool.true_and, Bool.false_and, Bool.not_true, Bool.not_false, Int.toNat_natCast, Bool.not_not, xr, cr, List.cons_append, List.nil_append, Bool.not_true]
  cases (!(x10 == 0) && x2 == 1) <;> cases ((!(x5 == 0) || iLt 0 (L.length : Int)) && x3 == 0) <;> try rfl
  cases (!(x5 == 0) && iLt (IntKind.i64.wrap (x5 * x1)) x3) <;> rfl
theorem L57 (N : Nat) (x0 : ByteArray) (x1 x2 x3 x4 x5 x6 x7 x9 x10 x11 x12 : Int) (x8 : Bool) (L : Rows) (hN : 2097152 < N) (hs : x0.size ≤ 1048576) :
   c57 N [.str x0, .int x1, .int x2, .int x3, .int x4, .int x5, .int x6, .int x7, .bool x8, .int x9, .int x10, .int x11, .int x12, .rows L] = some [.int (rulesCode x0 x1 x2 x3 x4 x5 x6 x7 x9 x10 x11 x12 L)] := by
  show t57 (std (env57 N) N) (xOf _) = _
  have e : ∀ ls, env57 N 101 [] ls = c101 N ls := fun ls => rfl
  have e2 : ∀ ls, env57 N 102 [] ls = c102 N ls := fun ls => rfl
  simp only [t57, std, xOf, e, e2, L101 N x0 (by omega) hs, L102, List.map_cons, List.map_nil, pv_int, pv_bool, pv_str, pv_rows, Option.bind_some, bind_c, pvB_c, pvI_c, pvS_c, pvL_c, cell_zero, cell_succ, pvI_int, pvB_bool, pvS_str, pvL_rows, c_and, c_or, c_andn, c_orn, cond_true, cond_false, Bool.and_self_left, Bool.and_self, Bool.or_self_left, Bool.or_self, Bool.or_true, Bool.or_false, Bool.true_or, Bool.false_or, Bool.and_true, Bool.and_false, Bool.true_and, Bool.false_and, Bool.not_true, Bool.not_false, Int.toNat_natCast, Bool.not_not, Bool.not_or, Bool.not_and, xr, cr, List.cons_append, List.nil_append]
  simp only [← Bool.not_and, rulesCode]
  rw [show (btw x1 2 11 && btw x2 1 2 && btw x3 0 90 && btw x4 4 8 && btw x5 0 90 && btw x6 1 5 && btw x7 1 5 && btw x9 0 200 && btw x10 0 1000 && btw x11 0 9 && btw x12 0 11) = rangesOk x1 x2 x3 x4 x5 x6 x7 x9 x10 x11 x12 from rfl]
  rw [Bool.and_comm (x3 == 0)]
  cases nameOk x0 <;> cases rangesOk x1 x2 x3 x4 x5 x6 x7 x9 x10 x11 x12 <;> try rfl
  cases (!(x10 == 0) && x2 == 1) || ((!(x5 == 0) || iLt 0 (L.length : Int)) && x3 == 0) <;> try rfl
  cases (!(x5 == 0) && iLt (IntKind.i64.wrap (x5 * x1)) x3) <;> try rfl
  simp only [Bool.not_true, cond_false, phCode]
  cases h8 : iLt 8 (L.length : Int) with
  | true => rfl
  | false =>
    have hl : L.length ≤ 8 := by simp [iLt] at h8; omega
    simp only [cond_false]
    refine bind_loop (iter_find (len := L.length) (phAns L x3) ?_ ?_ L.length 0 N (by omega) (by omega)) ?_
    · intro self
      simp only [List.map_cons, List.map_nil, pv_int, pv_bool, pv_str, pv_rows, Option.bind_some, bind_c, pvB_c, pvI_c, pvS_c, pvL_c, cell_zero, cell_succ, pvI_int, pvB_bool, pvS_str, pvL_rows, c_and, c_or, c_andn, c_orn, cond_true, cond_false, Bool.and_self_left, Bool.and_self, Bool.or_self_left, Bool.or_self, Bool.or_true, Bool.or_false, Bool.true_or, Bool.false_or, Bool.and_true, Bool.and_false, Bool.true_and, Bool.false_and, Bool.not_true, Bool.not_false, Int.toNat_natCast, Bool.not_not, Bool.not_or, Bool.not_and, xr, cr, List.cons_append, List.nil_append, ge_len]
    · intro i self hi
      simp only [List.map_cons, List.map_nil, pv_int, pv_bool, pv_str, pv_rows, Option.bind_some, bind_c, pvB_c, pvI_c, pvS_c, pvL_c, cell_zero, cell_succ, pvI_int, pvB_bool, pvS_str, pvL_rows, c_and, c_or, c_andn, c_orn, cond_true, cond_false, Bool.and_self_left, Bool.and_self, Bool.or_self_left, Bool.or_self, Bool.or_true, Bool.or_false, Bool.true_or, Bool.false_or, Bool.and_true, Bool.and_false, Bool.true_and, Bool.false_and, Bool.not_true, Bool.not_false, Int.toNat_natCast, Bool.not_not, Bool.not_or, Bool.not_and, xr, cr, List.cons_append, List.nil_append, Int.toNat_natCast, wrap_nat (show i ≤ 1099511627776 by omega), lt_len hi, in_range hi, prev_ok hi (by omega)]
      simp only [phAns, phBad, phBad2, atI]
      cases (iLt (pvI (pvAt L i 0)) 1 || iLt (pvI (pvAt L i 1)) (pvI (pvAt L i 0)) || iLt x3 (pvI (pvAt L i 1)) || !btw (pvI (pvAt L i 2)) 0 11) <;> 
      cases (iLt 0 (i : Int) && iLe (pvI (pvAt L i 0)) (pvI (pvAt L (IntKind.i64.wrap ((i : Int) - 1)).toNat 1))) <;> rfl
    · exact found_code _
end Go.Px
