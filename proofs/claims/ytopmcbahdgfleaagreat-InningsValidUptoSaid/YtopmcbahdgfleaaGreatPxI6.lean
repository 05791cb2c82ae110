/-
The laws of an innings: valid states.
-/
import Derived.Test.YtopmcbahdgfleaaGreatPxI5
namespace Go.Px
set_option linter.unusedVariables false
set_option linter.unusedSimpArgs false
set_option maxRecDepth 100000

def numBad (v : Int) : Bool := !btw v 0 1000000000
def nums (x1 x3 x5 x6 x7 x8 x9 x10 x21 x23 x25 x26 : Int) : Rows := [[.int x1], [.int x3], [.int x5], [.int x6], [.int x7], [.int x8], [.int x9], [.int x10], [.int x21], [.int x23], [.int x25], [.int x26]]
section
variable (N : Nat) (L14 L16 L17 L19 L24 : Rows) (b18 b20 : Bool) (x0 x1 x2 x3 x4 x5 x6 x7 x8 x9 x10 x11 x12 x13 x15 x21 x22 x23 x25 x26 x27 : Int)
theorem L56 (hN : 2097152 < N) (hl : L19.length ≤ 1048576) : c56 N (lsI L14 L16 L17 L19 L24 b18 b20 x0 x1 x2 x3 x4 x5 x6 x7 x8 x9 x10 x11 x12 x13 x15 x21 x22 x23 x25 x26 x27) = some [.bool (!(anyL numBad (nums x1 x3 x5 x6 x7 x8 x9 x10 x21 x23 x25 x26) || anyL numBad L19))] := by
  show t56 (std (env56 N) N) (xOf (lsI ..)) = _
  have e : ∀ ls, env56 N 100 [] ls = c100 N ls := fun ls => rfl
  rw [← anyL_app]
  simp only [t56, std, xOf, lsI, List.map_cons, List.map_nil, pv_int, pv_bool, pv_str, pv_rows, Option.bind_some, bind_c, pvB_c, pvI_c, pvS_c, pvL_c, cell_zero, cell_succ, pvI_int, pvB_bool, pvS_str, pvL_rows, c_and, c_or, c_andn, c_orn, cond_true, cond_false, Bool.and_self_left, Bool.and_self, Bool.or_self_left, Bool.or_self, Bool.or_true, Bool.or_false, Bool.true_or, Bool.false_or, Bool.and_true, Bool.and_false, Bool.true_and, Bool.false_and, Bool.not_true, Bool.not_false, Int.toNat_natCast, Bool.not_not, Bool.not_or, Bool.not_and, xr, cr, List.cons_append, List.nil_append, nums]
  generalize hM : ([PV.int x1] :: [PV.int x3] :: [PV.int x5] :: [PV.int x6] :: [PV.int x7] :: [PV.int x8] :: [PV.int x9] :: [PV.int x10] :: [PV.int x21] :: [PV.int x23] :: [PV.int x25] :: [PV.int x26] :: L19 : Rows) = M
  have hM2 : M.length ≤ 2097152 := by rw [← hM]; simp only [List.length_cons]; omega
  rw [sm_ok (n := M.length) (by omega) (by omega)]
  simp only [List.map_cons, List.map_nil, pv_int, pv_bool, pv_str, pv_rows, Option.bind_some, bind_c, pvB_c, pvI_c, pvS_c, pvL_c, cell_zero, cell_succ, pvI_int, pvB_bool, pvS_str, pvL_rows, c_and, c_or, c_andn, c_orn, cond_true, cond_false, Bool.and_self_left, Bool.and_self, Bool.or_self_left, Bool.or_self, Bool.or_true, Bool.or_false, Bool.true_or, Bool.false_or, Bool.and_true, Bool.and_false, Bool.true_and, Bool.false_and, Bool.not_true, Bool.not_false, Int.toNat_natCast, Bool.not_not, Bool.not_or, Bool.not_and, xr, cr, List.cons_append, List.nil_append]
  rw [Option.bind_assoc]
  refine bind_loop (iter_find (len := M.length) (seek fun i => numBad (atI M i 0)) ?_ ?_ M.length 0 N (by omega) (by omega)) ?_
  · intro self
    simp only [List.map_cons, List.map_nil, pv_int, pv_bool, pv_str, pv_rows, Option.bind_some, bind_c, pvB_c, pvI_c, pvS_c, pvL_c, cell_zero, cell_succ, pvI_int, pvB_bool, pvS_str, pvL_rows, c_and, c_or, c_andn, c_orn, cond_true, cond_false, Bool.and_self_left, Bool.and_self, Bool.or_self_left, Bool.or_self, Bool.or_true, Bool.or_false, Bool.true_or, Bool.false_or, Bool.and_true, Bool.and_false, Bool.true_and, Bool.false_and, Bool.not_true, Bool.not_false, Int.toNat_natCast, Bool.not_not, Bool.not_or, Bool.not_and, xr, cr, List.cons_append, List.nil_append, ge_len]
  · intro i self hi
    simp only [List.map_cons, List.map_nil, pv_int, pv_bool, pv_str, pv_rows, Option.bind_some, bind_c, pvB_c, pvI_c, pvS_c, pvL_c, cell_zero, cell_succ, pvI_int, pvB_bool, pvS_str, pvL_rows, c_and, c_or, c_andn, c_orn, cond_true, cond_false, Bool.and_self_left, Bool.and_self, Bool.or_self_left, Bool.or_self, Bool.or_true, Bool.or_false, Bool.true_or, Bool.false_or, Bool.and_true, Bool.and_false, Bool.true_and, Bool.false_and, Bool.not_true, Bool.not_false, Int.toNat_natCast, Bool.not_not, Bool.not_or, Bool.not_and, xr, cr, List.cons_append, List.nil_append, wrap_nat (show i ≤ 1099511627776 by omega), lt_len hi, in_range hi, seek, atI_def, e, L100, numBad]
    cases btw (atI M i 0) 0 1000000000 <;> rfl
  · unfold anyL
    rw [← idx_nonneg]
    unfold idxR
    cases findR (seek fun i => numBad (atI M i 0)) M.length 0 <;> rfl
end

def oversOk (a3 x2 : Int) : Bool := cond (a3 == 0) (x2 == 0) (btw x2 1 a3)
def validR (s : ByteArray) (a1 a2 a3 a4 a5 a6 a7 a9 a10 a11 a12 : Int) (La L14 L16 L17 L19 L24 : Rows) (x0 x1 x2 x3 x4 x5 x6 x7 x8 x9 x10 x11 x12 x13 x15 x21 x22 x23 x25 x26 x27 : Int) : Bool :=
  rulesCode s a1 a2 a3 a4 a5 a6 a7 a9 a10 a11 a12 La == 0 && (btw x0 1 2 && ((L14.length : Int) == a1 && ((L19.length : Int) == a1 && ((L24.length : Int) == a1 && (!iLt 5 x27 &&
    (btw x12 0 a1 && (btw x13 0 a1 && (bat60 L14 x12 x13 x4 && (btw x15 0 a1 && (btw x22 0 a1 && (diffOk L16 a1 && (diffOk L17 a1 && (oversOk a3 x2 && (btw x11 0 (IntKind.i64.wrap (a4 - 1)) &&
      (!anyL numBad (nums x1 x3 x5 x6 x7 x8 x9 x10 x21 x23 x25 x26) && !anyL numBad L19)))))))))))))))
theorem code_overs {s : ByteArray} {a1 a2 a3 a4 a5 a6 a7 a9 a10 a11 a12 : Int} {La : Rows} (h : (rulesCode s a1 a2 a3 a4 a5 a6 a7 a9 a10 a11 a12 La == 0) = true) : 0 ≤ a3 := by
  unfold rulesCode at h
  cases hn : nameOk s with
  | false => rw [hn] at h; exact absurd h Bool.false_ne_true
  | true =>
    cases hr : rangesOk a1 a2 a3 a4 a5 a6 a7 a9 a10 a11 a12 with
    | false => rw [hn, hr] at h; exact absurd h Bool.false_ne_true
    | true =>
      unfold rangesOk at hr
      simp only [Bool.and_eq_true] at hr
      have := hr.1.1.1.1.1.1.1.1.2
      unfold btw iLe at this
      simp only [Bool.and_eq_true, decide_eq_true_eq] at this
      omega
theorem pos_not {a : Int} (h : 0 ≤ a) : iLt 0 a = !(a == 0) := by
  unfold iLt
  rw [Bool.eq_iff_iff]
  simp only [decide_eq_true_eq, Bool.not_eq_true', beq_eq_false_iff_ne]
  omega

section
variable (N : Nat) (s : ByteArray) (a1 a2 a3 a4 a5 a6 a7 a9 a10 a11 a12 : Int) (a8 : Bool) (La : Rows) (L14 L16 L17 L19 L24 : Rows) (b18 b20 : Bool) (x0 x1 x2 x3 x4 x5 x6 x7 x8 x9 x10 x11 x12 x13 x15 x21 x22 x23 x25 x26 x27 : Int)
theorem M16 (hN : 2097152 < N) (hs : s.size ≤ 1048576) (h14 : L14.length ≤ 1048576) (h16 : L16.length ≤ 1048576) (h17 : L17.length ≤ 1048576) (h19 : L19.length ≤ 1048576) : c16 N ([.str s, .int a1, .int a2, .int a3, .int a4, .int a5, .int a6, .int a7, .bool a8, .int a9, .int a10, .int a11, .int a12, .rows La] ++ lsI L14 L16 L17 L19 L24 b18 b20 x0 x1 x2 x3 x4 x5 x6 x7 x8 x9 x10 x11 x12 x13 x15 x21 x22 x23 x25 x26 x27) = some [.bool (validR s a1 a2 a3 a4 a5 a6 a7 a9 a10 a11 a12 La L14 L16 L17 L19 L24 x0 x1 x2 x3 x4 x5 x6 x7 x8 x9 x10 x11 x12 x13 x15 x21 x22 x23 x25 x26 x27)] := by
  simp only [lsI, List.cons_append, List.nil_append]
  show t16 (std (env16 N) N) (xOf _) = _
  have e1 : ∀ ls, env16 N 52 [] ls = c52 N ls := fun ls => rfl
  have e2 : ∀ ls, env16 N 53 [] ls = c53 N ls := fun ls => rfl
  have e3 : ∀ ls, env16 N 54 [] ls = c54 N ls := fun ls => rfl
  have e4 : ∀ ls, env16 N 55 [] ls = c55 N ls := fun ls => rfl
  have e5 : ∀ ls, env16 N 56 [] ls = c56 N ls := fun ls => rfl
  have l54 := L54 N L14 L16 L17 L19 L24 b18 b20 x0 x1 x2 x3 x4 x5 x6 x7 x8 x9 x10 x11 x12 x13 x15 x21 x22 x23 x25 x26 x27 a1 (by omega) (by omega)
  have l56 := L56 N L14 L16 L17 L19 L24 b18 b20 x0 x1 x2 x3 x4 x5 x6 x7 x8 x9 x10 x11 x12 x13 x15 x21 x22 x23 x25 x26 x27 (by omega) (by omega)
  simp only [lsI, List.cons_append, List.nil_append] at l54 l56
  simp only [t16, std, xOf, List.map_cons, List.map_nil, pv_int, pv_bool, pv_str, pv_rows, Option.bind_some, bind_c, pvB_c, pvI_c, pvS_c, pvL_c, cell_zero, cell_succ, pvI_int, pvB_bool, pvS_str, pvL_rows, c_and, c_or, c_andn, c_orn, cond_true, cond_false, Bool.and_self_left, Bool.and_self, Bool.or_self_left, Bool.or_self, Bool.or_true, Bool.or_false, Bool.true_or, Bool.false_or, Bool.and_true, Bool.and_false, Bool.true_and, Bool.false_and, Bool.not_true, Bool.not_false, Int.toNat_natCast, Bool.not_not, Bool.not_or, Bool.not_and, xr, cr, List.cons_append, List.nil_append, e1, e2, e3, e4, e5, L52 N s _ _ _ _ _ _ _ _ _ _ _ _ _ hN hs, L53, l54, l56, L55 N L16 _ (by omega) (by omega), L55 N L17 _ (by omega) (by omega)]
  unfold validR oversOk
  cases hc : rulesCode s a1 a2 a3 a4 a5 a6 a7 a9 a10 a11 a12 La == 0 <;> try rfl
  cases btw x0 1 2 <;> try rfl
  cases h14 : (L14.length : Int) == a1 <;> try rfl
  cases (L19.length : Int) == a1 <;> try rfl
  cases (L24.length : Int) == a1 <;> try rfl
  cases iLt 5 x27 <;> try rfl
  rw [bat_eq L14 x12 x13 x4 a1 (beq_iff_eq.1 h14)]
  cases btw x12 0 a1 <;> try rfl
  cases btw x13 0 a1 <;> try rfl
  cases bat60 L14 x12 x13 x4 <;> try rfl
  cases btw x15 0 a1 <;> try rfl
  cases btw x22 0 a1 <;> try rfl
  cases diffOk L16 a1 <;> try rfl
  cases diffOk L17 a1 <;> try rfl
  cases a3 == 0 <;> cases x2 == 0 <;> cases btw x2 1 a3 <;> rfl
theorem M17 (hN : 2097152 < N) (hs : s.size ≤ 1048576) (h14 : L14.length ≤ 1048576) (h16 : L16.length ≤ 1048576) (h17 : L17.length ≤ 1048576) (h19 : L19.length ≤ 1048576) : c17 N ([.str s, .int a1, .int a2, .int a3, .int a4, .int a5, .int a6, .int a7, .bool a8, .int a9, .int a10, .int a11, .int a12, .rows La] ++ lsI L14 L16 L17 L19 L24 b18 b20 x0 x1 x2 x3 x4 x5 x6 x7 x8 x9 x10 x11 x12 x13 x15 x21 x22 x23 x25 x26 x27) = some [.bool (validR s a1 a2 a3 a4 a5 a6 a7 a9 a10 a11 a12 La L14 L16 L17 L19 L24 x0 x1 x2 x3 x4 x5 x6 x7 x8 x9 x10 x11 x12 x13 x15 x21 x22 x23 x25 x26 x27)] := by
  simp only [lsI, List.cons_append, List.nil_append]
  show t17 (std (env17 N) N) (xOf _) = _
  have e1 : ∀ ls, env17 N 57 [] ls = c57 N ls := fun ls => rfl
  have e2 : ∀ ls, env17 N 58 [] ls = c58 N ls := fun ls => rfl
  have e3 : ∀ ls, env17 N 60 [] ls = c60 N ls := fun ls => rfl
  have e4 : ∀ ls, env17 N 59 [] ls = c59 N ls := fun ls => rfl
  have l60 := L60 N L14 L16 L17 L19 L24 b18 b20 x0 x1 x2 x3 x4 x5 x6 x7 x8 x9 x10 x11 x12 x13 x15 x21 x22 x23 x25 x26 x27 (by omega) (by omega)
  simp only [lsI, List.cons_append, List.nil_append] at l60
  simp only [t17, std, xOf, List.map_cons, List.map_nil, pv_int, pv_bool, pv_str, pv_rows, Option.bind_some, bind_c, pvB_c, pvI_c, pvS_c, pvL_c, cell_zero, cell_succ, pvI_int, pvB_bool, pvS_str, pvL_rows, c_and, c_or, c_andn, c_orn, cond_true, cond_false, Bool.and_self_left, Bool.and_self, Bool.or_self_left, Bool.or_self, Bool.or_true, Bool.or_false, Bool.true_or, Bool.false_or, Bool.and_true, Bool.and_false, Bool.true_and, Bool.false_and, Bool.not_true, Bool.not_false, Int.toNat_natCast, Bool.not_not, Bool.not_or, Bool.not_and, xr, cr, List.cons_append, List.nil_append, e1, e2, e3, e4, L57 N s _ _ _ _ _ _ _ _ _ _ _ _ _ hN hs, L58, l60, L59 N L16 _ (by omega) (by omega), L59 N L17 _ (by omega) (by omega)]
  unfold validR oversOk
  cases hc : rulesCode s a1 a2 a3 a4 a5 a6 a7 a9 a10 a11 a12 La == 0 <;> try rfl
  rw [pos_not (code_overs hc)]
  cases btw x0 1 2 <;> try rfl
  cases h14 : (L14.length : Int) == a1 <;> try rfl
  cases (L19.length : Int) == a1 <;> try rfl
  cases (L24.length : Int) == a1 <;> try rfl
  cases iLt 5 x27 <;> try rfl
  cases btw x12 0 a1 <;> try rfl
  cases btw x13 0 a1 <;> try rfl
  cases bat60 L14 x12 x13 x4
  · simp only [List.map_cons, List.map_nil, pv_int, pv_bool, pv_str, pv_rows, Option.bind_some, bind_c, pvB_c, pvI_c, pvS_c, pvL_c, cell_zero, cell_succ, pvI_int, pvB_bool, pvS_str, pvL_rows, c_and, c_or, c_andn, c_orn, cond_true, cond_false, Bool.and_self_left, Bool.and_self, Bool.or_self_left, Bool.or_self, Bool.or_true, Bool.or_false, Bool.true_or, Bool.false_or, Bool.and_true, Bool.and_false, Bool.true_and, Bool.false_and, Bool.not_true, Bool.not_false, Int.toNat_natCast, Bool.not_not, Bool.not_or, Bool.not_and, xr, cr, List.cons_append, List.nil_append]
  cases btw x15 0 a1 <;> try rfl
  cases btw x22 0 a1 <;> try rfl
  cases diffOk L16 a1 <;> try rfl
  cases diffOk L17 a1 <;> try rfl
  have ho : (a3 == 0 && !(x2 == 0) || !(a3 == 0) && (a3 == 0 && !(x2 == 0) || !!(a3 == 0) || !btw x2 1 a3) || !btw x11 0 (IntKind.i64.wrap (a4 - 1))) = !(oversOk a3 x2 && btw x11 0 (IntKind.i64.wrap (a4 - 1))) := by
    unfold oversOk
    cases a3 == 0 <;> cases x2 == 0 <;> cases btw x2 1 a3 <;> cases btw x11 0 (IntKind.i64.wrap (a4 - 1)) <;> rfl
  rw [ho]
  show _ = some [PV.bool (oversOk a3 x2 && (btw x11 0 (IntKind.i64.wrap (a4 - 1)) && _))]
  rw [← Bool.and_assoc]
  cases oversOk a3 x2 && btw x11 0 (IntKind.i64.wrap (a4 - 1)) <;> try rfl
  simp only [List.map_cons, List.map_nil, pv_int, pv_bool, pv_str, pv_rows, Option.bind_some, bind_c, pvB_c, pvI_c, pvS_c, pvL_c, cell_zero, cell_succ, pvI_int, pvB_bool, pvS_str, pvL_rows, c_and, c_or, c_andn, c_orn, cond_true, cond_false, Bool.and_self_left, Bool.and_self, Bool.or_self_left, Bool.or_self, Bool.or_true, Bool.or_false, Bool.true_or, Bool.false_or, Bool.and_true, Bool.and_false, Bool.true_and, Bool.false_and, Bool.not_true, Bool.not_false, Int.toNat_natCast, Bool.not_not, Bool.not_or, Bool.not_and, xr, cr, List.cons_append, List.nil_append]
  change (iter (fun s11 c11 => cond (iLt (pvI (cellAt c11 0)) ((nums x1 x3 x5 x6 x7 x8 x9 x10 x21 x23 x25 x26).length : Int)) (cond (iIn (pvI (cellAt c11 0)) ((nums x1 x3 x5 x6 x7 x8 x9 x10 x21 x23 x25 x26).length : Int)) (cond (!btw (pvI (pvAt (nums x1 x3 x5 x6 x7 x8 x9 x10 x21 x23 x25 x26) (pvI (cellAt c11 0)).toNat 0)) 0 1000000000) (some [PV.int 0, PV.bool false]) (s11 [Leaf.int (IntKind.i64.wrap (pvI (cellAt c11 0) + 1))])) none) (some [PV.int 1])) N [PV.int 0]).bind _ = _
  generalize hM : nums x1 x3 x5 x6 x7 x8 x9 x10 x21 x23 x25 x26 = M
  have hM2 : M.length = 12 := by rw [← hM]; rfl
  refine bind_loop (iter_any (len := M.length) (fun i => numBad (atI M i 0)) [.bool false] ?_ ?_ N (by omega)) ?_
  · intro self
    simp only [List.map_cons, List.map_nil, pv_int, pv_bool, pv_str, pv_rows, Option.bind_some, bind_c, pvB_c, pvI_c, pvS_c, pvL_c, cell_zero, cell_succ, pvI_int, pvB_bool, pvS_str, pvL_rows, c_and, c_or, c_andn, c_orn, cond_true, cond_false, Bool.and_self_left, Bool.and_self, Bool.or_self_left, Bool.or_self, Bool.or_true, Bool.or_false, Bool.true_or, Bool.false_or, Bool.and_true, Bool.and_false, Bool.true_and, Bool.false_and, Bool.not_true, Bool.not_false, Int.toNat_natCast, Bool.not_not, Bool.not_or, Bool.not_and, xr, cr, List.cons_append, List.nil_append, ge_len]
  · intro i self hi
    simp only [List.map_cons, List.map_nil, pv_int, pv_bool, pv_str, pv_rows, Option.bind_some, bind_c, pvB_c, pvI_c, pvS_c, pvL_c, cell_zero, cell_succ, pvI_int, pvB_bool, pvS_str, pvL_rows, c_and, c_or, c_andn, c_orn, cond_true, cond_false, Bool.and_self_left, Bool.and_self, Bool.or_self_left, Bool.or_self, Bool.or_true, Bool.or_false, Bool.true_or, Bool.false_or, Bool.and_true, Bool.and_false, Bool.true_and, Bool.false_and, Bool.not_true, Bool.not_false, Int.toNat_natCast, Bool.not_not, Bool.not_or, Bool.not_and, xr, cr, List.cons_append, List.nil_append, wrap_nat (show i ≤ 1099511627776 by omega), lt_len hi, in_range hi, atI_def, numBad]
  · show _ = some [PV.bool (!anyR (fun i => numBad (atI M i 0)) M.length 0 && _)]
    cases anyR (fun i => numBad (atI M i 0)) M.length 0 <;> try rfl
    refine bind_loop (iter_any (len := L19.length) (fun i => numBad (atI L19 i 0)) [.bool false] ?_ ?_ N (by omega)) ?_
    · intro self
      simp only [List.map_cons, List.map_nil, pv_int, pv_bool, pv_str, pv_rows, Option.bind_some, bind_c, pvB_c, pvI_c, pvS_c, pvL_c, cell_zero, cell_succ, pvI_int, pvB_bool, pvS_str, pvL_rows, c_and, c_or, c_andn, c_orn, cond_true, cond_false, Bool.and_self_left, Bool.and_self, Bool.or_self_left, Bool.or_self, Bool.or_true, Bool.or_false, Bool.true_or, Bool.false_or, Bool.and_true, Bool.and_false, Bool.true_and, Bool.false_and, Bool.not_true, Bool.not_false, Int.toNat_natCast, Bool.not_not, Bool.not_or, Bool.not_and, xr, cr, List.cons_append, List.nil_append, ge_len]
    · intro i self hi
      simp only [List.map_cons, List.map_nil, pv_int, pv_bool, pv_str, pv_rows, Option.bind_some, bind_c, pvB_c, pvI_c, pvS_c, pvL_c, cell_zero, cell_succ, pvI_int, pvB_bool, pvS_str, pvL_rows, c_and, c_or, c_andn, c_orn, cond_true, cond_false, Bool.and_self_left, Bool.and_self, Bool.or_self_left, Bool.or_self, Bool.or_true, Bool.or_false, Bool.true_or, Bool.false_or, Bool.and_true, Bool.and_false, Bool.true_and, Bool.false_and, Bool.not_true, Bool.not_false, Int.toNat_natCast, Bool.not_not, Bool.not_or, Bool.not_and, xr, cr, List.cons_append, List.nil_append, wrap_nat (show i ≤ 1099511627776 by omega), lt_len hi, in_range hi, atI_def, numBad]
    · show _ = some [PV.bool (!anyR (fun i => numBad (atI L19 i 0)) L19.length 0)]
      cases anyR (fun i => numBad (atI L19 i 0)) L19.length 0 <;> rfl
end
end Go.Px
