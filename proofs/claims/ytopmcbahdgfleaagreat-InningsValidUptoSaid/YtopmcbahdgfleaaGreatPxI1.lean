/-
The laws of an innings: names, rules of play, numbers.
-/
import Derived.Test.YtopmcbahdgfleaaGreatPxV3
import Derived.Test.YtopmcbahdgfleaaGreatPxLaw
namespace Go.Px
set_option linter.unusedVariables false
set_option linter.unusedSimpArgs false
set_option maxRecDepth 100000

def btw (a b c : Int) : Bool := iLe b a && iLe a c
theorem L53 (N : Nat) (a b c : Int) : c53 N [.int a, .int b, .int c] = some [.bool (btw a b c)] := by
  show some [PV.bool (cond (iLe b a) (iLe a c) false)] = _
  rw [c_and]; rfl
theorem L162 (N : Nat) (a b c : Int) : c162 N [.int a, .int b, .int c] = some [.bool (btw a b c)] := by
  show some [PV.bool (cond (iLe b a) (iLe a c) false)] = _
  rw [c_and]; rfl
theorem L102 (N : Nat) (a b c : Int) : c102 N [.int a, .int b, .int c] = some [.bool (btw a b c)] := by
  show some [PV.bool (cond (iLe b a) (iLe a c) false)] = _
  rw [c_and]; rfl
theorem L58 (N : Nat) (a b c : Int) : c58 N [.int a, .int b, .int c] = some [.bool (btw a b c)] := by
  show some [PV.bool (cond (iLe b a) (iLe a c) false)] = _
  rw [c_and]; rfl
def rangesOk (x1 x2 x3 x4 x5 x6 x7 x9 x10 x11 x12 : Int) : Bool := btw x1 2 11 && btw x2 1 2 && btw x3 0 90 && btw x4 4 8 && btw x5 0 90 && btw x6 1 5 && btw x7 1 5 && btw x9 0 200 && btw x10 0 1000 && btw x11 0 9 && btw x12 0 11
theorem L96 (N : Nat) (x0 : ByteArray) (x1 x2 x3 x4 x5 x6 x7 x9 x10 x11 x12 : Int) (x8 : Bool) (x13 : Rows) :
   c96 N [.str x0, .int x1, .int x2, .int x3, .int x4, .int x5, .int x6, .int x7, .bool x8, .int x9, .int x10, .int x11, .int x12, .rows x13] = some [.bool (rangesOk x1 x2 x3 x4 x5 x6 x7 x9 x10 x11 x12)] := by
  show t96 (std (env96 N) N) (xOf _) = _
  have e : ∀ ls, env96 N 162 [] ls = c162 N ls := fun ls => rfl
  simp only [t96, std, xOf, e, L162, List.map_cons, List.map_nil, pv_int, pv_bool, pv_str, pv_rows, Option.bind_some, bind_c, pvB_c, pvI_c, pvS_c, pvL_c, cell_zero, cell_succ, pvI_int, pvB_bool, pvS_str, pvL_rows, c_and, c_or, c_andn, c_orn, cond_true, cond_false, Bool.and_self_left, Bool.and_self, Bool.or_self_left, Bool.or_self, Bool.or_true, Bool.or_false, Bool.true_or, Bool.false_or, Bool.and_true, Bool.and_false, Bool.true_and, Bool.false_and, Bool.not_true, Bool.not_false, Int.toNat_natCast, Bool.not_not, Bool.not_or, Bool.not_and, xr, cr, List.cons_append, List.nil_append, rangesOk]

/-- Names. -/
def nameBad (s : ByteArray) (i : Nat) : Bool := !(iLe 65 (strAt s i) && iLe (strAt s i) 90) && ((i : Int) == 0 || ((!(strAt s i == 95) && !(strAt s i == 45)) && (iLt (strAt s i) 48 || iLt 57 (strAt s i))))
def nameOk (s : ByteArray) : Bool := !anyR (nameBad s) s.size 0 && (iLe 1 s.size && iLe s.size 16)
theorem sb_len (s : ByteArray) : (bytesOfStr s).length = s.size := by
  simp only [bytesOfStr, List.length_map, Array.length_toList]; rfl
theorem sb_at (s : ByteArray) (i : Nat) (h : i < s.size) : pvI (pvAt (bytesOfStr s) i 0) = strAt s i := by
  unfold pvAt rowAt cellAt bytesOfStr strAt
  simp only [List.getD_eq_getElem?_getD, List.getElem?_map]
  have : i < s.data.toList.length := by simpa using h
  rw [List.getElem?_eq_getElem this]
  simp [List.getElem?_eq_getElem this]
theorem L95 (N : Nat) (s : ByteArray) (hN : s.size < N) (hs : s.size ≤ 1048576) : c95 N [.str s] = some [.bool (nameOk s)] := by
  show t95 (std (env95 N) N) (xOf _) = _
  simp only [t95, std, xOf, sb_len, List.map_cons, List.map_nil, pv_int, pv_bool, pv_str, pv_rows, Option.bind_some, bind_c, pvB_c, pvI_c, pvS_c, pvL_c, cell_zero, cell_succ, pvI_int, pvB_bool, pvS_str, pvL_rows, c_and, c_or, c_andn, c_orn, cond_true, cond_false, Bool.and_self_left, Bool.and_self, Bool.or_self_left, Bool.or_self, Bool.or_true, Bool.or_false, Bool.true_or, Bool.false_or, Bool.and_true, Bool.and_false, Bool.true_and, Bool.false_and, Bool.not_true, Bool.not_false, Int.toNat_natCast, Bool.not_not, Bool.not_or, Bool.not_and, xr, cr, List.cons_append, List.nil_append]
  refine bind_loop (iter_any (len := s.size) (nameBad s) [.bool false] ?_ ?_ N hN) ?_
  · intro self
    simp only [List.map_cons, List.map_nil, pv_int, pv_bool, pv_str, pv_rows, Option.bind_some, bind_c, pvB_c, pvI_c, pvS_c, pvL_c, cell_zero, cell_succ, pvI_int, pvB_bool, pvS_str, pvL_rows, c_and, c_or, c_andn, c_orn, cond_true, cond_false, Bool.and_self_left, Bool.and_self, Bool.or_self_left, Bool.or_self, Bool.or_true, Bool.or_false, Bool.true_or, Bool.false_or, Bool.and_true, Bool.and_false, Bool.true_and, Bool.false_and, Bool.not_true, Bool.not_false, Int.toNat_natCast, Bool.not_not, Bool.not_or, Bool.not_and, xr, cr, List.cons_append, List.nil_append, ge_len]
  · intro i self hi
    simp only [List.map_cons, List.map_nil, pv_int, pv_bool, pv_str, pv_rows, Option.bind_some, bind_c, pvB_c, pvI_c, pvS_c, pvL_c, cell_zero, cell_succ, pvI_int, pvB_bool, pvS_str, pvL_rows, c_and, c_or, c_andn, c_orn, cond_true, cond_false, Bool.and_self_left, Bool.and_self, Bool.or_self_left, Bool.or_self, Bool.or_true, Bool.or_false, Bool.true_or, Bool.false_or, Bool.and_true, Bool.and_false, Bool.true_and, Bool.false_and, Bool.not_true, Bool.not_false, Int.toNat_natCast, Bool.not_not, Bool.not_or, Bool.not_and, xr, cr, List.cons_append, List.nil_append, Int.toNat_natCast, sb_at s i hi, wrap_nat (show i ≤ 1099511627776 by omega), lt_len hi, in_range hi, nameBad]
  · unfold nameOk
    cases anyR (nameBad s) s.size 0 <;> rfl
theorem loop_len (bs : ByteArray) (i : Nat) (r : List UInt8) : (ByteArray.toList.loop bs i r).length = r.length + (bs.size - i) := by
  induction i, r using ByteArray.toList.loop.induct (bs := bs) with
  | case1 i r h ih => unfold ByteArray.toList.loop; rw [if_pos h, ih]; simp; omega
  | case2 i r h => unfold ByteArray.toList.loop; rw [if_neg h]; simp; omega
theorem toList_len (bs : ByteArray) : bs.toList.length = bs.size := by
  unfold ByteArray.toList; rw [loop_len]; simp
theorem bytes_empty (s : ByteArray) : (s.toList == (⟨#[]⟩ : ByteArray).toList) = !iLe 1 (s.size : Int) := by
  have h := toList_len s
  have h0 := toList_len (⟨#[]⟩ : ByteArray)
  rw [Bool.eq_iff_iff]
  simp only [beq_iff_eq, iLe, Bool.not_eq_true', decide_eq_false_iff_not]
  constructor
  · intro e; rw [e, h0] at h
    have : (⟨#[]⟩ : ByteArray).size = 0 := rfl
    omega
  · intro e
    have e1 : s.toList = [] := List.eq_nil_of_length_eq_zero (by omega)
    have e2 : (⟨#[]⟩ : ByteArray).toList = [] := List.eq_nil_of_length_eq_zero h0
    rw [e1, e2]
theorem L101 (N : Nat) (s : ByteArray) (hN : s.size < N) (hs : s.size ≤ 1048576) : c101 N [.str s] = some [.bool (nameOk s)] := by
  show t101 (std (env101 N) N) (xOf _) = _
  simp only [t101, std, xOf, List.map_cons, List.map_nil, pv_int, pv_bool, pv_str, pv_rows, Option.bind_some, bind_c, pvB_c, pvI_c, pvS_c, pvL_c, cell_zero, cell_succ, pvI_int, pvB_bool, pvS_str, pvL_rows, c_and, c_or, c_andn, c_orn, cond_true, cond_false, Bool.and_self_left, Bool.and_self, Bool.or_self_left, Bool.or_self, Bool.or_true, Bool.or_false, Bool.true_or, Bool.false_or, Bool.and_true, Bool.and_false, Bool.true_and, Bool.false_and, Bool.not_true, Bool.not_false, Int.toNat_natCast, Bool.not_not, Bool.not_or, Bool.not_and, xr, cr, List.cons_append, List.nil_append, bytes_empty]
  have e : iLe 1 (s.size : Int) = false ∨ iLe 1 (s.size : Int) = true := by cases iLe 1 (s.size : Int) <;> simp
  have e2 : iLt 16 (s.size : Int) = !iLe (s.size : Int) 16 := by unfold iLt iLe; rw [Bool.eq_iff_iff]; simp
  rw [e2]
  cases h : iLe 1 (s.size : Int) && iLe (s.size : Int) 16 with
  | false =>
    have : (!iLe 1 (s.size : Int) || !iLe (s.size : Int) 16) = true := by rw [← Bool.not_and, h]; rfl
    simp only [this, cond_true, nameOk, h, Bool.and_false]
  | true =>
    have : (!iLe 1 (s.size : Int) || !iLe (s.size : Int) 16) = false := by rw [← Bool.not_and, h]; rfl
    simp only [this, cond_false, nameOk, h, Bool.and_true]
    refine bind_loop (iter_any (len := s.size) (nameBad s) [.bool false] ?_ ?_ N hN) ?_
    · intro self
      simp only [List.map_cons, List.map_nil, pv_int, pv_bool, pv_str, pv_rows, Option.bind_some, bind_c, pvB_c, pvI_c, pvS_c, pvL_c, cell_zero, cell_succ, pvI_int, pvB_bool, pvS_str, pvL_rows, c_and, c_or, c_andn, c_orn, cond_true, cond_false, Bool.and_self_left, Bool.and_self, Bool.or_self_left, Bool.or_self, Bool.or_true, Bool.or_false, Bool.true_or, Bool.false_or, Bool.and_true, Bool.and_false, Bool.true_and, Bool.false_and, Bool.not_true, Bool.not_false, Int.toNat_natCast, Bool.not_not, Bool.not_or, Bool.not_and, xr, cr, List.cons_append, List.nil_append, ge_len]
    · intro i self hi
      simp only [List.map_cons, List.map_nil, pv_int, pv_bool, pv_str, pv_rows, Option.bind_some, bind_c, pvB_c, pvI_c, pvS_c, pvL_c, cell_zero, cell_succ, pvI_int, pvB_bool, pvS_str, pvL_rows, c_and, c_or, cond_true, cond_false, Bool.and_self_left, Bool.and_self, Bool.or_self_left, Bool.or_self, Bool.or_true, Bool.or_false, Bool.true_or, Bool.false_or, Bool.and_true, Bool.and_false, Bool.true_and, Bool.false_and, Bool.not_true, Bool.not_false, Int.toNat_natCast, Bool.not_not, xr, cr, List.cons_append, List.nil_append, Int.toNat_natCast, wrap_nat (show i ≤ 1099511627776 by omega), lt_len hi, in_range hi, nameBad]
      cases (iLe 65 (strAt s i) && iLe (strAt s i) 90) <;> rfl
    · cases anyR (nameBad s) s.size 0 <;> rfl
end Go.Px
