/-
The programs of the functions that the statement reaches, part 2; written by program.
The laws of an innings: the batters.
The laws of an innings: names, rules of play, numbers.
The laws of an innings: phases and rules.
The laws of an innings: lists of players, numbers.
The laws of an innings: the batters.
The laws of an innings: the batters of both sides agree.
The laws of an innings: valid states.
The laws of an innings: how it ends, what bounded inputs are, and the statement.
The laws of an innings: PxJ8.
The laws of an innings: PxJ9.
The laws of an innings: the bowlers.
The laws of an innings: the fielding side.
The laws of an innings: deliveries.
The laws of an innings: ways of being out.
The laws of an innings: events.
-/
import Derived.Test.YtopmcbahdgfleaaGreatPart06
import Derived.Test.YtopmcbahdgfleaaGreatPart08
import Derived.Test.YtopmcbahdgfleaaGreatPart07
section
namespace Go.Px
set_option maxRecDepth 100000
set_option linter.unusedVariables false
def k_w14_InningsRefuses : List Nat := [2, 0, 0, 0, 0, 0, 0, 0, 1, 0, 0, 0, 0, 3, 0, 0, 0, 0, 0, 0, 0, 0, 0, 0, 0, 0, 0, 0, 3, 0, 3, 3, 1, 3, 1, 0, 0, 0, 3, 0, 0, 0, 0, 0, 0, 0, 1, 0, 0, 0, 0, 0, 0, 0, 1, 0, 0, 0, 0, 1, 0]
def t_w14_InningsRefuses (O : Alg) (x : Ags O) : O.M := (O.bind (O.call 13 [] []) fun c0 => (O.ite (O.bnot (O.cB c0 0)) (O.ret [.bool O.ff]) (O.bind (O.call 14 [] (xr x [2,0,0,0,0,0,0,0,1,0,0,0,0,3] 0)) fun c1 => (O.bind (O.call 15 [] (xr x [0,0,0,0,0,0,0,0,0,0,0,0,0,0,3,0,3,3,1,3,1,0,0,0,3,0,0,0] 14)) fun c2 => (O.bind (O.call 30 [] (cr O c2 [0,0,0,0,0,0,0,0,0,0,0,0,0,0,3,0,3,3,1,3,1,0,0,0,3,0,0,0] 0)) fun c3 => (O.bind (O.call 22 [] (ap O (cr O c1 [2,0,0,0,0,0,0,0,1,0,0,0,0,3] 0) (ap O (cr O c2 [0,0,0,0,0,0,0,0,0,0,0,0,0,0,3,0,3,3,1,3,1,0,0,0,3,0,0,0] 0) (xr x [0,0,0,0,1,0,0,0,0,0,0,0,1,0,0,0,0,1,0] 42)))) fun c4 => (O.bind (O.call 27 [] (ap O (cr O c2 [0,0,0,0,0,0,0,0,0,0,0,0,0,0,3,0,3,3,1,3,1,0,0,0,3,0,0,0] 0) (cr O c3 [0,0,0,0,0,0,0,0,0,0,0,0,0,0,3,0,3,3,1,3,1,0,0,0,3,0,0,0] 0))) fun c5 => (O.ite (O.bnot (O.cB c5 0)) (O.ret [.bool O.ff]) (O.ite (O.bnot (O.eqI (O.cI c4 28) (O.lit .i64 0))) (O.bind (O.call 27 [] (ap O (cr O c4 [0,0,0,0,0,0,0,0,0,0,0,0,0,0,3,0,3,3,1,3,1,0,0,0,3,0,0,0] 0) (cr O c3 [0,0,0,0,0,0,0,0,0,0,0,0,0,0,3,0,3,3,1,3,1,0,0,0,3,0,0,0] 0))) fun c6 => (O.ret [.bool (O.cB c6 0)])) (O.bind (O.call 16 [] (ap O (cr O c1 [2,0,0,0,0,0,0,0,1,0,0,0,0,3] 0) (cr O c3 [0,0,0,0,0,0,0,0,0,0,0,0,0,0,3,0,3,3,1,3,1,0,0,0,3,0,0,0] 0))) fun c6 => (O.bind (O.ite (O.iteB (O.cB c6 0) (O.eqI (O.cI c3 27) (O.lit .u8 0)) O.ff) (O.call 16 [] (ap O (cr O c1 [2,0,0,0,0,0,0,0,1,0,0,0,0,3] 0) (cr O c4 [0,0,0,0,0,0,0,0,0,0,0,0,0,0,3,0,3,3,1,3,1,0,0,0,3,0,0,0] 0))) (O.ret [.bool O.ff])) fun c7 => (O.bind (O.ite (O.band (O.iteB (O.cB c6 0) (O.eqI (O.cI c3 27) (O.lit .u8 0)) O.ff) (O.bnot (O.cB c7 0))) (O.call 31 [] (cr O c3 [0,0,0,0,0,0,0,0,0,0,0,0,0,0,3,0,3,3,1,3,1,0,0,0,3,0,0,0] 0)) (O.ret [.bool O.ff])) fun c8 => (O.bind (O.ite (O.iteB (O.iteB (O.cB c6 0) (O.eqI (O.cI c3 27) (O.lit .u8 0)) O.ff) (O.iteB (O.cB c7 0) O.tt (O.cB c8 0)) O.ff) (O.call 32 [] (ap O (cr O c2 [0,0,0,0,0,0,0,0,0,0,0,0,0,0,3,0,3,3,1,3,1,0,0,0,3,0,0,0] 0) (cr O c4 [0,0,0,0,0,0,0,0,0,0,0,0,0,0,3,0,3,3,1,3,1,0,0,0,3,0,0,0] 0))) (O.ret [.bool O.ff])) fun c9 => (O.ret [.bool (O.iteB (O.iteB (O.iteB (O.cB c6 0) (O.eqI (O.cI c3 27) (O.lit .u8 0)) O.ff) (O.iteB (O.cB c7 0) O.tt (O.cB c8 0)) O.ff) (O.bnot (O.cB c9 0)) O.ff)]))))))))))))))
def env_w14_InningsRefuses (N : Nat) : Env := fun f fns ls => (cond (Nat.beq f 13 && natListEq fns []) (c_w14_awake N ls) (cond (Nat.beq f 14 && natListEq fns []) (c_w14_bounded N ls) (cond (Nat.beq f 15 && natListEq fns []) (c_w14_Few N ls) (cond (Nat.beq f 16 && natListEq fns []) (c_innings_Valid N ls) (cond (Nat.beq f 22 && natListEq fns []) (c_innings_Step N ls) (cond (Nat.beq f 27 && natListEq fns []) (c_innings_Same N ls) (cond (Nat.beq f 30 && natListEq fns []) (c_innings_Clone N ls) (cond (Nat.beq f 31 && natListEq fns []) (c_w14_big N ls) (cond (Nat.beq f 32 && natListEq fns []) (c_w14_shared N ls) none)))))))))
theorem e_w14_InningsRefuses_w14_awake (N : Nat) (ls : List PV) : env_w14_InningsRefuses N 13 [] ls = c_w14_awake N ls := id rfl
theorem e_w14_InningsRefuses_w14_bounded (N : Nat) (ls : List PV) : env_w14_InningsRefuses N 14 [] ls = c_w14_bounded N ls := id rfl
theorem e_w14_InningsRefuses_w14_Few (N : Nat) (ls : List PV) : env_w14_InningsRefuses N 15 [] ls = c_w14_Few N ls := id rfl
theorem e_w14_InningsRefuses_innings_Valid (N : Nat) (ls : List PV) : env_w14_InningsRefuses N 16 [] ls = c_innings_Valid N ls := id rfl
theorem e_w14_InningsRefuses_innings_Step (N : Nat) (ls : List PV) : env_w14_InningsRefuses N 22 [] ls = c_innings_Step N ls := id rfl
theorem e_w14_InningsRefuses_innings_Same (N : Nat) (ls : List PV) : env_w14_InningsRefuses N 27 [] ls = c_innings_Same N ls := id rfl
theorem e_w14_InningsRefuses_innings_Clone (N : Nat) (ls : List PV) : env_w14_InningsRefuses N 30 [] ls = c_innings_Clone N ls := id rfl
theorem e_w14_InningsRefuses_w14_big (N : Nat) (ls : List PV) : env_w14_InningsRefuses N 31 [] ls = c_w14_big N ls := id rfl
theorem e_w14_InningsRefuses_w14_shared (N : Nat) (ls : List PV) : env_w14_InningsRefuses N 32 [] ls = c_w14_shared N ls := id rfl
def c_w14_InningsRefuses (N : Nat) (ls : List PV) : Option (List PV) := onShape k_w14_InningsRefuses ls (t_w14_InningsRefuses (std (env_w14_InningsRefuses N) N) (xOf ls))
end Go.Px
end

section
namespace Go.Px
set_option linter.unusedVariables false
set_option linter.unusedSimpArgs false
set_option maxRecDepth 100000

theorem L_crease_own {N : Nat} {s0 s1 s2 s3 s4 s5 s6 s7 s8 s9 s10 s11 s12 s13 s15 s21 s22 s23 s25 s26 s27 : Int} {s18 s20 : Bool} {s14 s16 s17 s19 s24 : Rows} (h : Fit s14 s16 s17 s19 s24) : c_crease_own N [.int s0, .int s1, .int s2, .int s3, .int s4, .int s5, .int s6, .int s7, .int s8, .int s9, .int s10, .int s11, .int s12, .int s13, .rows s14, .int s15, .rows s16, .rows s17, .bool s18, .rows s19, .bool s20, .int s21, .int s22, .int s23, .rows s24, .int s25, .int s26, .int s27] = some [.int s0, .int s1, .int s2, .int s3, .int s4, .int s5, .int s6, .int s7, .int s8, .int s9, .int s10, .int s11, .int s12, .int s13, .rows s14, .int s15, .rows s16, .rows s17, .bool s18, .rows s19, .bool s20, .int s21, .int s22, .int s23, .rows s24, .int s25, .int s26, .int s27] := by
  show t_crease_own (std (env_crease_own N) N) (xOf _) = _
  simp only [t_crease_own, e_crease_own_slices_Clone_Status, e_crease_own_slices_Clone_int, e_crease_own_slices_Clone_bool, std, xOf, PXb, PXc, PXn, PXm, Nat.reduceAdd, Int.reduceBEq, c_slices_Clone_Status, c_slices_Clone_int, c_slices_Clone_bool, clone_ok h.bt (show 1 ≤ 4096 by omega), clone_ok h.bw' (show 8 ≤ 4096 by omega), clone_ok h.bf (show 8 ≤ 4096 by omega), clone_ok h.bd (show 8 ≤ 4096 by omega), clone_ok h.sb (show 1 ≤ 4096 by omega)]
theorem L_r11_Clone {N : Nat} {s0 s1 s2 s3 s4 s5 s6 s7 s8 s9 s10 s11 s12 s13 s15 s21 s22 s23 s25 s26 s27 : Int} {s18 s20 : Bool} {s14 s16 s17 s19 s24 : Rows} (h : Fit s14 s16 s17 s19 s24) : c_r11_Clone N [.int s0, .int s1, .int s2, .int s3, .int s4, .int s5, .int s6, .int s7, .int s8, .int s9, .int s10, .int s11, .int s12, .int s13, .rows s14, .int s15, .rows s16, .rows s17, .bool s18, .rows s19, .bool s20, .int s21, .int s22, .int s23, .rows s24, .int s25, .int s26, .int s27] = some [.int s0, .int s1, .int s2, .int s3, .int s4, .int s5, .int s6, .int s7, .int s8, .int s9, .int s10, .int s11, .int s12, .int s13, .rows s14, .int s15, .rows s16, .rows s17, .bool s18, .rows s19, .bool s20, .int s21, .int s22, .int s23, .rows s24, .int s25, .int s26, .int s27] := by
  show t_r11_Clone (std (env_r11_Clone N) N) (xOf _) = _
  simp only [t_r11_Clone, std, xOf, PXb, PXc, PXn, PXm, Nat.reduceAdd, Int.reduceBEq, fit_sm h.bt (show 1 ≤ 4096 by omega), fit_sm h.bw' (show 8 ≤ 4096 by omega), fit_sm h.bf (show 8 ≤ 4096 by omega), fit_sm h.bd (show 8 ≤ 4096 by omega), fit_sm h.sb (show 1 ≤ 4096 by omega)]
theorem L_crease_known {N : Nat} {s0 s1 s2 s3 s4 s5 s6 s7 s8 s9 s10 s11 s12 s13 s15 s21 s22 s23 s25 s26 s27 : Int} {s18 s20 : Bool} {s14 s16 s17 s19 s24 : Rows} {p : Int}  : c_crease_known N [.int s0, .int s1, .int s2, .int s3, .int s4, .int s5, .int s6, .int s7, .int s8, .int s9, .int s10, .int s11, .int s12, .int s13, .rows s14, .int s15, .rows s16, .rows s17, .bool s18, .rows s19, .bool s20, .int s21, .int s22, .int s23, .rows s24, .int s25, .int s26, .int s27, .int p] = some [.bool (inR p s14.length)] := by
  show t_crease_known (std (env_crease_known N) N) (xOf _) = _
  simp only [t_crease_known, std, xOf, PXb, PXc, PXn, PXm, Nat.reduceAdd, Int.reduceBEq]
  rfl
def ranS (s : Inn) (d : Del) : Inn :=
  let odd := !(d.runs.tmod 2 == 0) != d.crossed
  let t : Inn := cond odd { s with striker := s.other, other := s.striker } s
  let k : Bool := d.how == 0
  cond (!k && (d.victim == 1 && !(s.striker == 0)))
    { t with striker := cond odd t.striker 0, other := cond odd 0 t.other, batters := cond (inR s.striker s.batters.length) (setI s.batters s.striker 2) s.batters, wickets := IntKind.i64.wrap (s.wickets + 1) }
    (cond (!k && (d.victim == 2 && !(s.other == 0)))
      { t with striker := cond odd 0 t.striker, other := cond odd t.other 0, batters := cond (inR s.other s.batters.length) (setI s.batters s.other 2) s.batters, wickets := IntKind.i64.wrap (s.wickets + 1) }
      t)
theorem L_crease_Ran {N : Nat} {s0 s1 s2 s3 s4 s5 s6 s7 s8 s9 s10 s11 s12 s13 s15 s21 s22 s23 s25 s26 s27 : Int} {s18 s20 : Bool} {s14 s16 s17 s19 s24 : Rows} {d0 d1 d2 d3 d4 d6 d7 d8 d9 d11 : Int} {d5 d10 : Bool} (h : Fit s14 s16 s17 s19 s24) : c_crease_Ran N [.int s0, .int s1, .int s2, .int s3, .int s4, .int s5, .int s6, .int s7, .int s8, .int s9, .int s10, .int s11, .int s12, .int s13, .rows s14, .int s15, .rows s16, .rows s17, .bool s18, .rows s19, .bool s20, .int s21, .int s22, .int s23, .rows s24, .int s25, .int s26, .int s27, .int d0, .int d1, .int d2, .int d3, .int d4, .bool d5, .int d6, .int d7, .int d8, .int d9, .bool d10, .int d11] = some (ranS (⟨s0, s1, s2, s3, s4, s5, s6, s7, s8, s9, s10, s11, s12, s13, s14, s15, s16, s17, s18, s19, s20, s21, s22, s23, s24, s25, s26, s27⟩ : Inn) (⟨d0, d1, d2, d3, d4, d5, d6, d7, d8, d9, d10, d11⟩ : Del)).ls := by
  show t_crease_Ran (std (env_crease_Ran N) N) (xOf _) = _
  simp only [t_crease_Ran, e_crease_Ran_crease_own, e_crease_Ran_crease_known, std, xOf, PXb, PXc, PXn, PXm, Nat.reduceAdd, Int.reduceBEq, L_crease_own h, L_crease_known, c_in h.bt]
  unfold ranS
  cases d5 <;> cases d2.tmod 2 == 0 <;> cases d6 == 0 <;> cases d7 == 1 <;> cases d7 == 2 <;> cases s12 == 0 <;> cases s13 == 0 <;> rfl
def changeS (s : Inn) : Inn := { s with striker := s.other, other := s.striker }
theorem L_crease_Change {N : Nat} {s0 s1 s2 s3 s4 s5 s6 s7 s8 s9 s10 s11 s12 s13 s15 s21 s22 s23 s25 s26 s27 : Int} {s18 s20 : Bool} {s14 s16 s17 s19 s24 : Rows} (h : Fit s14 s16 s17 s19 s24) : c_crease_Change N [.int s0, .int s1, .int s2, .int s3, .int s4, .int s5, .int s6, .int s7, .int s8, .int s9, .int s10, .int s11, .int s12, .int s13, .rows s14, .int s15, .rows s16, .rows s17, .bool s18, .rows s19, .bool s20, .int s21, .int s22, .int s23, .rows s24, .int s25, .int s26, .int s27] = some (changeS (⟨s0, s1, s2, s3, s4, s5, s6, s7, s8, s9, s10, s11, s12, s13, s14, s15, s16, s17, s18, s19, s20, s21, s22, s23, s24, s25, s26, s27⟩ : Inn)).ls := by
  show t_crease_Change (std (env_crease_Change N) N) (xOf _) = _
  simp only [t_crease_Change, e_crease_Change_crease_own, std, xOf, PXb, PXc, PXn, PXm, Nat.reduceAdd, Int.reduceBEq, L_crease_own h]
  rfl
theorem L_crease_begun_1 {N : Nat} {v : Int}  : c_crease_begun_1 N [.int v] = some [.bool (!(v == 0))] := by
  show t_crease_begun_1 (std (env_crease_begun_1 N) N) (xOf _) = _
  rfl
theorem L_innings_begun_1 {N : Nat} {v : Int}  : c_innings_begun_1 N [.int v] = some [.bool (!(v == 0))] := by
  show t_innings_begun_1 (std (env_innings_begun_1 N) N) (xOf _) = _
  rfl
theorem begun_loop (L : Rows) (k : List PV → Option (List PV)) : (some (found (findR (seek fun i => !(atI L i 0 == 0)) L.length 0))).bind k = k (found (findR (seek fun i => !(atI L i 0 == 0)) L.length 0)) := rfl
theorem L_crease_begun {N : Nat} {s0 s1 s2 s3 s4 s5 s6 s7 s8 s9 s10 s11 s12 s13 s15 s21 s22 s23 s25 s26 s27 : Int} {s18 s20 : Bool} {s14 s16 s17 s19 s24 : Rows} (h : s14.length ≤ 1048576) (hN : 2097152 < N) : c_crease_begun N [.int s0, .int s1, .int s2, .int s3, .int s4, .int s5, .int s6, .int s7, .int s8, .int s9, .int s10, .int s11, .int s12, .int s13, .rows s14, .int s15, .rows s16, .rows s17, .bool s18, .rows s19, .bool s20, .int s21, .int s22, .int s23, .rows s24, .int s25, .int s26, .int s27] = some [.bool (begunR s14)] := by
  show t_crease_begun (std (env_crease_begun N) N) (xOf _) = _
  simp only [t_crease_begun, e_crease_begun_crease_begun_1, std, xOf, PXb, PXc, PXn, bind_c]
  rw [show begunR s14 = iLe 0 (idxR (fun i => !(atI s14 i 0 == 0)) s14.length) from (idx_nonneg _ _).symm]
  rw [Option.bind_assoc]
  refine bind_loop (iter_find (len := s14.length) (seek fun i => !(atI s14 i 0 == 0)) ?_ ?_ s14.length 0 N (by omega) (by omega)) ?_
  · intro self
    simp only [PXb, PXc, PXn, bind_c, ge_len]
  · intro i self hi
    simp only [PXb, PXc, PXn, bind_c, wrap_nat (show i ≤ 1099511627776 by omega), lt_len hi, in_range hi, seek, atI_def, e_crease_begun_crease_begun_1, L_crease_begun_1]
    cases atI s14 i 0 == 0 <;> rfl
  · unfold idxR
    cases findR (seek fun i => !(atI s14 i 0 == 0)) s14.length 0 <;> rfl
theorem L_innings_begun {N : Nat} {s0 s1 s2 s3 s4 s5 s6 s7 s8 s9 s10 s11 s12 s13 s15 s21 s22 s23 s25 s26 s27 : Int} {s18 s20 : Bool} {s14 s16 s17 s19 s24 : Rows} (h : s14.length ≤ 1048576) (hN : 2097152 < N) : c_innings_begun N [.int s0, .int s1, .int s2, .int s3, .int s4, .int s5, .int s6, .int s7, .int s8, .int s9, .int s10, .int s11, .int s12, .int s13, .rows s14, .int s15, .rows s16, .rows s17, .bool s18, .rows s19, .bool s20, .int s21, .int s22, .int s23, .rows s24, .int s25, .int s26, .int s27] = some [.bool (begunR s14)] := by
  show t_innings_begun (std (env_innings_begun N) N) (xOf _) = _
  simp only [t_innings_begun, e_innings_begun_innings_begun_1, std, xOf, PXb, PXc, PXn, bind_c]
  rw [show begunR s14 = iLe 0 (idxR (fun i => !(atI s14 i 0 == 0)) s14.length) from (idx_nonneg _ _).symm]
  rw [Option.bind_assoc]
  refine bind_loop (iter_find (len := s14.length) (seek fun i => !(atI s14 i 0 == 0)) ?_ ?_ s14.length 0 N (by omega) (by omega)) ?_
  · intro self
    simp only [PXb, PXc, PXn, bind_c, ge_len]
  · intro i self hi
    simp only [PXb, PXc, PXn, bind_c, wrap_nat (show i ≤ 1099511627776 by omega), lt_len hi, in_range hi, seek, atI_def, e_innings_begun_innings_begun_1, L_innings_begun_1]
    cases atI s14 i 0 == 0 <;> rfl
  · unfold idxR
    cases findR (seek fun i => !(atI s14 i 0 == 0)) s14.length 0 <;> rfl
theorem L_crease_Vacant {N : Nat} {s0 s1 s2 s3 s4 s5 s6 s7 s8 s9 s10 s11 s12 s13 s15 s21 s22 s23 s25 s26 s27 : Int} {s18 s20 : Bool} {s14 s16 s17 s19 s24 : Rows} (h : s14.length ≤ 1048576) (hN : 2097152 < N) : c_crease_Vacant N [.int s0, .int s1, .int s2, .int s3, .int s4, .int s5, .int s6, .int s7, .int s8, .int s9, .int s10, .int s11, .int s12, .int s13, .rows s14, .int s15, .rows s16, .rows s17, .bool s18, .rows s19, .bool s20, .int s21, .int s22, .int s23, .rows s24, .int s25, .int s26, .int s27] = some [.bool (shortR s14 s12 s13)] := by
  show t_crease_Vacant (std (env_crease_Vacant N) N) (xOf _) = _
  simp only [t_crease_Vacant, e_crease_Vacant_crease_begun, std, xOf, PXb, PXc, PXn, PXm, Nat.reduceAdd, Int.reduceBEq, L_crease_begun h hN]
  rfl
theorem L_crease_Left {N : Nat} {s0 s1 s2 s3 s4 s5 s6 s7 s8 s9 s10 s11 s12 s13 s15 s21 s22 s23 s25 s26 s27 : Int} {s18 s20 : Bool} {s14 s16 s17 s19 s24 : Rows} (h : s14.length ≤ 1048576) (hN : 2097152 < N) : c_crease_Left N [.int s0, .int s1, .int s2, .int s3, .int s4, .int s5, .int s6, .int s7, .int s8, .int s9, .int s10, .int s11, .int s12, .int s13, .rows s14, .int s15, .rows s16, .rows s17, .bool s18, .rows s19, .bool s20, .int s21, .int s22, .int s23, .rows s24, .int s25, .int s26, .int s27] = some [.rows (leftR s14 s14.length)] := by
  show t_crease_Left (std (env_crease_Left N) N) (xOf _) = _
  simp only [t_crease_Left, std, xOf, PXb, PXc, PXn, bind_c]
  refine bind_loop (iter_all (len := s14.length) (fun i => [.rows (leftR s14 i), .int (i : Int)]) [.rows (leftR s14 s14.length)] ?_ ?_ N (by omega)) rfl
  · intro self
    simp only [PXb, PXc, PXn, bind_c, ge_len]
  · intro i self hi
    have h2 : (leftR s14 i ++ [[PV.int ((i : Int) + 1)]]).length ≤ 4194304 := by have := left_len s14 i; simp; omega
    simp only [PXb, PXc, PXn, bind_c, wrap_nat (show i ≤ 1099511627776 by omega), lt_len hi, in_range hi, atI_def, leftR, sm_ok h2 (show 8 ≤ 4096 by omega)]
    cases (atI s14 i 0 == 0 || atI s14 i 0 == 3) <;> rfl
def openS (s : Inn) (p q : Int) : Inn × Int :=
  cond (begunR s.batters) (s, 1) (cond (!inR p s.batters.length || !inR q s.batters.length) (s, 3) (cond (p == q) (s, 4)
    ({ s with batters := setI (setI s.batters p 1) q 1, striker := p, other := q }, 0)))
theorem L_crease_Open {N : Nat} {s0 s1 s2 s3 s4 s5 s6 s7 s8 s9 s10 s11 s12 s13 s15 s21 s22 s23 s25 s26 s27 : Int} {s18 s20 : Bool} {s14 s16 s17 s19 s24 : Rows} {p : Int} {q : Int} (h : Fit s14 s16 s17 s19 s24) (hN : 2097152 < N) : c_crease_Open N [.int s0, .int s1, .int s2, .int s3, .int s4, .int s5, .int s6, .int s7, .int s8, .int s9, .int s10, .int s11, .int s12, .int s13, .rows s14, .int s15, .rows s16, .rows s17, .bool s18, .rows s19, .bool s20, .int s21, .int s22, .int s23, .rows s24, .int s25, .int s26, .int s27, .int p, .int q] = some (lawLs (openS (⟨s0, s1, s2, s3, s4, s5, s6, s7, s8, s9, s10, s11, s12, s13, s14, s15, s16, s17, s18, s19, s20, s21, s22, s23, s24, s25, s26, s27⟩ : Inn) p q)) := by
  show t_crease_Open (std (env_crease_Open N) N) (xOf _) = _
  generalize hres : (some (lawLs (openS (⟨s0, s1, s2, s3, s4, s5, s6, s7, s8, s9, s10, s11, s12, s13, s14, s15, s16, s17, s18, s19, s20, s21, s22, s23, s24, s25, s26, s27⟩ : Inn) p q)) : Option (List PV)) = RR
  simp only [t_crease_Open, e_crease_Open_crease_begun, e_crease_Open_crease_own, e_crease_Open_crease_known, std, xOf, PXb, PXc, PXn, PXm, Nat.reduceAdd, Int.reduceBEq, L_crease_own h, L_crease_begun h.bt hN, L_crease_known]
  subst hres; simp only [openS]
  cases begunR s14 <;> try rfl
  cases hp : inR p s14.length <;> cases hq : inR q s14.length <;> try rfl
  rw [in_at hp h.bt, in_at hq h.bt]
  cases p == q <;> rfl
def mayS (s : Inn) (p : Int) : Int :=
  cond (!inR p s.batters.length) 3 (cond (!shortR s.batters s.striker s.other || atI s.batters (ix p) 0 == 1) 4 (cond (atI s.batters (ix p) 0 == 2) 5 0))
theorem L_crease_may {N : Nat} {s0 s1 s2 s3 s4 s5 s6 s7 s8 s9 s10 s11 s12 s13 s15 s21 s22 s23 s25 s26 s27 : Int} {s18 s20 : Bool} {s14 s16 s17 s19 s24 : Rows} {p : Int} (h : s14.length ≤ 1048576) (hN : 2097152 < N) : c_crease_may N [.int s0, .int s1, .int s2, .int s3, .int s4, .int s5, .int s6, .int s7, .int s8, .int s9, .int s10, .int s11, .int s12, .int s13, .rows s14, .int s15, .rows s16, .rows s17, .bool s18, .rows s19, .bool s20, .int s21, .int s22, .int s23, .rows s24, .int s25, .int s26, .int s27, .int p] = some [.int (mayS (⟨s0, s1, s2, s3, s4, s5, s6, s7, s8, s9, s10, s11, s12, s13, s14, s15, s16, s17, s18, s19, s20, s21, s22, s23, s24, s25, s26, s27⟩ : Inn) p)] := by
  show t_crease_may (std (env_crease_may N) N) (xOf _) = _
  generalize hres : (some [.int (mayS (⟨s0, s1, s2, s3, s4, s5, s6, s7, s8, s9, s10, s11, s12, s13, s14, s15, s16, s17, s18, s19, s20, s21, s22, s23, s24, s25, s26, s27⟩ : Inn) p)] : Option (List PV)) = RR
  simp only [t_crease_may, e_crease_may_crease_Vacant, e_crease_may_crease_known, std, xOf, PXb, PXc, PXn, PXm, Nat.reduceAdd, Int.reduceBEq, L_crease_known, L_crease_Vacant h hN]
  subst hres; simp only [mayS]
  cases hp : inR p s14.length <;> try rfl
  rw [in_at hp h]
  cases shortR s14 s12 s13 <;> try rfl
  simp only [PXb, PXc, PXn, PXm, Nat.reduceAdd, Int.reduceBEq, atI, ix]
theorem may_known {s : Inn} {p : Int} (h : (mayS s p == 0) = true) : inR p s.batters.length = true := by
  unfold mayS at h
  cases hp : inR p s.batters.length with
  | true => rfl
  | false => rw [hp] at h; cases h
def enterS (s : Inn) (p : Int) : Inn × Int :=
  cond (mayS s p == 0) ({ s with batters := setI s.batters p 1, striker := cond (s.striker == 0) p s.striker, other := cond (s.striker == 0) s.other p }, 0) (s, mayS s p)
def timeOutS (s : Inn) (p : Int) : Inn × Int :=
  cond (mayS s p == 0) ({ s with batters := setI s.batters p 2, wickets := IntKind.i64.wrap (s.wickets + 1) }, 0) (s, mayS s p)
theorem L_crease_Enter {N : Nat} {s0 s1 s2 s3 s4 s5 s6 s7 s8 s9 s10 s11 s12 s13 s15 s21 s22 s23 s25 s26 s27 : Int} {s18 s20 : Bool} {s14 s16 s17 s19 s24 : Rows} {p : Int} (h : Fit s14 s16 s17 s19 s24) (hN : 2097152 < N) : c_crease_Enter N [.int s0, .int s1, .int s2, .int s3, .int s4, .int s5, .int s6, .int s7, .int s8, .int s9, .int s10, .int s11, .int s12, .int s13, .rows s14, .int s15, .rows s16, .rows s17, .bool s18, .rows s19, .bool s20, .int s21, .int s22, .int s23, .rows s24, .int s25, .int s26, .int s27, .int p] = some (lawLs (enterS (⟨s0, s1, s2, s3, s4, s5, s6, s7, s8, s9, s10, s11, s12, s13, s14, s15, s16, s17, s18, s19, s20, s21, s22, s23, s24, s25, s26, s27⟩ : Inn) p)) := by
  show t_crease_Enter (std (env_crease_Enter N) N) (xOf _) = _
  generalize hres : (some (lawLs (enterS (⟨s0, s1, s2, s3, s4, s5, s6, s7, s8, s9, s10, s11, s12, s13, s14, s15, s16, s17, s18, s19, s20, s21, s22, s23, s24, s25, s26, s27⟩ : Inn) p)) : Option (List PV)) = RR
  simp only [t_crease_Enter, e_crease_Enter_crease_own, e_crease_Enter_crease_may, std, xOf, PXb, PXc, PXn, PXm, Nat.reduceAdd, Int.reduceBEq, L_crease_own h, L_crease_may h.bt hN]
  subst hres; simp only [enterS]
  cases hm : mayS (⟨s0, s1, s2, s3, s4, s5, s6, s7, s8, s9, s10, s11, s12, s13, s14, s15, s16, s17, s18, s19, s20, s21, s22, s23, s24, s25, s26, s27⟩ : Inn) p == 0 <;> try rfl
  rw [in_at (may_known hm) h.bt]
  cases s12 == 0 <;> rfl
theorem L_crease_TimeOut {N : Nat} {s0 s1 s2 s3 s4 s5 s6 s7 s8 s9 s10 s11 s12 s13 s15 s21 s22 s23 s25 s26 s27 : Int} {s18 s20 : Bool} {s14 s16 s17 s19 s24 : Rows} {p : Int} (h : Fit s14 s16 s17 s19 s24) (hN : 2097152 < N) : c_crease_TimeOut N [.int s0, .int s1, .int s2, .int s3, .int s4, .int s5, .int s6, .int s7, .int s8, .int s9, .int s10, .int s11, .int s12, .int s13, .rows s14, .int s15, .rows s16, .rows s17, .bool s18, .rows s19, .bool s20, .int s21, .int s22, .int s23, .rows s24, .int s25, .int s26, .int s27, .int p] = some (lawLs (timeOutS (⟨s0, s1, s2, s3, s4, s5, s6, s7, s8, s9, s10, s11, s12, s13, s14, s15, s16, s17, s18, s19, s20, s21, s22, s23, s24, s25, s26, s27⟩ : Inn) p)) := by
  show t_crease_TimeOut (std (env_crease_TimeOut N) N) (xOf _) = _
  generalize hres : (some (lawLs (timeOutS (⟨s0, s1, s2, s3, s4, s5, s6, s7, s8, s9, s10, s11, s12, s13, s14, s15, s16, s17, s18, s19, s20, s21, s22, s23, s24, s25, s26, s27⟩ : Inn) p)) : Option (List PV)) = RR
  simp only [t_crease_TimeOut, e_crease_TimeOut_crease_own, e_crease_TimeOut_crease_known, e_crease_TimeOut_crease_may, std, xOf, PXb, PXc, PXn, PXm, Nat.reduceAdd, Int.reduceBEq, L_crease_own h, L_crease_may h.bt hN, L_crease_known]
  subst hres; simp only [timeOutS]
  cases hm : mayS (⟨s0, s1, s2, s3, s4, s5, s6, s7, s8, s9, s10, s11, s12, s13, s14, s15, s16, s17, s18, s19, s20, s21, s22, s23, s24, s25, s26, s27⟩ : Inn) p == 0 <;> try rfl
  have hk : inR p s14.length = true := may_known hm
  rw [in_at hk h.bt, hk]
  rfl
def retireS (s : Inn) (p : Int) (hurt : Bool) : Inn × Int :=
  cond (!inR p s.batters.length) (s, 3) (cond (s.striker == 0 || s.other == 0) (s, 6) (cond (!(p == s.striker) && !(p == s.other)) (s, 4)
    (cond (hurt && ((leftR s.batters s.batters.length).length : Int) == 0) (s, 19)
      ({ s with striker := cond (p == s.striker) 0 s.striker, other := cond (p == s.striker) s.other 0, batters := setI s.batters p (cond hurt 3 2), wickets := cond hurt s.wickets (IntKind.i64.wrap (s.wickets + 1)) }, 0))))
theorem L_crease_Retire {N : Nat} {s0 s1 s2 s3 s4 s5 s6 s7 s8 s9 s10 s11 s12 s13 s15 s21 s22 s23 s25 s26 s27 : Int} {s18 s20 : Bool} {s14 s16 s17 s19 s24 : Rows} {p : Int} {b : Bool} (h : Fit s14 s16 s17 s19 s24) (hN : 2097152 < N) : c_crease_Retire N [.int s0, .int s1, .int s2, .int s3, .int s4, .int s5, .int s6, .int s7, .int s8, .int s9, .int s10, .int s11, .int s12, .int s13, .rows s14, .int s15, .rows s16, .rows s17, .bool s18, .rows s19, .bool s20, .int s21, .int s22, .int s23, .rows s24, .int s25, .int s26, .int s27, .int p, .bool b] = some (lawLs (retireS (⟨s0, s1, s2, s3, s4, s5, s6, s7, s8, s9, s10, s11, s12, s13, s14, s15, s16, s17, s18, s19, s20, s21, s22, s23, s24, s25, s26, s27⟩ : Inn) p b)) := by
  show t_crease_Retire (std (env_crease_Retire N) N) (xOf _) = _
  generalize hres : (some (lawLs (retireS (⟨s0, s1, s2, s3, s4, s5, s6, s7, s8, s9, s10, s11, s12, s13, s14, s15, s16, s17, s18, s19, s20, s21, s22, s23, s24, s25, s26, s27⟩ : Inn) p b)) : Option (List PV)) = RR
  simp only [t_crease_Retire, e_crease_Retire_crease_Left, e_crease_Retire_crease_own, e_crease_Retire_crease_known, std, xOf, PXb, PXc, PXn, PXm, Nat.reduceAdd, Int.reduceBEq, L_crease_own h, L_crease_known, L_crease_Left h.bt hN]
  subst hres; simp only [retireS]
  cases hp : inR p s14.length <;> try rfl
  rw [in_at hp h.bt]
  cases s12 == 0 <;> cases s13 == 0 <;> try rfl
  cases p == s12 <;> cases p == s13 <;> cases b <;> try rfl
  all_goals (simp only [PXb, PXc, PXn, PXm, Nat.reduceAdd, Int.reduceBEq]; cases ((leftR s14 s14.length).length : Int) == 0 <;> rfl)
theorem setI_setI (L : Rows) (p a b : Int) : setI (setI L p a) p b = setI L p b := by
  unfold setI
  rw [List.set_set]
  rcases Nat.lt_or_ge (ix p) L.length with h | h
  · have : rowAt (L.set (ix p) (putRow (rowAt L (ix p)) 0 [.int a])) (ix p) = putRow (rowAt L (ix p)) 0 [.int a] := by
      unfold rowAt
      simp [List.getD_eq_getElem?_getD, List.getElem?_set, h]
    rw [this]
    simp only [putRow, List.set_set]
  · rw [List.set_eq_of_length_le h, List.set_eq_of_length_le h]
end Go.Px
end

section
namespace Go.Px
set_option linter.unusedVariables false
set_option linter.unusedSimpArgs false
set_option maxRecDepth 100000

def btw (a b c : Int) : Bool := iLe b a && iLe a c
theorem LL_innings_between (N : Nat) (a b c : Int) : c_innings_between N [.int a, .int b, .int c] = some [.bool (btw a b c)] := by
  show some [PV.bool (cond (iLe b a) (iLe a c) false)] = _
  rw [c_and]; rfl
theorem LL_rules_between (N : Nat) (a b c : Int) : c_rules_between N [.int a, .int b, .int c] = some [.bool (btw a b c)] := by
  show some [PV.bool (cond (iLe b a) (iLe a c) false)] = _
  rw [c_and]; rfl
def rangesOk (x1 x2 x3 x4 x5 x6 x7 x9 x10 x11 x12 : Int) : Bool := btw x1 2 11 && btw x2 1 2 && btw x3 0 90 && btw x4 4 8 && btw x5 0 90 && btw x6 1 5 && btw x7 1 5 && btw x9 0 200 && btw x10 0 1000 && btw x11 0 9 && btw x12 0 11
theorem LL_rules_inRange (N : Nat) (x0 : ByteArray) (x1 x2 x3 x4 x5 x6 x7 x9 x10 x11 x12 : Int) (x8 : Bool) (x13 : Rows) :
   c_rules_inRange N [.str x0, .int x1, .int x2, .int x3, .int x4, .int x5, .int x6, .int x7, .bool x8, .int x9, .int x10, .int x11, .int x12, .rows x13] = some [.bool (rangesOk x1 x2 x3 x4 x5 x6 x7 x9 x10 x11 x12)] := by
  show t_rules_inRange (std (env_rules_inRange N) N) (xOf _) = _
  have e : ∀ ls, env_rules_inRange N 162 [] ls = c_rules_between N ls := fun ls => rfl
  simp only [t_rules_inRange, std, xOf, e, LL_rules_between, PXb, PXc, PXn, bind_c, rangesOk]

/-- Names. -/
def nameBad (s : ByteArray) (i : Nat) : Bool := !(iLe 65 (strAt s i) && iLe (strAt s i) 90) && ((i : Int) == 0 || ((!(strAt s i == 95) && !(strAt s i == 45)) && (iLt (strAt s i) 48 || iLt 57 (strAt s i))))
def nameOk (s : ByteArray) : Bool := !anyR (nameBad s) s.size 0 && (iLe 1 s.size && iLe s.size 16)
theorem sb_len (s : ByteArray) : (bytesOfStr s).length = s.size := by
  simp only [bytesOfStr, List.length_map, Array.length_toList]; rfl
theorem sb_at (s : ByteArray) (i : Nat) (h : i < s.size) : pvI (pvAt (bytesOfStr s) i 0) = strAt s i := by
  unfold pvAt rowAt cellAt bytesOfStr strAt
  simp only [List.getD_eq_getElem?_getD, List.getElem?_map]
  have : i < s.data.toList.length := by simpa using h
  rw [List.getElem?_eq_getElem this]
  simp [List.getElem?_eq_getElem this]
theorem LL_text_Name (N : Nat) (s : ByteArray) (hN : s.size < N) (hs : s.size ≤ 1048576) : c_text_Name N [.str s] = some [.bool (nameOk s)] := by
  show t_text_Name (std (env_text_Name N) N) (xOf _) = _
  simp only [t_text_Name, std, xOf, sb_len, PXb, PXc, PXn, bind_c]
  refine bind_loop (iter_any (len := s.size) (nameBad s) [.bool false] ?_ ?_ N hN) ?_
  · intro self
    simp only [PXb, PXc, PXn, bind_c, ge_len]
  · intro i self hi
    simp only [PXb, PXc, PXn, bind_c, Int.toNat_natCast, sb_at s i hi, wrap_nat (show i ≤ 1099511627776 by omega), lt_len hi, in_range hi, nameBad]
  · unfold nameOk
    cases anyR (nameBad s) s.size 0 <;> rfl
theorem loop_len (bs : ByteArray) (i : Nat) (r : List UInt8) : (ByteArray.toList.loop bs i r).length = r.length + (bs.size - i) := by
  induction i, r using ByteArray.toList.loop.induct (bs := bs) with
  | case1 i r h ih => unfold ByteArray.toList.loop; rw [if_pos h, ih]; simp; omega
  | case2 i r h => unfold ByteArray.toList.loop; rw [if_neg h]; simp; omega
theorem toList_len (bs : ByteArray) : bs.toList.length = bs.size := by
  unfold ByteArray.toList; rw [loop_len]; simp
theorem bytes_empty (s : ByteArray) : (s.toList == (⟨#[]⟩ : ByteArray).toList) = !iLe 1 (s.size : Int) := by
  have h := toList_len s
  have h0 := toList_len (⟨#[]⟩ : ByteArray)
  rw [Bool.eq_iff_iff]
  simp only [beq_iff_eq, iLe, Bool.not_eq_true', decide_eq_false_iff_not]
  constructor
  · intro e; rw [e, h0] at h
    have : (⟨#[]⟩ : ByteArray).size = 0 := rfl
    omega
  · intro e
    have e1 : s.toList = [] := List.eq_nil_of_length_eq_zero (by omega)
    have e2 : (⟨#[]⟩ : ByteArray).toList = [] := List.eq_nil_of_length_eq_zero h0
    rw [e1, e2]
end Go.Px
end

section
namespace Go.Px
set_option linter.unusedVariables false
set_option linter.unusedSimpArgs false
set_option maxRecDepth 100000

theorem prev_ok {i len : Nat} (h : i < len) (hl : len ≤ 1099511627776) : (!iLt 0 (i : Int) || iIn (IntKind.i64.wrap ((i : Int) - 1)) (len : Int)) = true := by
  rw [wrap64 (by omega) (by omega)]
  simp only [iLt, iIn, Bool.or_eq_true, Bool.not_eq_true', decide_eq_false_iff_not, decide_eq_true_eq]
  omega
def phBad (L : Rows) (ov : Int) (i : Nat) : Bool := (iLt (atI L i 0) 1 || iLt (atI L i 1) (atI L i 0) || iLt ov (atI L i 1)) || !btw (atI L i 2) 0 11
def phBad2 (L : Rows) (i : Nat) : Bool := iLt 0 (i : Int) && iLe (atI L i 0) (pvI (pvAt L (IntKind.i64.wrap ((i : Int) - 1)).toNat 1))
def phAns (L : Rows) (ov : Int) (i : Nat) : Option (List PV) := cond (phBad L ov i) (some [.int 2]) (cond (phBad2 L i) (some [.int 8]) none)
def codeOf : Option (List PV) → Int
  | none => 0
  | some r => pvI (cellAt r 0)
def phCode (L : Rows) (ov : Int) : Int := cond (iLt 8 (L.length : Int)) 9 (codeOf (findR (phAns L ov) L.length 0))
theorem found_code (o : Option (List PV)) : cond (pvI (cellAt (found o) 0) == ((0 : Nat) : Int)) (some [PV.int (pvI (cellAt (found o) 1))]) (some [PV.int 0]) = some [PV.int (codeOf o)] := by
  cases o <;> rfl
theorem LL_rules_phases (N : Nat) (x0 : ByteArray) (x1 x2 x3 x4 x5 x6 x7 x9 x10 x11 x12 : Int) (x8 : Bool) (L : Rows) (hN : 2097152 < N) :
   c_rules_phases N [.str x0, .int x1, .int x2, .int x3, .int x4, .int x5, .int x6, .int x7, .bool x8, .int x9, .int x10, .int x11, .int x12, .rows L] = some [.int (phCode L x3)] := by
  show t_rules_phases (std (env_rules_phases N) N) (xOf _) = _
  have e : ∀ ls, env_rules_phases N 162 [] ls = c_rules_between N ls := fun ls => rfl
  simp only [t_rules_phases, std, xOf, e, LL_rules_between, PXb, PXc, PXn, bind_c, phCode]
  cases h8 : iLt 8 (L.length : Int) with
  | true => rfl
  | false =>
    have hl : L.length ≤ 8 := by simp [iLt] at h8; omega
    simp only [cond_false]
    refine bind_loop (iter_find (len := L.length) (phAns L x3) ?_ ?_ L.length 0 N (by omega) (by omega)) ?_
    · intro self
      simp only [PXb, PXc, PXn, bind_c, ge_len]
    · intro i self hi
      simp only [PXb, PXc, PXn, bind_c, Int.toNat_natCast, wrap_nat (show i ≤ 1099511627776 by omega), lt_len hi, in_range hi, LL_rules_between, e, prev_ok hi (by omega)]
      simp only [phAns, phBad, phBad2, atI]
      cases (iLt (pvI (pvAt L i 0)) 1 || iLt (pvI (pvAt L i 1)) (pvI (pvAt L i 0)) || iLt x3 (pvI (pvAt L i 1)) || !btw (pvI (pvAt L i 2)) 0 11) <;> 
      cases (iLt 0 (i : Int) && iLe (pvI (pvAt L i 0)) (pvI (pvAt L (IntKind.i64.wrap ((i : Int) - 1)).toNat 1))) <;> rfl
    · exact found_code _

def rulesCode (x0 : ByteArray) (x1 x2 x3 x4 x5 x6 x7 x9 x10 x11 x12 : Int) (L : Rows) : Int :=
  cond (!nameOk x0) 5 (cond (!rangesOk x1 x2 x3 x4 x5 x6 x7 x9 x10 x11 x12) 2
    (cond ((!(x10 == 0) && x2 == 1) || ((!(x5 == 0) || iLt 0 (L.length : Int)) && x3 == 0)) 1
      (cond (!(x5 == 0) && iLt (IntKind.i64.wrap (x5 * x1)) x3) 13 (phCode L x3))))
theorem LL_rules_Check (N : Nat) (x0 : ByteArray) (x1 x2 x3 x4 x5 x6 x7 x9 x10 x11 x12 : Int) (x8 : Bool) (L : Rows) (hN : 2097152 < N) (hs : x0.size ≤ 1048576) :
   c_rules_Check N [.str x0, .int x1, .int x2, .int x3, .int x4, .int x5, .int x6, .int x7, .bool x8, .int x9, .int x10, .int x11, .int x12, .rows L] = some [.int (rulesCode x0 x1 x2 x3 x4 x5 x6 x7 x9 x10 x11 x12 L)] := by
  show t_rules_Check (std (env_rules_Check N) N) (xOf _) = _
  have e : ∀ ls, env_rules_Check N 95 [] ls = c_text_Name N ls := fun ls => rfl
  have e2 : ∀ ls, env_rules_Check N 96 [] ls = c_rules_inRange N ls := fun ls => rfl
  have e3 : ∀ ls, env_rules_Check N 97 [] ls = c_rules_phases N ls := fun ls => rfl
  simp only [t_rules_Check, std, xOf, e, e2, e3, LL_text_Name N x0 (by omega) hs, LL_rules_inRange, LL_rules_phases N _ _ _ _ _ _ _ _ _ _ _ _ _ _ hN, PXb, PXc, bind_c, rulesCode]
  cases nameOk x0 <;> cases rangesOk x1 x2 x3 x4 x5 x6 x7 x9 x10 x11 x12 <;> try rfl
  simp only [PXb, PXc, bind_c, Bool.not_true]
  cases (!(x10 == 0) && x2 == 1) <;> cases ((!(x5 == 0) || iLt 0 (L.length : Int)) && x3 == 0) <;> try rfl
  cases (!(x5 == 0) && iLt (IntKind.i64.wrap (x5 * x1)) x3) <;> rfl
end Go.Px
end

section
namespace Go.Px
set_option linter.unusedVariables false
set_option linter.unusedSimpArgs false
set_option maxRecDepth 100000

theorem LL_slices_Index_int (N : Nat) (L : Rows) (v : Int) (hN : L.length < N) (hl : L.length ≤ 2097152) : c_slices_Index_int N [.rows L, .int v] = some [.int (idxR (fun j => v == atI L j 0) L.length)] := by
  show t_slices_Index_int (std (env_slices_Index_int N) N) (xOf _) = _
  simp only [t_slices_Index_int, std, xOf, PXb, PXc, PXn, bind_c]
  refine bind_loop (iter_find (len := L.length) (seek fun j => v == atI L j 0) ?_ ?_ L.length 0 N (by omega) (by omega)) ?_
  · intro self
    simp only [PXb, PXc, PXn, bind_c, ge_len]
  · intro i self hi
    simp only [PXb, PXc, PXn, bind_c, wrap_nat (show i ≤ 1099511627776 by omega), lt_len hi, in_range hi, seek, atI_def]
    cases v == atI L i 0 <;> rfl
  · unfold idxR
    cases findR (seek fun j => v == atI L j 0) L.length 0 <;> rfl
def hasI (L : Rows) (k : Nat) (v : Int) : Bool := anyR (fun j => v == atI L j 0) k 0
theorem LL_slices_Contains_int (N : Nat) (L : Rows) (v : Int) (hN : L.length < N) (hl : L.length ≤ 2097152) : c_slices_Contains_int N [.rows L, .int v] = some [.bool (hasI L L.length v)] := by
  show t_slices_Contains_int (std (env_slices_Contains_int N) N) (xOf _) = _
  have e : ∀ ls, env_slices_Contains_int N 163 [] ls = c_slices_Index_int N ls := fun ls => rfl
  simp only [t_slices_Contains_int, std, xOf, PXb, PXc, PXn, bind_c, e, LL_slices_Index_int N L v hN hl, idx_nonneg, hasI]
theorem has_take (L : Rows) (i : Nat) (v : Int) (h : i ≤ L.length) : hasI (L.take i) (L.take i).length v = hasI L i v := by
  rw [List.length_take, Nat.min_eq_left h]
  exact anyR_congr i 0 (fun j _ hj => by rw [atI_take (by omega)])
def diffBad (L : Rows) (n : Int) (i : Nat) : Bool := !btw (atI L i 0) 1 n || hasI L i (atI L i 0)
def diffOk (L : Rows) (n : Int) : Bool := !anyR (diffBad L n) L.length 0
theorem LL_innings_different (N : Nat) (L : Rows) (n : Int) (hN : L.length < N) (hl : L.length ≤ 2097152) : c_innings_different N [.rows L, .int n] = some [.bool (diffOk L n)] := by
  show t_innings_different (std (env_innings_different N) N) (xOf _) = _
  have e : ∀ ls, env_innings_different N 53 [] ls = c_innings_between N ls := fun ls => rfl
  have e2 : ∀ ls, env_innings_different N 98 [] ls = c_slices_Contains_int N ls := fun ls => rfl
  simp only [t_innings_different, std, xOf, PXb, PXc, PXn, bind_c]
  refine bind_loop (iter_any (len := L.length) (diffBad L n) [.bool false] ?_ ?_ N hN) ?_
  · intro self
    simp only [PXb, PXc, PXn, bind_c, ge_len]
  · intro i self hi
    have h1 : (L.take i).length ≤ L.length := List.length_take_le' i L
    simp only [PXb, PXc, PXn, bind_c, wrap_nat (show i ≤ 1099511627776 by omega), lt_len hi, in_range hi, e, e2, LL_innings_between, rg_ok (Nat.le_of_lt hi), Int.toNat_zero, List.drop_zero, LL_slices_Contains_int N (L.take i) _ (by omega) (by omega), has_take L i _ (by omega), atI_def, diffBad]
    cases btw (atI L i 0) 1 n <;> cases hasI L i (atI L i 0) <;> rfl
  · unfold diffOk
    cases anyR (diffBad L n) L.length 0 <;> rfl
theorem LL_crease_begun_1 (N : Nat) (v : Int) : c_crease_begun_1 N [.int v] = some [.bool (!(v == 0))] := rfl
def lsI (L14 L16 L17 L19 L24 : Rows) (b18 b20 : Bool) (x0 x1 x2 x3 x4 x5 x6 x7 x8 x9 x10 x11 x12 x13 x15 x21 x22 x23 x25 x26 x27 : Int) : List PV :=
  [.int x0, .int x1, .int x2, .int x3, .int x4, .int x5, .int x6, .int x7, .int x8, .int x9, .int x10, .int x11, .int x12, .int x13, .rows L14, .int x15, .rows L16, .rows L17, .bool b18, .rows L19, .bool b20, .int x21, .int x22, .int x23, .rows L24, .int x25, .int x26, .int x27]
section
variable (N : Nat) (L14 L16 L17 L19 L24 : Rows) (b18 b20 : Bool) (x0 x1 x2 x3 x4 x5 x6 x7 x8 x9 x10 x11 x12 x13 x15 x21 x22 x23 x25 x26 x27 : Int)
theorem LL_crease_begun (hN : L14.length < N) (hl : L14.length ≤ 2097152) : c_crease_begun N (lsI L14 L16 L17 L19 L24 b18 b20 x0 x1 x2 x3 x4 x5 x6 x7 x8 x9 x10 x11 x12 x13 x15 x21 x22 x23 x25 x26 x27) = some [.bool (begunR L14)] := by
  show t_crease_begun (std (env_crease_begun N) N) (xOf (lsI ..)) = _
  have e : ∀ ls, env_crease_begun N 165 [] ls = c_crease_begun_1 N ls := fun ls => rfl
  simp only [t_crease_begun, std, xOf, lsI, PXb, PXc, PXn, bind_c]
  rw [show begunR L14 = iLe 0 (idxR (fun i => !(atI L14 i 0 == 0)) L14.length) from (idx_nonneg _ _).symm]
  rw [Option.bind_assoc]
  refine bind_loop (iter_find (len := L14.length) (seek fun i => !(atI L14 i 0 == 0)) ?_ ?_ L14.length 0 N (by omega) (by omega)) ?_
  · intro self
    simp only [PXb, PXc, PXn, bind_c, ge_len]
  · intro i self hi
    simp only [PXb, PXc, PXn, bind_c, wrap_nat (show i ≤ 1099511627776 by omega), lt_len hi, in_range hi, seek, atI_def, e, LL_crease_begun_1]
    cases atI L14 i 0 == 0 <;> rfl
  · unfold idxR
    cases findR (seek fun i => !(atI L14 i 0 == 0)) L14.length 0 <;> rfl
theorem LL_crease_Vacant (hN : L14.length < N) (hl : L14.length ≤ 2097152) : c_crease_Vacant N (lsI L14 L16 L17 L19 L24 b18 b20 x0 x1 x2 x3 x4 x5 x6 x7 x8 x9 x10 x11 x12 x13 x15 x21 x22 x23 x25 x26 x27) = some [.bool (shortR L14 x12 x13)] := by
  show t_crease_Vacant (std (env_crease_Vacant N) N) (xOf (lsI ..)) = _
  have e : ∀ ls, env_crease_Vacant N 103 [] ls = c_crease_begun N ls := fun ls => rfl
  have := LL_crease_begun N L14 L16 L17 L19 L24 b18 b20 x0 x1 x2 x3 x4 x5 x6 x7 x8 x9 x10 x11 x12 x13 x15 x21 x22 x23 x25 x26 x27 hN hl
  simp only [lsI] at this
  simp only [t_crease_Vacant, std, xOf, lsI, PXb, PXc, PXn, bind_c, e, this, shortR]
theorem LL_crease_Left (hN : L14.length < N) (hl : L14.length ≤ 2097152) : c_crease_Left N (lsI L14 L16 L17 L19 L24 b18 b20 x0 x1 x2 x3 x4 x5 x6 x7 x8 x9 x10 x11 x12 x13 x15 x21 x22 x23 x25 x26 x27) = some [.rows (leftR L14 L14.length)] := by
  show t_crease_Left (std (env_crease_Left N) N) (xOf (lsI ..)) = _
  simp only [t_crease_Left, std, xOf, lsI, PXb, PXc, PXn, bind_c]
  refine bind_loop (iter_all (len := L14.length) (fun i => [.rows (leftR L14 i), .int (i : Int)]) [.rows (leftR L14 L14.length)] ?_ ?_ N hN) rfl
  · intro self
    simp only [PXb, PXc, PXn, bind_c, ge_len]
  · intro i self hi
    have h2 : (leftR L14 i ++ [[PV.int ((i : Int) + 1)]]).length ≤ 4194304 := by have := left_len L14 i; simp; omega
    simp only [PXb, PXc, PXn, bind_c, wrap_nat (show i ≤ 1099511627776 by omega), lt_len hi, in_range hi, atI_def, leftR, sm_ok h2 (show 8 ≤ 4096 by omega)]
    cases (atI L14 i 0 == 0 || atI L14 i 0 == 3) <;> rfl
end
theorem LL_innings_numbers_1 (N : Nat) (v : Int) : c_innings_numbers_1 N [.int v] = some [.bool (!btw v 0 1000000000)] := by
  show t_innings_numbers_1 (std (env_innings_numbers_1 N) N) (xOf _) = _
  have e : ∀ ls, env_innings_numbers_1 N 53 [] ls = c_innings_between N ls := fun ls => rfl
  simp only [t_innings_numbers_1, std, xOf, PXb, PXc, PXn, bind_c, e, LL_innings_between]
end Go.Px
end

section
namespace Go.Px
set_option linter.unusedVariables false
set_option linter.unusedSimpArgs false
set_option maxRecDepth 100000

def pIs (L : Rows) (v : Int) (i : Nat) : Bool := atI L i 0 == v
def inAt (s n : Int) (i : Nat) : Bool := s == (i : Int) + 1 || n == (i : Int) + 1
def bad54 (L : Rows) (s n : Int) (i : Nat) : Bool := iLt 3 (atI L i 0) || (pIs L 1 i && !inAt s n i)
def bad60 (L : Rows) (s n : Int) (i : Nat) : Bool := iLt 3 (atI L i 0) || !(pIs L 1 i == inAt s n i)
def outs (L : Rows) : Int := cntR (pIs L 2) L.length
def ins (L : Rows) : Int := cntR (pIs L 1) L.length
def two (s n : Int) : Int := cond (!(n == 0)) (IntKind.i64.wrap (cond (!(s == 0)) (IntKind.i64.wrap (0 + 1)) 0 + 1)) (cond (!(s == 0)) (IntKind.i64.wrap (0 + 1)) 0)
def bat54 (L : Rows) (s n wk k : Int) : Bool :=
  !anyR (bad54 L s n) L.length 0 && ((btw s 0 k && btw n 0 k) && (!(s == n && !(s == 0)) && ((two s n == ins L && (!begunR L || iLt 0 (two s n))) && outs L == wk)))
def bat60 (L : Rows) (s n wk : Int) : Bool :=
  !anyR (bad60 L s n) L.length 0 && (!((begunR L && iLt (ins L) 1) || (!(s == 0) && s == n)) && wk == outs L)

def begT (L : Rows) : Nat → Bool
  | 0 => false
  | i + 1 => begT L i || !(atI L i 0 == 0)
theorem begT_eq (L : Rows) : ∀ i, begT L i = anyR (fun j => !(atI L j 0 == 0)) i 0
  | 0 => rfl
  | i + 1 => by rw [anyR_last, Nat.zero_add, ← begT_eq L i]; rfl

section
variable (N : Nat) (L14 L16 L17 L19 L24 : Rows) (b18 b20 : Bool) (x0 x1 x2 x3 x4 x5 x6 x7 x8 x9 x10 x11 x12 x13 x15 x21 x22 x23 x25 x26 x27 : Int)
theorem LL_innings_batters (k : Int) (hN : L14.length < N) (hl : L14.length ≤ 2097152) : c_innings_batters N (lsI L14 L16 L17 L19 L24 b18 b20 x0 x1 x2 x3 x4 x5 x6 x7 x8 x9 x10 x11 x12 x13 x15 x21 x22 x23 x25 x26 x27 ++ [.int k]) = some [.bool (bat54 L14 x12 x13 x4 k)] := by
  simp only [lsI, List.cons_append, List.nil_append]
  show t_innings_batters (std (env_innings_batters N) N) (xOf _) = _
  have e : ∀ ls, env_innings_batters N 53 [] ls = c_innings_between N ls := fun ls => rfl
  simp only [t_innings_batters, std, xOf, lsI, PXb, PXc, PXn, bind_c]
  refine bind_loop (iter_enc (len := L14.length) (fun i => [.int (cntR (pIs L14 2) i), .int (cntR (pIs L14 1) i), .bool (begT L14 i), .int (i : Int)])
    (bad54 L14 x12 x13) [.int 0, .bool false] [.int 1, .int (outs L14), .int (ins L14), .bool (begunR L14)] ?_ ?_ N hN) ?_
  · intro self
    simp only [PXb, PXc, PXn, bind_c, ge_len, begT_eq]
    rfl
  · intro i self hi
    simp only [PXb, PXc, bind_c, wrap_nat (show i ≤ 1099511627776 by omega), lt_len hi, in_range hi, atI_def, cnt_wrap (pIs L14 2) (show i ≤ 1099511627776 by omega), cnt_wrap (pIs L14 1) (show i ≤ 1099511627776 by omega)]
    unfold bad54 pIs inAt
    simp only [cntR, begT]
    cases h3 : iLt 3 (atI L14 i 0) with
    | true => rfl
    | false =>
      cases h1 : atI L14 i 0 == 1 with
      | true =>
        rw [one_two h1]
        cases x12 == (i : Int) + 1 <;> cases x13 == (i : Int) + 1 <;> rfl
      | false => cases h2 : atI L14 i 0 == 2 <;> rfl
  · unfold bat54
    simp only [e, LL_innings_between]
    cases anyR (bad54 L14 x12 x13) L14.length 0 with
    | true => rfl
    | false =>
      simp only [PXb, PXc, PXn, bind_c]
      unfold two
      cases btw x12 0 k <;> cases btw x13 0 k <;> try rfl
      cases x12 == 0 <;> cases x13 == 0 <;> cases x12 == x13 <;> try rfl
end
end Go.Px
end

section
namespace Go.Px
set_option linter.unusedVariables false
set_option linter.unusedSimpArgs false
set_option maxRecDepth 100000

theorem two_val (s n : Int) : two s n = cond (!(s == 0)) 1 0 + cond (!(n == 0)) 1 0 := by
  unfold two
  cases s == 0 <;> cases n == 0 <;> rfl
theorem two_cnt {s n : Int} {len : Nat} (h1 : 0 ≤ s ∧ s ≤ (len : Int)) (h2 : 0 ≤ n ∧ n ≤ (len : Int)) (hd : (s == n && !(s == 0)) = false) : two s n = cntR (inAt s n) len := by
  have hs : iLe s (len : Int) = true := by simp only [iLe, decide_eq_true_eq]; omega
  have hn : iLe n (len : Int) = true := by simp only [iLe, decide_eq_true_eq]; omega
  unfold inAt
  rw [cnt_or (p := fun i => s == (i : Int) + 1) (q := fun i => n == (i : Int) + 1) len (fun j _ hp => by
    have e1 : s = (j : Int) + 1 := by simpa using hp
    show (n == (j : Int) + 1) = false
    rw [beq_eq_false_iff_ne]
    intro e2
    have e3 : (s == n) = true := by rw [beq_iff_eq]; omega
    have e4 : (s == 0) = false := by rw [beq_eq_false_iff_ne]; omega
    rw [e3, e4] at hd; cases hd), cnt_at s len h1.1, cnt_at n len h2.1, hs, hn, Bool.and_true, Bool.and_true, two_val]
theorem lt_flip (x : Int) : iLt 0 x = !iLt x 1 := by
  unfold iLt
  rw [Bool.eq_iff_iff]
  simp only [decide_eq_true_eq, Bool.not_eq_true', decide_eq_false_iff_not]
  omega
theorem bat_main {L : Rows} {s n : Int} (h1 : 0 ≤ s ∧ s ≤ (L.length : Int)) (h2 : 0 ≤ n ∧ n ≤ (L.length : Int)) (hd : (s == n && !(s == 0)) = false) :
    (!anyR (bad54 L s n) L.length 0 && two s n == ins L) = !anyR (bad60 L s n) L.length 0 := by
  have h2c := two_cnt h1 h2 hd
  rw [Bool.eq_iff_iff]
  simp only [Bool.and_eq_true, Bool.not_eq_true', anyR_false, beq_iff_eq]
  constructor
  · intro ⟨ha, hb⟩ j _ hj
    have hm : ∀ j, j < L.length → pIs L 1 j = true → inAt s n j = true := fun j hj hp => by
      have := ha j (Nat.zero_le _) (by omega)
      unfold bad54 at this
      rw [hp] at this
      simp only [Bool.or_eq_false_iff, Bool.true_and, Bool.not_eq_false'] at this
      exact this.2
    have he := cnt_eq L.length hm (by rw [← h2c, hb]; rfl) j (by omega)
    have := ha j (Nat.zero_le _) hj
    unfold bad54 at this
    unfold bad60
    rw [Bool.or_eq_false_iff] at this ⊢
    exact ⟨this.1, by rw [he]; simp⟩
  · intro ha
    have hm : ∀ j, j < L.length → pIs L 1 j = inAt s n j := fun j hj => by
      have := ha j (Nat.zero_le _) (by omega)
      unfold bad60 at this
      rw [Bool.or_eq_false_iff] at this
      simpa using this.2
    refine ⟨fun j h0 hj => ?_, ?_⟩
    · have := ha j h0 hj
      unfold bad60 at this
      unfold bad54
      rw [Bool.or_eq_false_iff] at this ⊢
      refine ⟨this.1, ?_⟩
      rw [hm j (by omega)]
      cases inAt s n j <;> rfl
    · rw [h2c]
      exact (cnt_congr L.length hm).symm
theorem bat_eq (L : Rows) (s n wk k : Int) (hk : (L.length : Int) = k) : bat54 L s n wk k = (btw s 0 k && btw n 0 k && bat60 L s n wk) := by
  subst hk
  unfold bat54 bat60
  cases hs : btw s 0 (L.length : Int) with
  | false => simp only [Bool.false_and, Bool.and_false]
  | true =>
    cases hn : btw n 0 (L.length : Int) with
    | false => simp only [Bool.false_and, Bool.and_false]
    | true =>
      have h1 : 0 ≤ s ∧ s ≤ (L.length : Int) := by simpa [btw, iLe] using hs
      have h2 : 0 ≤ n ∧ n ≤ (L.length : Int) := by simpa [btw, iLe] using hn
      simp only [Bool.true_and]
      cases hd : (s == n && !(s == 0)) with
      | true =>
        have : (!(s == 0) && s == n) = true := by rw [Bool.and_comm]; exact hd
        rw [this]
        simp only [Bool.or_true, Bool.not_true, Bool.false_and, Bool.and_false]
      | false =>
        have : (!(s == 0) && s == n) = false := by rw [Bool.and_comm]; exact hd
        rw [this, ← bat_main h1 h2 hd]
        simp only [Bool.or_false, Bool.not_false, Bool.true_and]
        rw [show (wk == outs L) = (outs L == wk) from BEq.comm]
        cases hA : anyR (bad54 L s n) L.length 0 with
        | true => rfl
        | false =>
          cases hB : two s n == ins L with
          | false => rfl
          | true =>
            rw [beq_iff_eq.1 hB, lt_flip]
            simp only [Bool.true_and, Bool.not_false, Bool.not_and]
end Go.Px
end

section
namespace Go.Px
set_option linter.unusedVariables false
set_option linter.unusedSimpArgs false
set_option maxRecDepth 100000

def numBad (v : Int) : Bool := !btw v 0 1000000000
def nums (x1 x3 x5 x6 x7 x8 x9 x10 x21 x23 x25 x26 : Int) : Rows := [[.int x1], [.int x3], [.int x5], [.int x6], [.int x7], [.int x8], [.int x9], [.int x10], [.int x21], [.int x23], [.int x25], [.int x26]]
section
variable (N : Nat) (L14 L16 L17 L19 L24 : Rows) (b18 b20 : Bool) (x0 x1 x2 x3 x4 x5 x6 x7 x8 x9 x10 x11 x12 x13 x15 x21 x22 x23 x25 x26 x27 : Int)
theorem LL_innings_numbers (hN : 2097152 < N) (hl : L19.length ≤ 1048576) : c_innings_numbers N (lsI L14 L16 L17 L19 L24 b18 b20 x0 x1 x2 x3 x4 x5 x6 x7 x8 x9 x10 x11 x12 x13 x15 x21 x22 x23 x25 x26 x27) = some [.bool (!(anyL numBad (nums x1 x3 x5 x6 x7 x8 x9 x10 x21 x23 x25 x26) || anyL numBad L19))] := by
  show t_innings_numbers (std (env_innings_numbers N) N) (xOf (lsI ..)) = _
  have e : ∀ ls, env_innings_numbers N 100 [] ls = c_innings_numbers_1 N ls := fun ls => rfl
  rw [← anyL_app]
  simp only [t_innings_numbers, std, xOf, lsI, PXb, PXc, PXn, bind_c, nums]
  generalize hM : ([PV.int x1] :: [PV.int x3] :: [PV.int x5] :: [PV.int x6] :: [PV.int x7] :: [PV.int x8] :: [PV.int x9] :: [PV.int x10] :: [PV.int x21] :: [PV.int x23] :: [PV.int x25] :: [PV.int x26] :: L19 : Rows) = M
  have hM2 : M.length ≤ 2097152 := by rw [← hM]; simp only [List.length_cons]; omega
  rw [sm_ok (n := M.length) (by omega) (by omega)]
  simp only [PXb, PXc, PXn, bind_c]
  rw [Option.bind_assoc]
  refine bind_loop (iter_find (len := M.length) (seek fun i => numBad (atI M i 0)) ?_ ?_ M.length 0 N (by omega) (by omega)) ?_
  · intro self
    simp only [PXb, PXc, PXn, bind_c, ge_len]
  · intro i self hi
    simp only [PXb, PXc, PXn, bind_c, wrap_nat (show i ≤ 1099511627776 by omega), lt_len hi, in_range hi, seek, atI_def, e, LL_innings_numbers_1, numBad]
    cases btw (atI M i 0) 0 1000000000 <;> rfl
  · unfold anyL
    rw [← idx_nonneg]
    unfold idxR
    cases findR (seek fun i => numBad (atI M i 0)) M.length 0 <;> rfl
end

def oversOk (a3 x2 : Int) : Bool := cond (a3 == 0) (x2 == 0) (btw x2 1 a3)
def validR (s : ByteArray) (a1 a2 a3 a4 a5 a6 a7 a9 a10 a11 a12 : Int) (La L14 L16 L17 L19 L24 : Rows) (x0 x1 x2 x3 x4 x5 x6 x7 x8 x9 x10 x11 x12 x13 x15 x21 x22 x23 x25 x26 x27 : Int) : Bool :=
  rulesCode s a1 a2 a3 a4 a5 a6 a7 a9 a10 a11 a12 La == 0 && (btw x0 1 2 && ((L14.length : Int) == a1 && ((L19.length : Int) == a1 && ((L24.length : Int) == a1 && (!iLt 5 x27 &&
    (btw x12 0 a1 && (btw x13 0 a1 && (bat60 L14 x12 x13 x4 && (btw x15 0 a1 && (btw x22 0 a1 && (diffOk L16 a1 && (diffOk L17 a1 && (oversOk a3 x2 && (btw x11 0 (IntKind.i64.wrap (a4 - 1)) &&
      (!anyL numBad (nums x1 x3 x5 x6 x7 x8 x9 x10 x21 x23 x25 x26) && !anyL numBad L19)))))))))))))))
theorem code_overs {s : ByteArray} {a1 a2 a3 a4 a5 a6 a7 a9 a10 a11 a12 : Int} {La : Rows} (h : (rulesCode s a1 a2 a3 a4 a5 a6 a7 a9 a10 a11 a12 La == 0) = true) : 0 ≤ a3 := by
  unfold rulesCode at h
  cases hn : nameOk s with
  | false => rw [hn] at h; exact absurd h Bool.false_ne_true
  | true =>
    cases hr : rangesOk a1 a2 a3 a4 a5 a6 a7 a9 a10 a11 a12 with
    | false => rw [hn, hr] at h; exact absurd h Bool.false_ne_true
    | true =>
      unfold rangesOk at hr
      simp only [Bool.and_eq_true] at hr
      have := hr.1.1.1.1.1.1.1.1.2
      unfold btw iLe at this
      simp only [Bool.and_eq_true, decide_eq_true_eq] at this
      omega
theorem pos_not {a : Int} (h : 0 ≤ a) : iLt 0 a = !(a == 0) := by
  unfold iLt
  rw [Bool.eq_iff_iff]
  simp only [decide_eq_true_eq, Bool.not_eq_true', beq_eq_false_iff_ne]
  omega

section
variable (N : Nat) (s : ByteArray) (a1 a2 a3 a4 a5 a6 a7 a9 a10 a11 a12 : Int) (a8 : Bool) (La : Rows) (L14 L16 L17 L19 L24 : Rows) (b18 b20 : Bool) (x0 x1 x2 x3 x4 x5 x6 x7 x8 x9 x10 x11 x12 x13 x15 x21 x22 x23 x25 x26 x27 : Int)
theorem LL_innings_Valid (hN : 2097152 < N) (hs : s.size ≤ 1048576) (h14 : L14.length ≤ 1048576) (h16 : L16.length ≤ 1048576) (h17 : L17.length ≤ 1048576) (h19 : L19.length ≤ 1048576) : c_innings_Valid N ([.str s, .int a1, .int a2, .int a3, .int a4, .int a5, .int a6, .int a7, .bool a8, .int a9, .int a10, .int a11, .int a12, .rows La] ++ lsI L14 L16 L17 L19 L24 b18 b20 x0 x1 x2 x3 x4 x5 x6 x7 x8 x9 x10 x11 x12 x13 x15 x21 x22 x23 x25 x26 x27) = some [.bool (validR s a1 a2 a3 a4 a5 a6 a7 a9 a10 a11 a12 La L14 L16 L17 L19 L24 x0 x1 x2 x3 x4 x5 x6 x7 x8 x9 x10 x11 x12 x13 x15 x21 x22 x23 x25 x26 x27)] := by
  simp only [lsI, List.cons_append, List.nil_append]
  show t_innings_Valid (std (env_innings_Valid N) N) (xOf _) = _
  have e1 : ∀ ls, env_innings_Valid N 52 [] ls = c_rules_Check N ls := fun ls => rfl
  have e2 : ∀ ls, env_innings_Valid N 53 [] ls = c_innings_between N ls := fun ls => rfl
  have e3 : ∀ ls, env_innings_Valid N 54 [] ls = c_innings_batters N ls := fun ls => rfl
  have e4 : ∀ ls, env_innings_Valid N 55 [] ls = c_innings_different N ls := fun ls => rfl
  have e5 : ∀ ls, env_innings_Valid N 56 [] ls = c_innings_numbers N ls := fun ls => rfl
  have l54 := LL_innings_batters N L14 L16 L17 L19 L24 b18 b20 x0 x1 x2 x3 x4 x5 x6 x7 x8 x9 x10 x11 x12 x13 x15 x21 x22 x23 x25 x26 x27 a1 (by omega) (by omega)
  have l56 := LL_innings_numbers N L14 L16 L17 L19 L24 b18 b20 x0 x1 x2 x3 x4 x5 x6 x7 x8 x9 x10 x11 x12 x13 x15 x21 x22 x23 x25 x26 x27 (by omega) (by omega)
  simp only [lsI, List.cons_append, List.nil_append] at l54 l56
  simp only [t_innings_Valid, std, xOf, PXb, PXc, PXn, bind_c, e1, e2, e3, e4, e5, LL_rules_Check N s _ _ _ _ _ _ _ _ _ _ _ _ _ hN hs, LL_innings_between, l54, l56, LL_innings_different N L16 _ (by omega) (by omega), LL_innings_different N L17 _ (by omega) (by omega)]
  unfold validR oversOk
  cases hc : rulesCode s a1 a2 a3 a4 a5 a6 a7 a9 a10 a11 a12 La == 0 <;> try rfl
  cases btw x0 1 2 <;> try rfl
  cases h14 : (L14.length : Int) == a1 <;> try rfl
  cases (L19.length : Int) == a1 <;> try rfl
  cases (L24.length : Int) == a1 <;> try rfl
  cases iLt 5 x27 <;> try rfl
  rw [bat_eq L14 x12 x13 x4 a1 (beq_iff_eq.1 h14)]
  cases btw x12 0 a1 <;> try rfl
  cases btw x13 0 a1 <;> try rfl
  cases bat60 L14 x12 x13 x4 <;> try rfl
  cases btw x15 0 a1 <;> try rfl
  cases btw x22 0 a1 <;> try rfl
  cases diffOk L16 a1 <;> try rfl
  cases diffOk L17 a1 <;> try rfl
  cases a3 == 0 <;> cases x2 == 0 <;> cases btw x2 1 a3 <;> rfl
end
end Go.Px
end

section
namespace Go.Px
set_option linter.unusedVariables false
set_option linter.unusedSimpArgs false
set_option maxRecDepth 100000

def endR (v : Bool) (L : Rows) (s n : Int) (x1 x2 x3 x10 : Int) : Int :=
  cond (!v) 0 (cond (iLt 0 x1 && iLe x1 x3) 3 (cond (shortR L s n && ((leftR L L.length).length : Int) == 0) 1 (cond (iLt 0 x2 && iLe x2 x10) 2 0)))
theorem capOk {c : Int} {n : Nat} (hc : 0 ≤ c) : iRg 0 (cond (iLt c (n : Int)) c (n : Int)) (n : Int) = true := by
  cases h : iLt c (n : Int) with
  | true => simp only [iLt, decide_eq_true_eq] at h; simp only [cond_true, iRg, decide_eq_true_eq]; omega
  | false => simp only [cond_false, iRg, decide_eq_true_eq]; omega
def cut (L : Rows) (c : Int) : Rows := (L.take (cond (iLt c (L.length : Int)) c (L.length : Int)).toNat).drop (0 : Int).toNat
def cutS (s : ByteArray) (c : Int) : ByteArray := s.extract (0 : Int).toNat (cond (iLt c (s.size : Int)) c (s.size : Int)).toNat
theorem cut_len (L : Rows) (c : Int) : (cut L c).length ≤ L.length := by
  unfold cut
  rw [List.length_drop, List.length_take]
  omega
theorem cut_size (s : ByteArray) (c : Int) : (cutS s c).size ≤ s.size := by
  unfold cutS
  rw [ByteArray.size_extract]
  omega
section
variable (N : Nat) (s : ByteArray) (a1 a2 a3 a4 a5 a6 a7 a9 a10 a11 a12 : Int) (a8 : Bool) (La : Rows) (L14 L16 L17 L19 L24 : Rows) (b18 b20 : Bool) (x0 x1 x2 x3 x4 x5 x6 x7 x8 x9 x10 x11 x12 x13 x15 x21 x22 x23 x25 x26 x27 : Int)
theorem LL_w14_bounded : c_w14_bounded N [.str s, .int a1, .int a2, .int a3, .int a4, .int a5, .int a6, .int a7, .bool a8, .int a9, .int a10, .int a11, .int a12, .rows La] =
    some [.str (cutS s 20), .int a1, .int a2, .int a3, .int a4, .int a5, .int a6, .int a7, .bool a8, .int a9, .int a10, .int a11, .int a12, .rows (cut La 10)] := by
  show t_w14_bounded (std (env_w14_bounded N) N) (xOf _) = _
  simp only [t_w14_bounded, std, xOf, PXb, PXc, PXn, bind_c, capOk (show (0 : Int) ≤ 20 by omega), capOk (show (0 : Int) ≤ 10 by omega)]
  rfl
theorem LL_w14_Few : c_w14_Few N (lsI L14 L16 L17 L19 L24 b18 b20 x0 x1 x2 x3 x4 x5 x6 x7 x8 x9 x10 x11 x12 x13 x15 x21 x22 x23 x25 x26 x27) =
    some (lsI (cut L14 13) (cut L16 13) (cut L17 13) (cut L19 13) (cut L24 13) b18 b20 x0 x1 x2 x3 x4 x5 x6 x7 x8 x9 x10 x11 x12 x13 x15 x21 x22 x23 x25 x26 x27) := by
  show t_w14_Few (std (env_w14_Few N) N) (xOf (lsI ..)) = _
  simp only [t_w14_Few, std, xOf, lsI, PXb, PXc, PXn, bind_c, capOk (show (0 : Int) ≤ 13 by omega)]
  rfl
end
end Go.Px
end

section
namespace Go.Px
set_option linter.unusedVariables false
set_option linter.unusedSimpArgs false
set_option maxRecDepth 100000
section
variable (N : Nat) (s : ByteArray) (a1 a2 a3 a4 a5 a6 a7 a9 a10 a11 a12 : Int) (a8 : Bool) (La : Rows) (L14 L16 L17 L19 L24 : Rows) (b18 b20 : Bool) (x0 x1 x2 x3 x4 x5 x6 x7 x8 x9 x10 x11 x12 x13 x15 x21 x22 x23 x25 x26 x27 : Int)
theorem LL_innings_Ending (hN : 2097152 < N) (hs : s.size ≤ 1048576) (h14 : L14.length ≤ 1048576) (h16 : L16.length ≤ 1048576) (h17 : L17.length ≤ 1048576) (h19 : L19.length ≤ 1048576) : c_innings_Ending N ([.str s, .int a1, .int a2, .int a3, .int a4, .int a5, .int a6, .int a7, .bool a8, .int a9, .int a10, .int a11, .int a12, .rows La] ++ lsI L14 L16 L17 L19 L24 b18 b20 x0 x1 x2 x3 x4 x5 x6 x7 x8 x9 x10 x11 x12 x13 x15 x21 x22 x23 x25 x26 x27) =
    some [.int (endR (validR s a1 a2 a3 a4 a5 a6 a7 a9 a10 a11 a12 La L14 L16 L17 L19 L24 x0 x1 x2 x3 x4 x5 x6 x7 x8 x9 x10 x11 x12 x13 x15 x21 x22 x23 x25 x26 x27) L14 x12 x13 x1 x2 x3 x10)] := by
  simp only [lsI, List.cons_append, List.nil_append]
  show t_innings_Ending (std (env_innings_Ending N) N) (xOf _) = _
  have e1 : ∀ ls, env_innings_Ending N 16 [] ls = c_innings_Valid N ls := fun ls => rfl
  have e2 : ∀ ls, env_innings_Ending N 61 [] ls = c_crease_Vacant N ls := fun ls => rfl
  have e3 : ∀ ls, env_innings_Ending N 62 [] ls = c_crease_Left N ls := fun ls => rfl
  have l16 := LL_innings_Valid N s a1 a2 a3 a4 a5 a6 a7 a9 a10 a11 a12 a8 La L14 L16 L17 L19 L24 b18 b20 x0 x1 x2 x3 x4 x5 x6 x7 x8 x9 x10 x11 x12 x13 x15 x21 x22 x23 x25 x26 x27 hN hs h14 h16 h17 h19
  have l61 := LL_crease_Vacant N L14 L16 L17 L19 L24 b18 b20 x0 x1 x2 x3 x4 x5 x6 x7 x8 x9 x10 x11 x12 x13 x15 x21 x22 x23 x25 x26 x27 (by omega) (by omega)
  have l62 := LL_crease_Left N L14 L16 L17 L19 L24 b18 b20 x0 x1 x2 x3 x4 x5 x6 x7 x8 x9 x10 x11 x12 x13 x15 x21 x22 x23 x25 x26 x27 (by omega) (by omega)
  simp only [lsI, List.cons_append, List.nil_append] at l16 l61 l62
  simp only [t_innings_Ending, std, xOf, PXb, PXc, PXn, bind_c, e1, e2, e3, l16, l61, l62, endR]
  cases validR s a1 a2 a3 a4 a5 a6 a7 a9 a10 a11 a12 La L14 L16 L17 L19 L24 x0 x1 x2 x3 x4 x5 x6 x7 x8 x9 x10 x11 x12 x13 x15 x21 x22 x23 x25 x26 x27 <;> try rfl
  cases (iLt 0 x1 && iLe x1 x3) <;> try rfl
  cases shortR L14 x12 x13
  · cases (iLt 0 x2 && iLe x2 x10) <;> rfl
  · simp only [PXb, PXc, PXn, bind_c]
    cases ((leftR L14 L14.length).length : Int) == 0 <;> cases (iLt 0 x2 && iLe x2 x10) <;> rfl
end
end Go.Px
end

section
namespace Go.Px
set_option linter.unusedVariables false
set_option linter.unusedSimpArgs false
set_option maxRecDepth 100000
section
variable (N : Nat) (s : ByteArray) (a1 a2 a3 a4 a5 a6 a7 a9 a10 a11 a12 : Int) (a8 : Bool) (La : Rows) (L14 L16 L17 L19 L24 : Rows) (b18 b20 : Bool) (x0 x1 x2 x3 x4 x5 x6 x7 x8 x9 x10 x11 x12 x13 x15 x21 x22 x23 x25 x26 x27 : Int)
def ballsR (a4 x10 x11 : Int) : Int := IntKind.i64.wrap (IntKind.i64.wrap (x10 * a4) + x11)
theorem LL_innings_Balls : c_innings_Balls N ([.str s, .int a1, .int a2, .int a3, .int a4, .int a5, .int a6, .int a7, .bool a8, .int a9, .int a10, .int a11, .int a12, .rows La] ++ lsI L14 L16 L17 L19 L24 b18 b20 x0 x1 x2 x3 x4 x5 x6 x7 x8 x9 x10 x11 x12 x13 x15 x21 x22 x23 x25 x26 x27) = some [.int (ballsR a4 x10 x11)] := rfl
end
end Go.Px
end

section
namespace Go.Px
set_option linter.unusedVariables false
set_option linter.unusedSimpArgs false
set_option maxRecDepth 100000

def codeS (r : Rul) : Int := rulesCode r.name r.side r.innings r.overs r.balls r.quota r.wide r.noball r.newball r.followon r.reviews r.outside r.power
theorem L_rules_Check {N : Nat} {r1 r2 r3 r4 r5 r6 r7 r9 r10 r11 r12 : Int} {r8 : Bool} {r0 : ByteArray} {r13 : Rows} (hN : 2097152 < N) (hs : r0.size ≤ 1048576) : c_rules_Check N [.str r0, .int r1, .int r2, .int r3, .int r4, .int r5, .int r6, .int r7, .bool r8, .int r9, .int r10, .int r11, .int r12, .rows r13] = some [.int (codeS (⟨r0, r1, r2, r3, r4, r5, r6, r7, r8, r9, r10, r11, r12, r13⟩ : Rul))] := by
  exact LL_rules_Check N _ _ _ _ _ _ _ _ _ _ _ _ _ _ hN hs
theorem L_spell_own {N : Nat} {s0 s1 s2 s3 s4 s5 s6 s7 s8 s9 s10 s11 s12 s13 s15 s21 s22 s23 s25 s26 s27 : Int} {s18 s20 : Bool} {s14 s16 s17 s19 s24 : Rows} (h : Fit s14 s16 s17 s19 s24) : c_spell_own N [.int s0, .int s1, .int s2, .int s3, .int s4, .int s5, .int s6, .int s7, .int s8, .int s9, .int s10, .int s11, .int s12, .int s13, .rows s14, .int s15, .rows s16, .rows s17, .bool s18, .rows s19, .bool s20, .int s21, .int s22, .int s23, .rows s24, .int s25, .int s26, .int s27] = some [.int s0, .int s1, .int s2, .int s3, .int s4, .int s5, .int s6, .int s7, .int s8, .int s9, .int s10, .int s11, .int s12, .int s13, .rows s14, .int s15, .rows s16, .rows s17, .bool s18, .rows s19, .bool s20, .int s21, .int s22, .int s23, .rows s24, .int s25, .int s26, .int s27] := by
  show t_spell_own (std (env_spell_own N) N) (xOf _) = _
  simp only [t_spell_own, e_spell_own_slices_Clone_Status, e_spell_own_slices_Clone_int, e_spell_own_slices_Clone_bool, std, xOf, PXb, PXc, PXn, PXm, Nat.reduceAdd, Int.reduceBEq, c_slices_Clone_Status, c_slices_Clone_int, c_slices_Clone_bool, clone_ok h.bt (show 1 ≤ 4096 by omega), clone_ok h.bw' (show 8 ≤ 4096 by omega), clone_ok h.bf (show 8 ≤ 4096 by omega), clone_ok h.bd (show 8 ≤ 4096 by omega), clone_ok h.sb (show 1 ≤ 4096 by omega)]
theorem L_field_own {N : Nat} {s0 s1 s2 s3 s4 s5 s6 s7 s8 s9 s10 s11 s12 s13 s15 s21 s22 s23 s25 s26 s27 : Int} {s18 s20 : Bool} {s14 s16 s17 s19 s24 : Rows} (h : Fit s14 s16 s17 s19 s24) : c_field_own N [.int s0, .int s1, .int s2, .int s3, .int s4, .int s5, .int s6, .int s7, .int s8, .int s9, .int s10, .int s11, .int s12, .int s13, .rows s14, .int s15, .rows s16, .rows s17, .bool s18, .rows s19, .bool s20, .int s21, .int s22, .int s23, .rows s24, .int s25, .int s26, .int s27] = some [.int s0, .int s1, .int s2, .int s3, .int s4, .int s5, .int s6, .int s7, .int s8, .int s9, .int s10, .int s11, .int s12, .int s13, .rows s14, .int s15, .rows s16, .rows s17, .bool s18, .rows s19, .bool s20, .int s21, .int s22, .int s23, .rows s24, .int s25, .int s26, .int s27] := by
  show t_field_own (std (env_field_own N) N) (xOf _) = _
  simp only [t_field_own, e_field_own_slices_Clone_Status, e_field_own_slices_Clone_int, e_field_own_slices_Clone_bool, std, xOf, PXb, PXc, PXn, PXm, Nat.reduceAdd, Int.reduceBEq, c_slices_Clone_Status, c_slices_Clone_int, c_slices_Clone_bool, clone_ok h.bt (show 1 ≤ 4096 by omega), clone_ok h.bw' (show 8 ≤ 4096 by omega), clone_ok h.bf (show 8 ≤ 4096 by omega), clone_ok h.bd (show 8 ≤ 4096 by omega), clone_ok h.sb (show 1 ≤ 4096 by omega)]
theorem L_innings_Clone {N : Nat} {s0 s1 s2 s3 s4 s5 s6 s7 s8 s9 s10 s11 s12 s13 s15 s21 s22 s23 s25 s26 s27 : Int} {s18 s20 : Bool} {s14 s16 s17 s19 s24 : Rows} (h : Fit s14 s16 s17 s19 s24) : c_innings_Clone N [.int s0, .int s1, .int s2, .int s3, .int s4, .int s5, .int s6, .int s7, .int s8, .int s9, .int s10, .int s11, .int s12, .int s13, .rows s14, .int s15, .rows s16, .rows s17, .bool s18, .rows s19, .bool s20, .int s21, .int s22, .int s23, .rows s24, .int s25, .int s26, .int s27] = some [.int s0, .int s1, .int s2, .int s3, .int s4, .int s5, .int s6, .int s7, .int s8, .int s9, .int s10, .int s11, .int s12, .int s13, .rows s14, .int s15, .rows s16, .rows s17, .bool s18, .rows s19, .bool s20, .int s21, .int s22, .int s23, .rows s24, .int s25, .int s26, .int s27] := by
  show t_innings_Clone (std (env_innings_Clone N) N) (xOf _) = _
  simp only [t_innings_Clone, e_innings_Clone_slices_Clone_Status, e_innings_Clone_slices_Clone_int, e_innings_Clone_slices_Clone_bool, std, xOf, PXb, PXc, PXn, PXm, Nat.reduceAdd, Int.reduceBEq, c_slices_Clone_Status, c_slices_Clone_int, c_slices_Clone_bool, clone_ok h.bt (show 1 ≤ 4096 by omega), clone_ok h.bw' (show 8 ≤ 4096 by omega), clone_ok h.bf (show 8 ≤ 4096 by omega), clone_ok h.bd (show 8 ≤ 4096 by omega), clone_ok h.sb (show 1 ≤ 4096 by omega)]
theorem L_r14_Clone {N : Nat} {s0 s1 s2 s3 s4 s5 s6 s7 s8 s9 s10 s11 s12 s13 s15 s21 s22 s23 s25 s26 s27 : Int} {s18 s20 : Bool} {s14 s16 s17 s19 s24 : Rows} (h : Fit s14 s16 s17 s19 s24) : c_r14_Clone N [.int s0, .int s1, .int s2, .int s3, .int s4, .int s5, .int s6, .int s7, .int s8, .int s9, .int s10, .int s11, .int s12, .int s13, .rows s14, .int s15, .rows s16, .rows s17, .bool s18, .rows s19, .bool s20, .int s21, .int s22, .int s23, .rows s24, .int s25, .int s26, .int s27] = some [.int s0, .int s1, .int s2, .int s3, .int s4, .int s5, .int s6, .int s7, .int s8, .int s9, .int s10, .int s11, .int s12, .int s13, .rows s14, .int s15, .rows s16, .rows s17, .bool s18, .rows s19, .bool s20, .int s21, .int s22, .int s23, .rows s24, .int s25, .int s26, .int s27] := by
  show t_r14_Clone (std (env_r14_Clone N) N) (xOf _) = _
  simp only [t_r14_Clone, e_r14_Clone_r11_Clone, std, xOf, PXb, PXc, PXn, PXm, Nat.reduceAdd, Int.reduceBEq, L_r11_Clone h]
theorem L_spell_known {N : Nat} {s0 s1 s2 s3 s4 s5 s6 s7 s8 s9 s10 s11 s12 s13 s15 s21 s22 s23 s25 s26 s27 : Int} {s18 s20 : Bool} {s14 s16 s17 s19 s24 : Rows} {p : Int}  : c_spell_known N [.int s0, .int s1, .int s2, .int s3, .int s4, .int s5, .int s6, .int s7, .int s8, .int s9, .int s10, .int s11, .int s12, .int s13, .rows s14, .int s15, .rows s16, .rows s17, .bool s18, .rows s19, .bool s20, .int s21, .int s22, .int s23, .rows s24, .int s25, .int s26, .int s27, .int p] = some [.bool (inR p s19.length)] := by
  show t_spell_known (std (env_spell_known N) N) (xOf _) = _
  simp only [t_spell_known, std, xOf, PXb, PXc, PXn, PXm, Nat.reduceAdd, Int.reduceBEq]
  rfl
theorem L_field_known {N : Nat} {s0 s1 s2 s3 s4 s5 s6 s7 s8 s9 s10 s11 s12 s13 s15 s21 s22 s23 s25 s26 s27 : Int} {s18 s20 : Bool} {s14 s16 s17 s19 s24 : Rows} {p : Int}  : c_field_known N [.int s0, .int s1, .int s2, .int s3, .int s4, .int s5, .int s6, .int s7, .int s8, .int s9, .int s10, .int s11, .int s12, .int s13, .rows s14, .int s15, .rows s16, .rows s17, .bool s18, .rows s19, .bool s20, .int s21, .int s22, .int s23, .rows s24, .int s25, .int s26, .int s27, .int p] = some [.bool (inR p s24.length)] := by
  show t_field_known (std (env_field_known N) N) (xOf _) = _
  simp only [t_field_known, std, xOf, PXb, PXc, PXn, PXm, Nat.reduceAdd, Int.reduceBEq]
  rfl
def atB (L : Rows) (i j : Nat) : Bool := pvB (pvAt L i j)
theorem atB_def (L : Rows) (i j : Nat) : pvB (pvAt L i j) = atB L i j := rfl
theorem ix_def (p : Int) : (IntKind.i64.wrap (p - 1)).toNat = ix p := rfl
def replS (s : Inn) (p : Int) : Bool := inR p s.subs.length && atB s.subs (ix p) 0
theorem L_field_replaced {N : Nat} {s0 s1 s2 s3 s4 s5 s6 s7 s8 s9 s10 s11 s12 s13 s15 s21 s22 s23 s25 s26 s27 : Int} {s18 s20 : Bool} {s14 s16 s17 s19 s24 : Rows} {p : Int} (h : s24.length ≤ 1048576) : c_field_replaced N [.int s0, .int s1, .int s2, .int s3, .int s4, .int s5, .int s6, .int s7, .int s8, .int s9, .int s10, .int s11, .int s12, .int s13, .rows s14, .int s15, .rows s16, .rows s17, .bool s18, .rows s19, .bool s20, .int s21, .int s22, .int s23, .rows s24, .int s25, .int s26, .int s27, .int p] = some [.bool (replS (⟨s0, s1, s2, s3, s4, s5, s6, s7, s8, s9, s10, s11, s12, s13, s14, s15, s16, s17, s18, s19, s20, s21, s22, s23, s24, s25, s26, s27⟩ : Inn) p)] := by
  show t_field_replaced (std (env_field_replaced N) N) (xOf _) = _
  generalize hres : (some [.bool (replS (⟨s0, s1, s2, s3, s4, s5, s6, s7, s8, s9, s10, s11, s12, s13, s14, s15, s16, s17, s18, s19, s20, s21, s22, s23, s24, s25, s26, s27⟩ : Inn) p)] : Option (List PV)) = RR
  simp only [t_field_replaced, e_field_replaced_field_known, std, xOf, PXb, PXc, PXn, PXm, Nat.reduceAdd, Int.reduceBEq, L_field_known, c_in h]
  subst hres; simp only [replS]
  cases hp : inR p s24.length with
  | false => rfl
  | true => first | rfl | (rw [in_at hp h]; rfl)
def max0 (x : Int) : Int := cond (iLt x 0) 0 x
def roomS (r : Rul) (s : Inn) (p : Int) : Int :=
  cond (!inR p s.bowled.length || !(codeS r == 0)) 0 (cond (r.quota == 0) (-1) (max0 (IntKind.i64.wrap (IntKind.i64.wrap (r.quota * r.balls) - max0 (atI s.bowled (ix p) 0)))))
theorem room_cases (r : Rul) (s : Inn) (p : Int) : iLe 0 (roomS r s p) = !(roomS r s p == -1) := by
  unfold roomS
  cases (!inR p s.bowled.length || !(codeS r == 0)) with
  | true => rfl
  | false =>
    cases r.quota == 0 with
    | true => rfl
    | false =>
      simp only [cond_false]
      generalize IntKind.i64.wrap (IntKind.i64.wrap (r.quota * r.balls) - max0 (atI s.bowled (ix p) 0)) = x
      unfold max0
      cases h : iLt x 0 with
      | true => rfl
      | false =>
        simp only [iLt, decide_eq_false_iff_not] at h
        simp only [cond_false]
        have h1 : iLe 0 x = true := by simp only [iLe, decide_eq_true_eq]; omega
        have h2 : (x == -1) = false := by simp only [beq_eq_false_iff_ne]; omega
        rw [h1, h2]; rfl
theorem L_spell_Room {N : Nat} {r1 r2 r3 r4 r5 r6 r7 r9 r10 r11 r12 : Int} {r8 : Bool} {r0 : ByteArray} {r13 : Rows} {s0 s1 s2 s3 s4 s5 s6 s7 s8 s9 s10 s11 s12 s13 s15 s21 s22 s23 s25 s26 s27 : Int} {s18 s20 : Bool} {s14 s16 s17 s19 s24 : Rows} {p : Int} (h : Fit s14 s16 s17 s19 s24) (hN : 2097152 < N) (hs : r0.size ≤ 1048576) : c_spell_Room N [.str r0, .int r1, .int r2, .int r3, .int r4, .int r5, .int r6, .int r7, .bool r8, .int r9, .int r10, .int r11, .int r12, .rows r13, .int s0, .int s1, .int s2, .int s3, .int s4, .int s5, .int s6, .int s7, .int s8, .int s9, .int s10, .int s11, .int s12, .int s13, .rows s14, .int s15, .rows s16, .rows s17, .bool s18, .rows s19, .bool s20, .int s21, .int s22, .int s23, .rows s24, .int s25, .int s26, .int s27, .int p] = some [.int (roomS (⟨r0, r1, r2, r3, r4, r5, r6, r7, r8, r9, r10, r11, r12, r13⟩ : Rul) (⟨s0, s1, s2, s3, s4, s5, s6, s7, s8, s9, s10, s11, s12, s13, s14, s15, s16, s17, s18, s19, s20, s21, s22, s23, s24, s25, s26, s27⟩ : Inn) p)] := by
  show t_spell_Room (std (env_spell_Room N) N) (xOf _) = _
  generalize hres : (some [.int (roomS (⟨r0, r1, r2, r3, r4, r5, r6, r7, r8, r9, r10, r11, r12, r13⟩ : Rul) (⟨s0, s1, s2, s3, s4, s5, s6, s7, s8, s9, s10, s11, s12, s13, s14, s15, s16, s17, s18, s19, s20, s21, s22, s23, s24, s25, s26, s27⟩ : Inn) p)] : Option (List PV)) = RR
  simp only [t_spell_Room, e_spell_Room_rules_Check, e_spell_Room_spell_known, std, xOf, PXb, PXc, PXn, PXm, Nat.reduceAdd, Int.reduceBEq, L_rules_Check hN hs, L_spell_known]
  subst hres; simp only [roomS]
  cases hp : inR p s19.length with
  | false => rfl
  | true => rw [in_at hp h.bd]; cases codeS (⟨r0, r1, r2, r3, r4, r5, r6, r7, r8, r9, r10, r11, r12, r13⟩ : Rul) == 0 <;> cases r5 == 0 <;> rfl
theorem L_slices_Contains_int {N : Nat} {L : Rows} {v : Int} (hN : 2097152 < N) (hl : L.length ≤ 1048576) : c_slices_Contains_int N [.rows L, .int v] = some [.bool (hasI L L.length v)] := by
  exact LL_slices_Contains_int N L v (by omega) (by omega)
def mayBowl (r : Rul) (s : Inn) (p : Int) : Int :=
  cond (!inR p s.bowled.length || !(codeS r == 0)) 3 (cond (p == s.keeper || p == s.bowler || replS s p) 7
    (cond (hasI s.before s.before.length p) 8 (cond (!(roomS r s p == -1) && iLt s.inover (IntKind.i64.wrap (r.balls - roomS r s p))) 9 0)))
theorem inR_lo {p : Int} {n m : Nat} (h : inR p n = true) : inR p m = iLe p (m : Int) := by
  unfold inR at h ⊢
  rw [Bool.and_eq_true] at h
  rw [h.1, Bool.true_and]
theorem L_spell_May {N : Nat} {r1 r2 r3 r4 r5 r6 r7 r9 r10 r11 r12 : Int} {r8 : Bool} {r0 : ByteArray} {r13 : Rows} {s0 s1 s2 s3 s4 s5 s6 s7 s8 s9 s10 s11 s12 s13 s15 s21 s22 s23 s25 s26 s27 : Int} {s18 s20 : Bool} {s14 s16 s17 s19 s24 : Rows} {p : Int} (h : Fit s14 s16 s17 s19 s24) (hN : 2097152 < N) (hs : r0.size ≤ 1048576) : c_spell_May N [.str r0, .int r1, .int r2, .int r3, .int r4, .int r5, .int r6, .int r7, .bool r8, .int r9, .int r10, .int r11, .int r12, .rows r13, .int s0, .int s1, .int s2, .int s3, .int s4, .int s5, .int s6, .int s7, .int s8, .int s9, .int s10, .int s11, .int s12, .int s13, .rows s14, .int s15, .rows s16, .rows s17, .bool s18, .rows s19, .bool s20, .int s21, .int s22, .int s23, .rows s24, .int s25, .int s26, .int s27, .int p] = some [.int (mayBowl (⟨r0, r1, r2, r3, r4, r5, r6, r7, r8, r9, r10, r11, r12, r13⟩ : Rul) (⟨s0, s1, s2, s3, s4, s5, s6, s7, s8, s9, s10, s11, s12, s13, s14, s15, s16, s17, s18, s19, s20, s21, s22, s23, s24, s25, s26, s27⟩ : Inn) p)] := by
  show t_spell_May (std (env_spell_May N) N) (xOf _) = _
  generalize hres : (some [.int (mayBowl (⟨r0, r1, r2, r3, r4, r5, r6, r7, r8, r9, r10, r11, r12, r13⟩ : Rul) (⟨s0, s1, s2, s3, s4, s5, s6, s7, s8, s9, s10, s11, s12, s13, s14, s15, s16, s17, s18, s19, s20, s21, s22, s23, s24, s25, s26, s27⟩ : Inn) p)] : Option (List PV)) = RR
  simp only [t_spell_May, e_spell_May_rules_Check, e_spell_May_slices_Contains_int, e_spell_May_spell_known, e_spell_May_spell_Room, std, xOf, PXb, PXc, PXn, PXm, Nat.reduceAdd, Int.reduceBEq, L_rules_Check hN hs, L_spell_known, L_spell_Room h hN hs, L_slices_Contains_int hN h.bf]
  subst hres; simp only [mayBowl, replS]
  cases hp : inR p s19.length with
  | false => rfl
  | true =>
    rw [inR_lo (m := s24.length) hp]
    have hq : (!(iLe p (s24.length : Int)) || iIn (IntKind.i64.wrap (p - 1)) (s24.length : Int)) = true := by
      cases h1 : iLe p (s24.length : Int) with
      | false => rfl
      | true => rw [in_at (by rw [inR_lo hp]; exact h1) h.sb]; rfl
    rw [hq]
    cases codeS (⟨r0, r1, r2, r3, r4, r5, r6, r7, r8, r9, r10, r11, r12, r13⟩ : Rul) == 0 <;> rfl
def takeS (r : Rul) (s : Inn) (p : Int) : Inn × Int := (cond (mayBowl r s p == 0) { s with bowler := p } s, mayBowl r s p)
theorem L_spell_Take {N : Nat} {r1 r2 r3 r4 r5 r6 r7 r9 r10 r11 r12 : Int} {r8 : Bool} {r0 : ByteArray} {r13 : Rows} {s0 s1 s2 s3 s4 s5 s6 s7 s8 s9 s10 s11 s12 s13 s15 s21 s22 s23 s25 s26 s27 : Int} {s18 s20 : Bool} {s14 s16 s17 s19 s24 : Rows} {p : Int} (h : Fit s14 s16 s17 s19 s24) (hN : 2097152 < N) (hs : r0.size ≤ 1048576) : c_spell_Take N [.str r0, .int r1, .int r2, .int r3, .int r4, .int r5, .int r6, .int r7, .bool r8, .int r9, .int r10, .int r11, .int r12, .rows r13, .int s0, .int s1, .int s2, .int s3, .int s4, .int s5, .int s6, .int s7, .int s8, .int s9, .int s10, .int s11, .int s12, .int s13, .rows s14, .int s15, .rows s16, .rows s17, .bool s18, .rows s19, .bool s20, .int s21, .int s22, .int s23, .rows s24, .int s25, .int s26, .int s27, .int p] = some (lawLs (takeS (⟨r0, r1, r2, r3, r4, r5, r6, r7, r8, r9, r10, r11, r12, r13⟩ : Rul) (⟨s0, s1, s2, s3, s4, s5, s6, s7, s8, s9, s10, s11, s12, s13, s14, s15, s16, s17, s18, s19, s20, s21, s22, s23, s24, s25, s26, s27⟩ : Inn) p)) := by
  show t_spell_Take (std (env_spell_Take N) N) (xOf _) = _
  generalize hres : (some (lawLs (takeS (⟨r0, r1, r2, r3, r4, r5, r6, r7, r8, r9, r10, r11, r12, r13⟩ : Rul) (⟨s0, s1, s2, s3, s4, s5, s6, s7, s8, s9, s10, s11, s12, s13, s14, s15, s16, s17, s18, s19, s20, s21, s22, s23, s24, s25, s26, s27⟩ : Inn) p)) : Option (List PV)) = RR
  simp only [t_spell_Take, e_spell_Take_spell_own, e_spell_Take_spell_May, std, xOf, PXb, PXc, PXn, PXm, Nat.reduceAdd, Int.reduceBEq, L_spell_own h, L_spell_May h hN hs]
  subst hres; simp only [takeS]
  cases mayBowl (⟨r0, r1, r2, r3, r4, r5, r6, r7, r8, r9, r10, r11, r12, r13⟩ : Rul) (⟨s0, s1, s2, s3, s4, s5, s6, s7, s8, s9, s10, s11, s12, s13, s14, s15, s16, s17, s18, s19, s20, s21, s22, s23, s24, s25, s26, s27⟩ : Inn) p == 0 <;> rfl
/-- A state and an answer. -/
def ynLs (x : Inn × Bool) : List PV := [.int x.1.side, .int x.1.target, .int x.1.overs, .int x.1.runs, .int x.1.wickets, .int x.1.wides, .int x.1.noballs, .int x.1.byes, .int x.1.legbyes, .int x.1.pens, .int x.1.complete, .int x.1.inover, .int x.1.striker, .int x.1.other, .rows x.1.batters, .int x.1.bowler, .rows x.1.bowlers, .rows x.1.before, .bool x.1.fresh, .rows x.1.bowled, .bool x.1.freehit, .int x.1.ballage, .int x.1.keeper, .int x.1.outside, .rows x.1.subs, .int x.1.rev1, .int x.1.rev2, .int x.1.ending, .bool x.2]
def inc (x : Int) : Int := IntKind.i64.wrap (x + 1)
def overS (r : Rul) (s : Inn) (counts : Bool) : Inn × Bool :=
  cond (!inR s.bowler s.bowled.length || !(codeS r == 0)) (s, false)
    (let L := cond (hasI s.bowlers s.bowlers.length s.bowler) s.bowlers (s.bowlers ++ [[.int s.bowler]])
     let o := cond counts (inc s.inover) s.inover
     let t : Inn := { s with bowlers := L, bowled := cond counts (setI s.bowled s.bowler (inc (atI s.bowled (ix s.bowler) 0))) s.bowled, inover := o, ballage := cond counts (inc s.ballage) s.ballage }
     cond (iLt o r.balls) (t, false) ({ t with complete := inc s.complete, inover := 0, before := L, bowlers := [], bowler := 0 }, true))
theorem L_spell_Ball {N : Nat} {r1 r2 r3 r4 r5 r6 r7 r9 r10 r11 r12 : Int} {r8 : Bool} {r0 : ByteArray} {r13 : Rows} {s0 s1 s2 s3 s4 s5 s6 s7 s8 s9 s10 s11 s12 s13 s15 s21 s22 s23 s25 s26 s27 : Int} {s18 s20 : Bool} {s14 s16 s17 s19 s24 : Rows} {b : Bool} (h : Fit s14 s16 s17 s19 s24) (hw : s16.length ≤ 1048575) (hN : 2097152 < N) (hs : r0.size ≤ 1048576) : c_spell_Ball N [.str r0, .int r1, .int r2, .int r3, .int r4, .int r5, .int r6, .int r7, .bool r8, .int r9, .int r10, .int r11, .int r12, .rows r13, .int s0, .int s1, .int s2, .int s3, .int s4, .int s5, .int s6, .int s7, .int s8, .int s9, .int s10, .int s11, .int s12, .int s13, .rows s14, .int s15, .rows s16, .rows s17, .bool s18, .rows s19, .bool s20, .int s21, .int s22, .int s23, .rows s24, .int s25, .int s26, .int s27, .bool b] = some (ynLs (overS (⟨r0, r1, r2, r3, r4, r5, r6, r7, r8, r9, r10, r11, r12, r13⟩ : Rul) (⟨s0, s1, s2, s3, s4, s5, s6, s7, s8, s9, s10, s11, s12, s13, s14, s15, s16, s17, s18, s19, s20, s21, s22, s23, s24, s25, s26, s27⟩ : Inn) b)) := by
  show t_spell_Ball (std (env_spell_Ball N) N) (xOf _) = _
  generalize hres : (some (ynLs (overS (⟨r0, r1, r2, r3, r4, r5, r6, r7, r8, r9, r10, r11, r12, r13⟩ : Rul) (⟨s0, s1, s2, s3, s4, s5, s6, s7, s8, s9, s10, s11, s12, s13, s14, s15, s16, s17, s18, s19, s20, s21, s22, s23, s24, s25, s26, s27⟩ : Inn) b)) : Option (List PV)) = RR
  have ha : (s16 ++ [[PV.int s15]]).length ≤ 1048576 := by simp; omega
  simp only [t_spell_Ball, e_spell_Ball_rules_Check, e_spell_Ball_slices_Contains_int, e_spell_Ball_spell_own, e_spell_Ball_spell_known, std, xOf, PXb, PXc, PXn, PXm, Nat.reduceAdd, Int.reduceBEq, L_spell_own h, L_spell_known, L_rules_Check hN hs, L_slices_Contains_int hN h.bw', fit_sm ha (show 8 ≤ 4096 by omega)]
  subst hres; simp only [overS]
  cases hp : inR s15 s19.length with
  | false => rfl
  | true => 
    rw [in_at hp h.bd]
    cases codeS (⟨r0, r1, r2, r3, r4, r5, r6, r7, r8, r9, r10, r11, r12, r13⟩ : Rul) == 0 <;> try rfl
    cases hasI s16 s16.length s15 <;> cases b <;> simp only [PXb, PXc, PXn, PXm, Nat.reduceAdd, Int.reduceBEq, inc]
    all_goals first | (cases iLt s11 r4 <;> rfl) | (cases iLt (IntKind.i64.wrap (s11 + 1)) r4 <;> rfl)
def newBallS (r : Rul) (s : Inn) : Inn × Int :=
  cond (!(codeS r == 0) || r.newball == 0 || iLt s.ballage (IntKind.i64.wrap (r.newball * r.balls))) (s, 22) ({ s with ballage := 0 }, 0)
theorem L_spell_NewBall {N : Nat} {r1 r2 r3 r4 r5 r6 r7 r9 r10 r11 r12 : Int} {r8 : Bool} {r0 : ByteArray} {r13 : Rows} {s0 s1 s2 s3 s4 s5 s6 s7 s8 s9 s10 s11 s12 s13 s15 s21 s22 s23 s25 s26 s27 : Int} {s18 s20 : Bool} {s14 s16 s17 s19 s24 : Rows} (h : Fit s14 s16 s17 s19 s24) (hN : 2097152 < N) (hs : r0.size ≤ 1048576) : c_spell_NewBall N [.str r0, .int r1, .int r2, .int r3, .int r4, .int r5, .int r6, .int r7, .bool r8, .int r9, .int r10, .int r11, .int r12, .rows r13, .int s0, .int s1, .int s2, .int s3, .int s4, .int s5, .int s6, .int s7, .int s8, .int s9, .int s10, .int s11, .int s12, .int s13, .rows s14, .int s15, .rows s16, .rows s17, .bool s18, .rows s19, .bool s20, .int s21, .int s22, .int s23, .rows s24, .int s25, .int s26, .int s27] = some (lawLs (newBallS (⟨r0, r1, r2, r3, r4, r5, r6, r7, r8, r9, r10, r11, r12, r13⟩ : Rul) (⟨s0, s1, s2, s3, s4, s5, s6, s7, s8, s9, s10, s11, s12, s13, s14, s15, s16, s17, s18, s19, s20, s21, s22, s23, s24, s25, s26, s27⟩ : Inn))) := by
  show t_spell_NewBall (std (env_spell_NewBall N) N) (xOf _) = _
  generalize hres : (some (lawLs (newBallS (⟨r0, r1, r2, r3, r4, r5, r6, r7, r8, r9, r10, r11, r12, r13⟩ : Rul) (⟨s0, s1, s2, s3, s4, s5, s6, s7, s8, s9, s10, s11, s12, s13, s14, s15, s16, s17, s18, s19, s20, s21, s22, s23, s24, s25, s26, s27⟩ : Inn))) : Option (List PV)) = RR
  simp only [t_spell_NewBall, e_spell_NewBall_rules_Check, e_spell_NewBall_spell_own, std, xOf, PXb, PXc, PXn, PXm, Nat.reduceAdd, Int.reduceBEq, L_spell_own h, L_rules_Check hN hs]
  subst hres; simp only [newBallS]
  cases (!(codeS (⟨r0, r1, r2, r3, r4, r5, r6, r7, r8, r9, r10, r11, r12, r13⟩ : Rul) == 0) || r9 == 0 || iLt s21 (IntKind.i64.wrap (r9 * r4))) <;> rfl
end Go.Px
end

section
namespace Go.Px
set_option linter.unusedVariables false
set_option linter.unusedSimpArgs false
set_option maxRecDepth 100000

def allowS (r : Rul) (over : Int) : Int :=
  match findR (fun i => cond (iLe (atI r.power i 0) (inc over) && iLe (inc over) (atI r.power i 1)) (some [.int (atI r.power i 2)]) none) r.power.length 0 with
  | some x => pvI (cellAt x 0)
  | none => r.outside
theorem L_rules_Allowed {N : Nat} {r1 r2 r3 r4 r5 r6 r7 r9 r10 r11 r12 : Int} {r8 : Bool} {r0 : ByteArray} {r13 : Rows} {o : Int} (hN : 2097152 < N) (h13 : r13.length ≤ 1048576) : c_rules_Allowed N [.str r0, .int r1, .int r2, .int r3, .int r4, .int r5, .int r6, .int r7, .bool r8, .int r9, .int r10, .int r11, .int r12, .rows r13, .int o] = some [.int (allowS (⟨r0, r1, r2, r3, r4, r5, r6, r7, r8, r9, r10, r11, r12, r13⟩ : Rul) o)] := by
  show t_rules_Allowed (std (env_rules_Allowed N) N) (xOf _) = _
  simp only [t_rules_Allowed, std, xOf, PXb, PXc, PXn, bind_c]
  refine bind_loop (iter_find (len := r13.length) (fun i => cond (iLe (atI r13 i 0) (inc o) && iLe (inc o) (atI r13 i 1)) (some [.int (atI r13 i 2)]) none) ?_ ?_ r13.length 0 N (by omega) (by omega)) ?_
  · intro self
    simp only [PXb, PXc, PXn, bind_c, ge_len]
  · intro i self hi
    simp only [PXb, PXc, PXn, bind_c, wrap_nat (show i ≤ 1099511627776 by omega), lt_len hi, in_range hi]
    cases hq : iLe (atI r13 i 0) (inc o) && iLe (inc o) (atI r13 i 1) <;> unfold inc atI at hq <;> rw [hq] <;> rfl
  · unfold allowS
    cases findR (fun i => cond (iLe (atI r13 i 0) (inc o) && iLe (inc o) (atI r13 i 1)) (some [.int (atI r13 i 2)]) none) r13.length 0 <;> rfl
def keeperS (s : Inn) (p : Int) : Inn × Int :=
  cond (!inR p s.subs.length) (s, 3) (cond (replS s p) (s, 18) (cond (p == s.bowler || p == s.keeper) (s, 17) ({ s with keeper := p }, 0)))
theorem L_field_Keeper {N : Nat} {s0 s1 s2 s3 s4 s5 s6 s7 s8 s9 s10 s11 s12 s13 s15 s21 s22 s23 s25 s26 s27 : Int} {s18 s20 : Bool} {s14 s16 s17 s19 s24 : Rows} {p : Int} (h : Fit s14 s16 s17 s19 s24) : c_field_Keeper N [.int s0, .int s1, .int s2, .int s3, .int s4, .int s5, .int s6, .int s7, .int s8, .int s9, .int s10, .int s11, .int s12, .int s13, .rows s14, .int s15, .rows s16, .rows s17, .bool s18, .rows s19, .bool s20, .int s21, .int s22, .int s23, .rows s24, .int s25, .int s26, .int s27, .int p] = some (lawLs (keeperS (⟨s0, s1, s2, s3, s4, s5, s6, s7, s8, s9, s10, s11, s12, s13, s14, s15, s16, s17, s18, s19, s20, s21, s22, s23, s24, s25, s26, s27⟩ : Inn) p)) := by
  show t_field_Keeper (std (env_field_Keeper N) N) (xOf _) = _
  generalize hres : (some (lawLs (keeperS (⟨s0, s1, s2, s3, s4, s5, s6, s7, s8, s9, s10, s11, s12, s13, s14, s15, s16, s17, s18, s19, s20, s21, s22, s23, s24, s25, s26, s27⟩ : Inn) p)) : Option (List PV)) = RR
  simp only [t_field_Keeper, e_field_Keeper_field_own, e_field_Keeper_field_known, e_field_Keeper_field_replaced, std, xOf, PXb, PXc, PXn, PXm, Nat.reduceAdd, Int.reduceBEq, L_field_own h, L_field_known, L_field_replaced h.sb]
  subst hres; simp only [keeperS]
  cases inR p s24.length <;> cases replS (⟨s0, s1, s2, s3, s4, s5, s6, s7, s8, s9, s10, s11, s12, s13, s14, s15, s16, s17, s18, s19, s20, s21, s22, s23, s24, s25, s26, s27⟩ : Inn) p <;> cases p == s15 <;> cases p == s22 <;> rfl
def substS (s : Inn) (p : Int) (on : Bool) : Inn × Int :=
  cond (!inR p s.subs.length) (s, 3) (cond (replS s p == on) (s, 18)
    ({ s with subs := setB s.subs p on, keeper := cond (on && s.keeper == p) 0 s.keeper, bowler := cond (on && s.bowler == p) 0 s.bowler }, 0))
theorem L_field_Substitute {N : Nat} {s0 s1 s2 s3 s4 s5 s6 s7 s8 s9 s10 s11 s12 s13 s15 s21 s22 s23 s25 s26 s27 : Int} {s18 s20 : Bool} {s14 s16 s17 s19 s24 : Rows} {p : Int} {b : Bool} (h : Fit s14 s16 s17 s19 s24) : c_field_Substitute N [.int s0, .int s1, .int s2, .int s3, .int s4, .int s5, .int s6, .int s7, .int s8, .int s9, .int s10, .int s11, .int s12, .int s13, .rows s14, .int s15, .rows s16, .rows s17, .bool s18, .rows s19, .bool s20, .int s21, .int s22, .int s23, .rows s24, .int s25, .int s26, .int s27, .int p, .bool b] = some (lawLs (substS (⟨s0, s1, s2, s3, s4, s5, s6, s7, s8, s9, s10, s11, s12, s13, s14, s15, s16, s17, s18, s19, s20, s21, s22, s23, s24, s25, s26, s27⟩ : Inn) p b)) := by
  show t_field_Substitute (std (env_field_Substitute N) N) (xOf _) = _
  generalize hres : (some (lawLs (substS (⟨s0, s1, s2, s3, s4, s5, s6, s7, s8, s9, s10, s11, s12, s13, s14, s15, s16, s17, s18, s19, s20, s21, s22, s23, s24, s25, s26, s27⟩ : Inn) p b)) : Option (List PV)) = RR
  simp only [t_field_Substitute, e_field_Substitute_field_own, e_field_Substitute_field_known, e_field_Substitute_field_replaced, std, xOf, PXb, PXc, PXn, PXm, Nat.reduceAdd, Int.reduceBEq, L_field_own h, L_field_known, L_field_replaced h.sb]
  subst hres; simp only [substS]
  cases hp : inR p s24.length <;> try rfl
  rw [in_at hp h.sb]
  cases replS (⟨s0, s1, s2, s3, s4, s5, s6, s7, s8, s9, s10, s11, s12, s13, s14, s15, s16, s17, s18, s19, s20, s21, s22, s23, s24, s25, s26, s27⟩ : Inn) p == b <;> cases b <;> cases s22 == p <;> cases s15 == p <;> rfl
def outsideS (s : Inn) (n : Int) : Inn × Int :=
  cond (iLt n 0 || iLt (IntKind.i64.wrap ((s.subs.length : Int) - 2)) n) (s, 16) ({ s with outside := n }, 0)
theorem L_field_Outside {N : Nat} {s0 s1 s2 s3 s4 s5 s6 s7 s8 s9 s10 s11 s12 s13 s15 s21 s22 s23 s25 s26 s27 : Int} {s18 s20 : Bool} {s14 s16 s17 s19 s24 : Rows} {n : Int} (h : Fit s14 s16 s17 s19 s24) : c_field_Outside N [.int s0, .int s1, .int s2, .int s3, .int s4, .int s5, .int s6, .int s7, .int s8, .int s9, .int s10, .int s11, .int s12, .int s13, .rows s14, .int s15, .rows s16, .rows s17, .bool s18, .rows s19, .bool s20, .int s21, .int s22, .int s23, .rows s24, .int s25, .int s26, .int s27, .int n] = some (lawLs (outsideS (⟨s0, s1, s2, s3, s4, s5, s6, s7, s8, s9, s10, s11, s12, s13, s14, s15, s16, s17, s18, s19, s20, s21, s22, s23, s24, s25, s26, s27⟩ : Inn) n)) := by
  show t_field_Outside (std (env_field_Outside N) N) (xOf _) = _
  generalize hres : (some (lawLs (outsideS (⟨s0, s1, s2, s3, s4, s5, s6, s7, s8, s9, s10, s11, s12, s13, s14, s15, s16, s17, s18, s19, s20, s21, s22, s23, s24, s25, s26, s27⟩ : Inn) n)) : Option (List PV)) = RR
  simp only [t_field_Outside, e_field_Outside_field_own, std, xOf, PXb, PXc, PXn, PXm, Nat.reduceAdd, Int.reduceBEq, L_field_own h]
  subst hres; simp only [outsideS]
  cases (iLt n 0 || iLt (IntKind.i64.wrap ((s24.length : Int) - 2)) n) <;> rfl
def readyS (r : Rul) (s : Inn) : Int :=
  cond (!inR s.keeper s.subs.length || replS s s.keeper || s.keeper == s.bowler) 17 (cond (iLt (allowS r s.complete) s.outside) 16 0)
theorem L_field_Ready {N : Nat} {r1 r2 r3 r4 r5 r6 r7 r9 r10 r11 r12 : Int} {r8 : Bool} {r0 : ByteArray} {r13 : Rows} {s0 s1 s2 s3 s4 s5 s6 s7 s8 s9 s10 s11 s12 s13 s15 s21 s22 s23 s25 s26 s27 : Int} {s18 s20 : Bool} {s14 s16 s17 s19 s24 : Rows} (h : Fit s14 s16 s17 s19 s24) (hN : 2097152 < N) (h13 : r13.length ≤ 1048576) : c_field_Ready N [.str r0, .int r1, .int r2, .int r3, .int r4, .int r5, .int r6, .int r7, .bool r8, .int r9, .int r10, .int r11, .int r12, .rows r13, .int s0, .int s1, .int s2, .int s3, .int s4, .int s5, .int s6, .int s7, .int s8, .int s9, .int s10, .int s11, .int s12, .int s13, .rows s14, .int s15, .rows s16, .rows s17, .bool s18, .rows s19, .bool s20, .int s21, .int s22, .int s23, .rows s24, .int s25, .int s26, .int s27] = some [.int (readyS (⟨r0, r1, r2, r3, r4, r5, r6, r7, r8, r9, r10, r11, r12, r13⟩ : Rul) (⟨s0, s1, s2, s3, s4, s5, s6, s7, s8, s9, s10, s11, s12, s13, s14, s15, s16, s17, s18, s19, s20, s21, s22, s23, s24, s25, s26, s27⟩ : Inn))] := by
  show t_field_Ready (std (env_field_Ready N) N) (xOf _) = _
  generalize hres : (some [.int (readyS (⟨r0, r1, r2, r3, r4, r5, r6, r7, r8, r9, r10, r11, r12, r13⟩ : Rul) (⟨s0, s1, s2, s3, s4, s5, s6, s7, s8, s9, s10, s11, s12, s13, s14, s15, s16, s17, s18, s19, s20, s21, s22, s23, s24, s25, s26, s27⟩ : Inn))] : Option (List PV)) = RR
  simp only [t_field_Ready, e_field_Ready_field_known, e_field_Ready_field_replaced, e_field_Ready_rules_Allowed, std, xOf, PXb, PXc, PXn, PXm, Nat.reduceAdd, Int.reduceBEq, L_field_known, L_field_replaced h.sb, L_rules_Allowed hN h13]
  subst hres; simp only [readyS]
  cases inR s22 s24.length <;> cases replS (⟨s0, s1, s2, s3, s4, s5, s6, s7, s8, s9, s10, s11, s12, s13, s14, s15, s16, s17, s18, s19, s20, s21, s22, s23, s24, s25, s26, s27⟩ : Inn) s22 <;> cases s22 == s15 <;> rfl
def namedS (s : Inn) (d : Del) : Int :=
  cond (iLt 0 d.fielder && !inR d.fielder s.subs.length) 3 (cond (iLt 0 d.fielder && !(d.sub == replS s d.fielder)) 18
    (cond (iLt 0 d.second && !inR d.second s.subs.length) 3 (cond (iLt 0 d.second && replS s d.second) 18
      (cond (d.how == 4 && !(max0 d.fielder == s.keeper)) 17 0))))
theorem L_field_Named {N : Nat} {s0 s1 s2 s3 s4 s5 s6 s7 s8 s9 s10 s11 s12 s13 s15 s21 s22 s23 s25 s26 s27 : Int} {s18 s20 : Bool} {s14 s16 s17 s19 s24 : Rows} {d0 d1 d2 d3 d4 d6 d7 d8 d9 d11 : Int} {d5 d10 : Bool} (h : Fit s14 s16 s17 s19 s24) : c_field_Named N [.int s0, .int s1, .int s2, .int s3, .int s4, .int s5, .int s6, .int s7, .int s8, .int s9, .int s10, .int s11, .int s12, .int s13, .rows s14, .int s15, .rows s16, .rows s17, .bool s18, .rows s19, .bool s20, .int s21, .int s22, .int s23, .rows s24, .int s25, .int s26, .int s27, .int d0, .int d1, .int d2, .int d3, .int d4, .bool d5, .int d6, .int d7, .int d8, .int d9, .bool d10, .int d11] = some [.int (namedS (⟨s0, s1, s2, s3, s4, s5, s6, s7, s8, s9, s10, s11, s12, s13, s14, s15, s16, s17, s18, s19, s20, s21, s22, s23, s24, s25, s26, s27⟩ : Inn) (⟨d0, d1, d2, d3, d4, d5, d6, d7, d8, d9, d10, d11⟩ : Del))] := by
  show t_field_Named (std (env_field_Named N) N) (xOf _) = _
  generalize hres : (some [.int (namedS (⟨s0, s1, s2, s3, s4, s5, s6, s7, s8, s9, s10, s11, s12, s13, s14, s15, s16, s17, s18, s19, s20, s21, s22, s23, s24, s25, s26, s27⟩ : Inn) (⟨d0, d1, d2, d3, d4, d5, d6, d7, d8, d9, d10, d11⟩ : Del))] : Option (List PV)) = RR
  simp only [t_field_Named, e_field_Named_field_known, e_field_Named_field_replaced, std, xOf, PXb, PXc, PXn, PXm, Nat.reduceAdd, Int.reduceBEq, L_field_known, L_field_replaced h.sb]
  subst hres; simp only [namedS, max0, eq_c]
  cases iLt 0 d8 <;> cases iLt 0 d9 <;> cases inR d8 s24.length <;> cases inR d9 s24.length <;> cases d10 == replS (⟨s0, s1, s2, s3, s4, s5, s6, s7, s8, s9, s10, s11, s12, s13, s14, s15, s16, s17, s18, s19, s20, s21, s22, s23, s24, s25, s26, s27⟩ : Inn) d8 <;> cases replS (⟨s0, s1, s2, s3, s4, s5, s6, s7, s8, s9, s10, s11, s12, s13, s14, s15, s16, s17, s18, s19, s20, s21, s22, s23, s24, s25, s26, s27⟩ : Inn) d9 <;> rfl
end Go.Px
end

section
namespace Go.Px
set_option linter.unusedVariables false
set_option linter.unusedSimpArgs false
set_option maxRecDepth 100000

structure Cre where
  batter : Int
  wides : Int
  noballs : Int
  byes : Int
  legbyes : Int
  bowler : Int
  counts : Bool
  faced : Bool
  wicket : Bool
  swap : Bool
def Cre.ls (c : Cre) : List PV := [.int c.batter, .int c.wides, .int c.noballs, .int c.byes, .int c.legbyes, .int c.bowler, .bool c.counts, .bool c.faced, .bool c.wicket, .bool c.swap]
def togetherS (d : Del) : Bool :=
  cond (d.type == 2) (d.source == 0 && !(d.boundary == 6)) (cond (d.source == 0) (d.runs == 0 && d.boundary == 0)
    (cond (d.boundary == 0) (iLt 0 d.runs) (cond (d.boundary == 6) (d.source == 1 && d.runs == 0) true)))
def legalS (d : Del) : Int :=
  cond (iLt d.type 1 || iLt 3 d.type || iLt 3 d.source || iLt 10 d.how || !btw d.sector 0 8) 11
    (cond (!btw d.runs 0 7 || !btw d.short 0 d.runs || (!(d.boundary == 0) && !(d.boundary == 4) && !(d.boundary == 6))) 12
      (cond (!togetherS d) 11 (cond (!(d.sector == 0) && !(d.source == 1) && !(d.how == 2)) 11 (cond (!(d.boundary == 0) && !(d.how == 0)) 11
        (cond (d.crossed && !(d.how == 6) && !(d.how == 8)) 11 0)))))
def oldTogether (d : Del) : Bool :=
  cond (d.type == 2) (d.source == 0 && !(d.boundary == 6)) (cond (d.source == 0) (d.runs == 0 && d.boundary == 0)
    (cond (d.source == 1) (!(d.boundary == 6) || d.runs == 0) (!(d.boundary == 6) && (iLt 0 d.runs || !(d.boundary == 0)))))
theorem L_delivery_together {N : Nat} {d0 d1 d2 d3 d4 d6 d7 d8 d9 d11 : Int} {d5 d10 : Bool}  : c_delivery_together N [.int d0, .int d1, .int d2, .int d3, .int d4, .bool d5, .int d6, .int d7, .int d8, .int d9, .bool d10, .int d11] = some [.bool (oldTogether (⟨d0, d1, d2, d3, d4, d5, d6, d7, d8, d9, d10, d11⟩ : Del))] := by
  show t_delivery_together (std (env_delivery_together N) N) (xOf _) = _
  generalize hres : (some [.bool (oldTogether (⟨d0, d1, d2, d3, d4, d5, d6, d7, d8, d9, d10, d11⟩ : Del))] : Option (List PV)) = RR
  simp only [t_delivery_together, std, xOf, PXb, PXc, PXn, PXm, Nat.reduceAdd, Int.reduceBEq]
  subst hres; simp only [oldTogether]
theorem nbtw (x a b : Int) : (!btw x a b) = (iLt x a || iLt b x) := by
  unfold btw iLe iLt
  rw [Bool.eq_iff_iff]
  simp only [Bool.not_eq_true', Bool.and_eq_false_iff, decide_eq_false_iff_not, Bool.or_eq_true, decide_eq_true_eq]
  omega
theorem old_new {d : Del} (h : 0 ≤ d.runs) : (!oldTogether d || !d.type == 2 && d.source == 1 && d.runs == 0 && d.boundary == 0) = !togetherS d := by
  unfold oldTogether togetherS
  rw [pos_not h]
  cases h1 : d.source == 0 with
  | true =>
    rw [eqne h1 (c := 1) rfl]
    cases d.type == 2 <;> cases d.runs == 0 <;> cases d.boundary == 0 <;> cases d.boundary == 6 <;> rfl
  | false =>
    cases h2 : d.boundary == 0 with
    | true =>
      rw [eqne h2 (c := 6) rfl]
      cases d.type == 2 <;> cases d.source == 1 <;> cases d.runs == 0 <;> rfl
    | false => cases d.type == 2 <;> cases d.source == 1 <;> cases d.runs == 0 <;> cases d.boundary == 6 <;> rfl
theorem L_delivery_Legal {N : Nat} {d0 d1 d2 d3 d4 d6 d7 d8 d9 d11 : Int} {d5 d10 : Bool}  : c_delivery_Legal N [.int d0, .int d1, .int d2, .int d3, .int d4, .bool d5, .int d6, .int d7, .int d8, .int d9, .bool d10, .int d11] = some [.int (legalS (⟨d0, d1, d2, d3, d4, d5, d6, d7, d8, d9, d10, d11⟩ : Del))] := by
  show t_delivery_Legal (std (env_delivery_Legal N) N) (xOf _) = _
  generalize hres : (some [.int (legalS (⟨d0, d1, d2, d3, d4, d5, d6, d7, d8, d9, d10, d11⟩ : Del))] : Option (List PV)) = RR
  simp only [t_delivery_Legal, e_delivery_Legal_delivery_together, std, xOf, PXb, PXc, PXn, PXm, Nat.reduceAdd, Int.reduceBEq, L_delivery_together]
  subst hres; simp only [legalS, nbtw, Bool.or_assoc]
  cases h2 : (iLt d2 0 || (iLt 7 d2 || (iLt d3 0 || (iLt d2 d3 || !d4 == 0 && !d4 == 4 && !d4 == 6)))) with
  | true => rfl
  | false =>
    have h3 : 0 ≤ d2 := by
      rw [Bool.or_eq_false_iff] at h2
      have := h2.1
      simp only [iLt, decide_eq_false_iff_not] at this
      omega
    have := old_new (d := (⟨d0, d1, d2, d3, d4, d5, d6, d7, d8, d9, d10, d11⟩ : Del)) h3
    simp only at this
    rw [this]
theorem L_delivery_Total {N : Nat} {a : Int} {b : Int} {c : Int} {d : Int} {e : Int} {x : Int} {p : Bool} {q : Bool} {u : Bool} {v : Bool}  : c_delivery_Total N [.int a, .int b, .int c, .int d, .int e, .int x, .bool p, .bool q, .bool u, .bool v] = some [.int (IntKind.i64.wrap (IntKind.i64.wrap (IntKind.i64.wrap (IntKind.i64.wrap (a + b) + c) + d) + e))] := by
  rfl
def totalS (c : Cre) : Int := IntKind.i64.wrap (IntKind.i64.wrap (IntKind.i64.wrap (IntKind.i64.wrap (c.batter + c.wides) + c.noballs) + c.byes) + c.legbyes)
def wicketS (h : Int) : Bool := iLe 1 h && iLe h 5
theorem L_delivery_Credited {N : Nat} {h : Int}  : c_delivery_Credited N [.int h] = some [.bool (wicketS h)] := by
  show t_delivery_Credited (std (env_delivery_Credited N) N) (xOf _) = _
  simp only [t_delivery_Credited, std, xOf, PXb, PXc, PXn, PXm, Nat.reduceAdd, Int.reduceBEq, wicketS]
def restS (r : Rul) (d : Del) : Cre :=
  let n := IntKind.i64.wrap (IntKind.i64.wrap (d.runs - d.short) + d.boundary)
  let b := cond (!(d.type == 2) && d.source == 1) n 0
  let w := cond (d.type == 2) (IntKind.i64.wrap (r.wide + n)) 0
  let o := cond (d.type == 3) r.noball 0
  { batter := b, wides := w, noballs := o, byes := cond (!(d.type == 2) && d.source == 2) n 0, legbyes := cond (!(d.type == 2) && d.source == 3) n 0, bowler := IntKind.i64.wrap (IntKind.i64.wrap (b + w) + o),
    counts := d.type == 1, faced := !(d.type == 2), wicket := wicketS d.how, swap := !((!(d.runs.tmod 2 == 0)) == d.crossed) }
def creditS (r : Rul) (d : Del) : Cre := cond (!(legalS d == 0)) ⟨0, 0, 0, 0, 0, 0, false, false, false, false⟩ (restS r d)
theorem legal_runs {d : Del} (h : (legalS d == 0) = true) : 0 ≤ d.runs ∧ d.runs ≤ 7 := by
  unfold legalS at h
  cases h1 : (iLt d.type 1 || iLt 3 d.type || iLt 3 d.source || iLt 10 d.how || !btw d.sector 0 8) with
  | true => rw [h1] at h; cases h
  | false =>
    cases h2 : (!btw d.runs 0 7 || !btw d.short 0 d.runs || (!(d.boundary == 0) && !(d.boundary == 4) && !(d.boundary == 6))) with
    | true => rw [h1, h2] at h; cases h
    | false =>
      rw [Bool.or_eq_false_iff, Bool.or_eq_false_iff] at h2
      have := h2.1.1
      simp only [btw, iLe, Bool.not_eq_false', Bool.and_eq_true, decide_eq_true_eq] at this
      exact this
theorem swap_ok {n : Int} (h : 0 ≤ n ∧ n ≤ 7) (b : Bool) : ((cond b (IntKind.i64.wrap (n + 1)) n).tmod 2 == 1) = !((!(n.tmod 2 == 0)) == b) := by
  obtain ⟨k, rfl⟩ : ∃ k : Nat, n = k := ⟨n.toNat, by omega⟩
  have : k = 0 ∨ k = 1 ∨ k = 2 ∨ k = 3 ∨ k = 4 ∨ k = 5 ∨ k = 6 ∨ k = 7 := by omega
  rcases this with h | h | h | h | h | h | h | h <;> subst h <;> cases b <;> rfl
theorem L_delivery_Credit {N : Nat} {r1 r2 r3 r4 r5 r6 r7 r9 r10 r11 r12 : Int} {r8 : Bool} {r0 : ByteArray} {r13 : Rows} {d0 d1 d2 d3 d4 d6 d7 d8 d9 d11 : Int} {d5 d10 : Bool}  : c_delivery_Credit N [.str r0, .int r1, .int r2, .int r3, .int r4, .int r5, .int r6, .int r7, .bool r8, .int r9, .int r10, .int r11, .int r12, .rows r13, .int d0, .int d1, .int d2, .int d3, .int d4, .bool d5, .int d6, .int d7, .int d8, .int d9, .bool d10, .int d11] = some (creditS (⟨r0, r1, r2, r3, r4, r5, r6, r7, r8, r9, r10, r11, r12, r13⟩ : Rul) (⟨d0, d1, d2, d3, d4, d5, d6, d7, d8, d9, d10, d11⟩ : Del)).ls := by
  show t_delivery_Credit (std (env_delivery_Credit N) N) (xOf _) = _
  generalize hres : (some (creditS (⟨r0, r1, r2, r3, r4, r5, r6, r7, r8, r9, r10, r11, r12, r13⟩ : Rul) (⟨d0, d1, d2, d3, d4, d5, d6, d7, d8, d9, d10, d11⟩ : Del)).ls : Option (List PV)) = RR
  simp only [t_delivery_Credit, e_delivery_Credit_delivery_Legal, e_delivery_Credit_delivery_Credited, std, xOf, PXb, PXc, PXn, PXm, Nat.reduceAdd, Int.reduceBEq, L_delivery_Legal, L_delivery_Credited]
  subst hres; simp only [creditS, restS]
  cases hl : legalS (⟨d0, d1, d2, d3, d4, d5, d6, d7, d8, d9, d10, d11⟩ : Del) == 0 with
  | false => rfl
  | true =>
    have hs := swap_ok (legal_runs hl) d5
    simp only at hs
    simp only [PXb, PXc, PXn, PXm, Nat.reduceAdd, Int.reduceBEq, hs]
    cases h0 : d0 == 2 <;> cases h3 : d0 == 3 <;> cases h1 : d1 == 1 <;> cases h2 : d1 == 2 <;> cases h4 : d1 == 3 <;> first
      | rfl
      | (rw [eqne h0 (c := 3) rfl] at h3; exact absurd h3 (by decide))
      | (rw [eqne h1 (c := 2) rfl] at h2; exact absurd h2 (by decide))
      | (rw [eqne h1 (c := 3) rfl] at h4; exact absurd h4 (by decide))
      | (rw [eqne h2 (c := 3) rfl] at h4; exact absurd h4 (by decide))
end Go.Px
end

section
namespace Go.Px
set_option linter.unusedVariables false
set_option linter.unusedSimpArgs false
set_option maxRecDepth 100000

def onS (h t : Int) : Bool :=
  cond (h == 1 || h == 2 || h == 3) (t == 1) (cond (h == 4 || h == 5) (t == 1 || t == 2) (cond (h == 7) (t == 1 || t == 3) (cond (h == 6 || h == 8) (t == 1 || t == 2 || t == 3) false)))
def freeS (h : Int) : Bool := h == 6 || h == 7 || h == 8
def eitherS (h : Int) : Bool := h == 6 || h == 8
def mustS (h : Int) : Bool := h == 2 || h == 4 || h == 6
def possS (d : Del) (free : Bool) : Int :=
  cond (d.how == 0) (cond (!(d.victim == 0)) 14 (cond (!(d.fielder == 0) || !(d.second == 0) || d.sub) 15 0))
    (cond (!onS d.how d.type || free && !freeS d.how) 13 (cond (!eitherS d.how && (!(d.source == 0) || !(d.runs == 0))) 12
      (cond (!(d.victim == 1) && !(d.victim == 2 && eitherS d.how)) 14
        (cond (mustS d.how && !btw d.fielder 1 11 || !mustS d.how && !(d.fielder == 0)) 15
          (cond (!(d.second == 0) && (!(d.how == 6) || !btw d.second 1 11 || d.second == d.fielder)) 15
            (cond (d.sub && !(d.how == 2) && !(d.how == 6)) 18 0))))))
def wayT : Rows := match c_dismissal_table 0 [] with
  | some [.rows l] => l
  | _ => []
theorem L_dismissal_table {N : Nat} : c_dismissal_table N [] = some [.rows wayT] := rfl
theorem wayT_len : wayT.length = 11 := rfl
theorem L_dismissal_way_on {N : Nat} {h : Int} {n : ByteArray} {b : Bool} {c : Bool} {d : Bool} {e : Bool} {x : Bool} {t : Int}  : c_dismissal_way_on N [.int h, .str n, .bool b, .bool c, .bool d, .bool e, .bool x, .int t] = some [.bool (t == 1 && b || t == 2 && c || t == 3 && d)] := by
  show t_dismissal_way_on (std (env_dismissal_way_on N) N) (xOf _) = _
  simp only [t_dismissal_way_on, std, xOf, PXb, PXc, PXn, PXm, Nat.reduceAdd, Int.reduceBEq]
theorem L_dismissal_fielders_1 {N : Nat} {n : Int}  : c_dismissal_fielders_1 N [.int n] = some [.bool (btw n 1 11)] := by
  show t_dismissal_fielders_1 (std (env_dismissal_fielders_1 N) N) (xOf _) = _
  simp only [t_dismissal_fielders_1, std, xOf, PXb, PXc, PXn, PXm, Nat.reduceAdd, Int.reduceBEq]
  rfl
def wBit (i j : Nat) : Bool := pvB (pvAt wayT i j)
def wOk (t : Int) (free : Bool) (i : Nat) : Bool :=
  (t == 1 && wBit i 2 || t == 2 && wBit i 3 || t == 3 && wBit i 4) && (!free || atI wayT i 0 == 6 || atI wayT i 0 == 7 || atI wayT i 0 == 8)
def waysR (t : Int) (free : Bool) : Nat → Rows
  | 0 => []
  | i + 1 => cond (wOk t free i) (waysR t free i ++ [[.int (atI wayT i 0)]]) (waysR t free i)
theorem ways_len (t : Int) (free : Bool) : ∀ i, (waysR t free i).length ≤ i
  | 0 => Nat.le_refl _
  | i + 1 => by
    have := ways_len t free i
    unfold waysR
    cases wOk t free i
    · exact Nat.le_succ_of_le this
    · simp; exact this
theorem L_dismissal_Ways {N : Nat} {t : Int} {f : Bool} (hN : 2097152 < N) : c_dismissal_Ways N [.int t, .bool f] = some [.rows (waysR t f 11)] := by
  show t_dismissal_Ways (std (env_dismissal_Ways N) N) (xOf _) = _
  simp only [t_dismissal_Ways, e_dismissal_Ways_dismissal_table, e_dismissal_Ways_dismissal_way_on, std, xOf, PXb, PXc, PXn, bind_c, L_dismissal_table, L_dismissal_way_on]
  refine bind_loop (iter_all (len := wayT.length) (fun i => [.rows (waysR t f i), .int (i : Int)]) [.rows (waysR t f 11)] ?_ ?_ N (by rw [wayT_len]; omega)) rfl
  · intro self
    simp only [PXb, PXc, PXn, bind_c, ge_len]
    rfl
  · intro i self hi
    have hi2 : i < 11 := hi
    have h2 : (waysR t f i ++ [[PV.int (atI wayT i 0)]]).length ≤ 4194304 := by have := ways_len t f i; simp; omega
    simp only [PXb, PXc, bind_c, wrap_nat (show i ≤ 1099511627776 by omega), lt_len hi, in_range hi, atI_def, waysR, sm_ok h2 (show 1 ≤ 4096 by omega)]
    unfold wOk wBit
    cases ((t == 1 && pvB (pvAt wayT i 2) || t == 2 && pvB (pvAt wayT i 3) || t == 3 && pvB (pvAt wayT i 4)) && (!f || atI wayT i 0 == 6 || atI wayT i 0 == 7 || atI wayT i 0 == 8)) <;> rfl
theorem L_slices_Index_How {N : Nat} {L : Rows} {v : Int} (hN : L.length < N) (hl : L.length ≤ 1048576) : c_slices_Index_How N [.rows L, .int v] = some [.int (idxR (fun j => v == atI L j 0) L.length)] := by
  show t_slices_Index_How (std (env_slices_Index_How N) N) (xOf _) = _
  simp only [t_slices_Index_How, std, xOf, PXb, PXc, PXn, bind_c]
  refine bind_loop (iter_find (len := L.length) (seek fun j => v == atI L j 0) ?_ ?_ L.length 0 N (by omega) (by omega)) ?_
  · intro self
    simp only [PXb, PXc, PXn, bind_c, ge_len]
  · intro i self hi
    simp only [PXb, PXc, PXn, bind_c, wrap_nat (show i ≤ 1099511627776 by omega), lt_len hi, in_range hi, seek, atI_def]
    cases v == atI L i 0 <;> rfl
  · unfold idxR
    cases findR (seek fun j => v == atI L j 0) L.length 0 <;> rfl
theorem L_slices_Contains_How {N : Nat} {L : Rows} {v : Int} (hN : L.length < N) (hl : L.length ≤ 1048576) : c_slices_Contains_How N [.rows L, .int v] = some [.bool (hasI L L.length v)] := by
  show t_slices_Contains_How (std (env_slices_Contains_How N) N) (xOf _) = _
  simp only [t_slices_Contains_How, e_slices_Contains_How_slices_Index_How, std, xOf, PXb, PXc, PXn, bind_c, L_slices_Index_How hN hl, idx_nonneg, hasI]
theorem has_anyL (L : Rows) (v : Int) : hasI L L.length v = anyL (fun x => v == x) L := rfl
theorem anyL_c (p : Int → Bool) (b : Bool) (L : Rows) (x : Int) : anyL p (cond b (L ++ [[.int x]]) L) = (anyL p L || (b && p x)) := by
  cases b with
  | false => simp
  | true => rw [cond_true, anyL_app, Bool.true_and]; congr 1; rw [anyL_any]; simp [cellAt, pvI]
theorem ways_any (t : Int) (free : Bool) (p : Int → Bool) : ∀ i, anyL p (waysR t free i) = anyR (fun j => wOk t free j && p (atI wayT j 0)) i 0
  | 0 => rfl
  | i + 1 => by rw [anyR_last, ← ways_any t free p i, waysR, anyL_c, Nat.zero_add]
theorem ways_has (t h : Int) (free : Bool) : hasI (waysR t free 11) (waysR t free 11).length h = (onS h t && (!free || freeS h)) := by
  rw [has_anyL, ways_any]
  have key : ∀ j, j < 11 → atI wayT j 0 = j := by
    intro j hj
    have : j = 0 ∨ j = 1 ∨ j = 2 ∨ j = 3 ∨ j = 4 ∨ j = 5 ∨ j = 6 ∨ j = 7 ∨ j = 8 ∨ j = 9 ∨ j = 10 := by omega
    rcases this with h | h | h | h | h | h | h | h | h | h | h <;> subst h <;> rfl
  by_cases hr : 0 ≤ h ∧ h ≤ 10
  · obtain ⟨k, rfl⟩ : ∃ k : Nat, h = k := ⟨h.toNat, by omega⟩
    have : k = 0 ∨ k = 1 ∨ k = 2 ∨ k = 3 ∨ k = 4 ∨ k = 5 ∨ k = 6 ∨ k = 7 ∨ k = 8 ∨ k = 9 ∨ k = 10 := by omega
    rcases this with h | h | h | h | h | h | h | h | h | h | h <;> subst h <;> simp only [anyR_succ, anyR_zero, wOk, onS] <;> cases free <;> cases t == 1 <;> cases t == 2 <;> cases t == 3 <;> rfl
  · rw [anyR_false.2 fun j _ hj => by
      rw [key j (by omega), show (h == (j : Int)) = false from beq_false_of_ne (by omega), Bool.and_false]]
    have e : ∀ n : Int, 0 ≤ n → n ≤ 10 → (h == n) = false := fun n h0 h1 => beq_false_of_ne (by omega)
    unfold onS
    rw [e 1 (by omega) (by omega), e 2 (by omega) (by omega), e 3 (by omega) (by omega), e 4 (by omega) (by omega), e 5 (by omega) (by omega), e 6 (by omega) (by omega), e 7 (by omega) (by omega), e 8 (by omega) (by omega)]
    rfl
/-- The line of a way. -/
def lineR (h : Int) : List PV := match findR (fun i => cond (atI wayT i 0 == h) (some [.int (pvI (pvAt wayT i 0)), .str (pvS (pvAt wayT i 1)), .bool (pvB (pvAt wayT i 2)), .bool (pvB (pvAt wayT i 3)), .bool (pvB (pvAt wayT i 4)), .bool (pvB (pvAt wayT i 5)), .bool (pvB (pvAt wayT i 6))]) none) 11 0 with
  | some r => r
  | none => [.int 0, .str ⟨#[]⟩, .bool false, .bool false, .bool false, .bool false, .bool false]
theorem findR_some {ans : Nat → Option (List PV)} {r : List PV} : ∀ (k i : Nat), findR ans k i = some r → ∃ j, i ≤ j ∧ j < i + k ∧ ans j = some r
  | 0, i, h => by cases h
  | k + 1, i, h => by
    simp only [findR] at h
    cases ha : ans i with
    | some x => rw [ha] at h; cases h; exact ⟨i, Nat.le_refl _, by omega, ha⟩
    | none =>
      rw [ha] at h
      obtain ⟨j, h1, h2, h3⟩ := findR_some k (i + 1) h
      exact ⟨j, by omega, by omega, h3⟩
theorem line_len (h : Int) : ∃ a b c d e f g, lineR h = [.int a, .str b, .bool c, .bool d, .bool e, .bool f, .bool g] := by
  unfold lineR
  generalize hf : findR _ 11 0 = o
  cases o with
  | none => exact ⟨_, _, _, _, _, _, _, rfl⟩
  | some r =>
    obtain ⟨j, _, _, h3⟩ := findR_some _ _ hf
    cases hb : atI wayT j 0 == h with
    | false => rw [hb] at h3; cases h3
    | true => rw [hb] at h3; cases h3; exact ⟨_, _, _, _, _, _, _, rfl⟩
theorem L_dismissal_of {N : Nat} {h : Int} (hN : 2097152 < N) : c_dismissal_of N [.int h] = some (lineR h) := by
  show t_dismissal_of (std (env_dismissal_of N) N) (xOf _) = _
  simp only [t_dismissal_of, e_dismissal_of_dismissal_table, std, xOf, PXb, PXc, PXn, bind_c, L_dismissal_table]
  refine bind_loop (iter_find (len := wayT.length) (fun i => cond (atI wayT i 0 == h) (some [.int (pvI (pvAt wayT i 0)), .str (pvS (pvAt wayT i 1)), .bool (pvB (pvAt wayT i 2)), .bool (pvB (pvAt wayT i 3)), .bool (pvB (pvAt wayT i 4)), .bool (pvB (pvAt wayT i 5)), .bool (pvB (pvAt wayT i 6))]) none) ?_ ?_ wayT.length 0 N (by omega) (by rw [wayT_len]; omega)) ?_
  · intro self
    simp only [PXb, PXc, PXn, bind_c, ge_len]
  · intro i self hi
    have hi2 : i < 11 := hi
    simp only [PXb, PXc, PXn, bind_c, wrap_nat (show i ≤ 1099511627776 by omega), lt_len hi, in_range hi, atI_def]
    cases atI wayT i 0 == h <;> rfl
  · unfold lineR
    rw [wayT_len]
    generalize hf : findR _ 11 0 = o
    cases o with
    | none => rfl
    | some r =>
      obtain ⟨j, _, _, h3⟩ := findR_some _ _ hf
      cases hb : atI wayT j 0 == h with
      | false => rw [hb] at h3; cases h3
      | true => rw [hb] at h3; cases h3; rfl
theorem line_bits (h : Int) : pvB (cellAt (lineR h) 5) = mustS h ∧ pvB (cellAt (lineR h) 6) = eitherS h := by
  by_cases hr : 0 ≤ h ∧ h ≤ 10
  · obtain ⟨k, rfl⟩ : ∃ k : Nat, h = k := ⟨h.toNat, by omega⟩
    have : k = 0 ∨ k = 1 ∨ k = 2 ∨ k = 3 ∨ k = 4 ∨ k = 5 ∨ k = 6 ∨ k = 7 ∨ k = 8 ∨ k = 9 ∨ k = 10 := by omega
    rcases this with h | h | h | h | h | h | h | h | h | h | h <;> subst h <;> exact ⟨rfl, rfl⟩
  · have e : ∀ n : Int, 0 ≤ n → n ≤ 10 → (h == n) = false := fun n h0 h1 => beq_false_of_ne (by omega)
    have key : ∀ j, j < 11 → atI wayT j 0 = j := by
      intro j hj
      have : j = 0 ∨ j = 1 ∨ j = 2 ∨ j = 3 ∨ j = 4 ∨ j = 5 ∨ j = 6 ∨ j = 7 ∨ j = 8 ∨ j = 9 ∨ j = 10 := by omega
      rcases this with h | h | h | h | h | h | h | h | h | h | h <;> subst h <;> rfl
    unfold lineR
    generalize hf : findR _ 11 0 = o
    cases o with
    | none =>
      unfold mustS eitherS
      rw [e 2 (by omega) (by omega), e 4 (by omega) (by omega), e 6 (by omega) (by omega), e 8 (by omega) (by omega)]
      exact ⟨rfl, rfl⟩
    | some r =>
      obtain ⟨j, _, hj, h3⟩ := findR_some _ _ hf
      rw [key j (by omega), show ((j : Int) == h) = false from beq_false_of_ne (by omega)] at h3
      cases h3
def fieldersS (d : Del) (m : Bool) : Bool :=
  !(!(m == btw d.fielder 1 11) || !m && !(d.fielder == 0)) && (d.second == 0 || d.how == 6 && btw d.second 1 11 && !(d.second == d.fielder))
theorem L_dismissal_fielders {N : Nat} {d0 d1 d2 d3 d4 d6 d7 d8 d9 d11 : Int} {d5 d10 : Bool} {a : Int} {n : ByteArray} {b : Bool} {c : Bool} {e : Bool} {f : Bool} {g : Bool}  : c_dismissal_fielders N [.int d0, .int d1, .int d2, .int d3, .int d4, .bool d5, .int d6, .int d7, .int d8, .int d9, .bool d10, .int d11, .int a, .str n, .bool b, .bool c, .bool e, .bool f, .bool g] = some [.bool (fieldersS (⟨d0, d1, d2, d3, d4, d5, d6, d7, d8, d9, d10, d11⟩ : Del) f)] := by
  show t_dismissal_fielders (std (env_dismissal_fielders N) N) (xOf _) = _
  generalize hres : (some [.bool (fieldersS (⟨d0, d1, d2, d3, d4, d5, d6, d7, d8, d9, d10, d11⟩ : Del) f)] : Option (List PV)) = RR
  simp only [t_dismissal_fielders, e_dismissal_fielders_dismissal_fielders_1, std, xOf, PXb, PXc, PXn, PXm, Nat.reduceAdd, Int.reduceBEq, L_dismissal_fielders_1]
  subst hres; simp only [fieldersS]
  cases d9 == 0 <;> cases d6 == 6 <;> cases f <;> cases btw d8 1 11 <;> cases d8 == 0 <;> first | rfl | (cases btw d9 1 11 <;> rfl)
theorem c_or2 {α : Type} (a b : Bool) (x y : α) : cond (a || b) x y = cond a x (cond b x y) := by cases a <;> rfl
theorem fielders_eq (d : Del) (m : Bool) : (!fieldersS d m) = ((m && !btw d.fielder 1 11 || !m && !(d.fielder == 0)) || (!(d.second == 0) && (!(d.how == 6) || !btw d.second 1 11 || d.second == d.fielder))) := by
  unfold fieldersS
  cases hb : btw d.fielder 1 11 <;> cases hf : d.fielder == 0
  · cases m <;> cases d.second == 0 <;> cases d.how == 6 <;> cases btw d.second 1 11 <;> cases d.second == d.fielder <;> rfl
  · cases m <;> cases d.second == 0 <;> cases d.how == 6 <;> cases btw d.second 1 11 <;> cases d.second == d.fielder <;> rfl
  · cases m <;> cases d.second == 0 <;> cases d.how == 6 <;> cases btw d.second 1 11 <;> cases d.second == d.fielder <;> rfl
  · rw [beq_iff_eq.1 hf] at hb; exact absurd hb (by decide)
theorem L_dismissal_Possible {N : Nat} {d0 d1 d2 d3 d4 d6 d7 d8 d9 d11 : Int} {d5 d10 : Bool} {f : Bool} (hN : 2097152 < N) : c_dismissal_Possible N [.int d0, .int d1, .int d2, .int d3, .int d4, .bool d5, .int d6, .int d7, .int d8, .int d9, .bool d10, .int d11, .bool f] = some [.int (possS (⟨d0, d1, d2, d3, d4, d5, d6, d7, d8, d9, d10, d11⟩ : Del) f)] := by
  show t_dismissal_Possible (std (env_dismissal_Possible N) N) (xOf _) = _
  generalize hres : (some [.int (possS (⟨d0, d1, d2, d3, d4, d5, d6, d7, d8, d9, d10, d11⟩ : Del) f)] : Option (List PV)) = RR
  have hl := ways_len d0 f 11
  obtain ⟨a, b, c, d, e, m, g, hline⟩ := line_len d6
  have hbits := line_bits d6
  rw [hline] at hbits
  have hm : m = mustS d6 := hbits.1
  have hg : g = eitherS d6 := hbits.2
  have h1 : (waysR d0 f 11).length < N := by omega
  have h2 : (waysR d0 f 11).length ≤ 1048576 := by omega
  simp only [t_dismissal_Possible, e_dismissal_Possible_dismissal_of, e_dismissal_Possible_slices_Contains_How, e_dismissal_Possible_dismissal_Ways, e_dismissal_Possible_dismissal_fielders, std, xOf, PXb, PXc, PXn, PXm, Nat.reduceAdd, Int.reduceBEq, L_dismissal_of hN, hline, L_dismissal_Ways hN, L_slices_Contains_How h1 h2, ways_has, L_dismissal_fielders, fielders_eq]
  subst hres; simp only [possS, c_or2]
  rw [hm, hg]
  unfold eitherS
  cases d6 == 0 <;> cases onS d6 d0 <;> cases f <;> cases freeS d6 <;> try rfl
  all_goals (cases d6 == 6 <;> cases d6 == 8 <;> cases d7 == 2 <;> rfl)
end Go.Px
end

section
namespace Go.Px
set_option linter.unusedVariables false
set_option linter.unusedSimpArgs false
set_option maxRecDepth 100000

theorem L_notation_between {N : Nat} {a : Int} {b : Int} {c : Int}  : c_notation_between N [.int a, .int b, .int c] = some [.bool (btw a b c)] := by
  show t_notation_between (std (env_notation_between N) N) (xOf _) = _
  show some [PV.bool (cond (iLe b a) (iLe a c) false)] = _
  rw [c_and]; rfl
theorem L_event_between {N : Nat} {a : Int} {b : Int} {c : Int}  : c_event_between N [.int a, .int b, .int c] = some [.bool (btw a b c)] := by
  show t_event_between (std (env_event_between N) N) (xOf _) = _
  show some [PV.bool (cond (iLe b a) (iLe a c) false)] = _
  rw [c_and]; rfl
def noteS (d : Del) : Int :=
  cond (iLt d.type 1 || iLt 3 d.type || iLt 3 d.source || iLt 10 d.how) 3
    (cond (!btw d.runs 0 7 || !btw d.short 0 d.runs || (!(d.boundary == 0) && !(d.boundary == 4) && !(d.boundary == 6)) || !btw d.victim 0 2 || !btw d.fielder 0 11 || !btw d.second 0 11 || !btw d.sector 0 8) 2 0)
theorem L_notation_Check {N : Nat} {d0 d1 d2 d3 d4 d6 d7 d8 d9 d11 : Int} {d5 d10 : Bool}  : c_notation_Check N [.int d0, .int d1, .int d2, .int d3, .int d4, .bool d5, .int d6, .int d7, .int d8, .int d9, .bool d10, .int d11] = some [.int (noteS (⟨d0, d1, d2, d3, d4, d5, d6, d7, d8, d9, d10, d11⟩ : Del))] := by
  show t_notation_Check (std (env_notation_Check N) N) (xOf _) = _
  generalize hres : (some [.int (noteS (⟨d0, d1, d2, d3, d4, d5, d6, d7, d8, d9, d10, d11⟩ : Del))] : Option (List PV)) = RR
  simp only [t_notation_Check, e_notation_Check_notation_between, std, xOf, PXb, PXc, PXn, PXm, Nat.reduceAdd, Int.reduceBEq, L_notation_between]
  subst hres; simp only [noteS]
def loS (k : Int) : Int := cond (k == 7) 0 (cond (k == 13) 1 0)
def hiS (k : Int) : Int := cond (k == 7) 11 (cond (k == 13) 99 100000)
theorem L_event_bounds {N : Nat} {k : Int}  : c_event_bounds N [.int k] = some [.int (loS k), .int (hiS k)] := by
  show t_event_bounds (std (env_event_bounds N) N) (xOf _) = _
  simp only [t_event_bounds, std, xOf, PXb, PXc, PXn, PXm, Nat.reduceAdd, Int.reduceBEq]
  unfold loS hiS
  cases k == 7 <;> cases k == 13 <;> rfl
def uS (k : Int) : Bool := k == 1 || k == 12 || k == 14 || k == 11 || k == 13
def uP (k : Int) : Bool := k == 2 || k == 3 || k == 8 || k == 5 || k == 6 || k == 9
def uO (k : Int) : Bool := k == 2
def uY (k : Int) : Bool := k == 1 || k == 12 || k == 14 || k == 5 || k == 6 || k == 9
def uR (k : Int) : Bool := k == 7 || k == 13 || k == 15
def uV (k : Int) : Bool := k == 15
def uB (k : Int) : Bool := k == 4
theorem kinds16 {k : Int} (h : (iLt k 1 || iLt 16 k) = false) : k = 1 ∨ k = 2 ∨ k = 3 ∨ k = 4 ∨ k = 5 ∨ k = 6 ∨ k = 7 ∨ k = 8 ∨ k = 9 ∨ k = 10 ∨ k = 11 ∨ k = 12 ∨ k = 13 ∨ k = 14 ∨ k = 15 ∨ k = 16 := by
  simp only [iLt, Bool.or_eq_false_iff, decide_eq_false_iff_not] at h
  omega
theorem kinds_no {k : Int} (h : (iLt k 1 || iLt 16 k) = true) (n : Int) (h1 : 1 ≤ n) (h2 : n ≤ 16) : (k == n) = false := by
  simp only [iLt, Bool.or_eq_true, decide_eq_true_eq] at h
  exact beq_false_of_ne (by omega)
def formT : Rows := match c_event_forms 0 [] with
  | some [.rows l] => l
  | _ => []
theorem L_event_forms {N : Nat} : c_event_forms N [] = some [.rows formT] := rfl
def useG (k f : Int) : Bool := iLe 0 (Lib.indexByte (pvS (pvAt formT (IntKind.u8.wrap (k - 1)).toNat 1)).data.toList f.toNat.toUInt8) || (k == 5 && f == 121)
theorem L_strings_IndexByte {N : Nat} {s : ByteArray} {f : Int}  : c_strings_IndexByte N [.str s, .int f] = some [.int (Lib.indexByte s.data.toList f.toNat.toUInt8)] := by
  show t_strings_IndexByte (std (env_strings_IndexByte N) N) (xOf _) = _
  simp only [t_strings_IndexByte, e_strings_IndexByte_stringslite_IndexByte, std, xOf, PXb, PXc, PXn, PXm, Nat.reduceAdd, Int.reduceBEq, c_stringslite_IndexByte, indexC]
theorem L_event_uses {N : Nat} {k : Int} {f : Int} (h : (iLt k 1 || iLt 16 k) = false) : c_event_uses N [.int k, .int f] = some [.bool (useG k f)] := by
  show t_event_uses (std (env_event_uses N) N) (xOf _) = _
  have hi : iIn (IntKind.u8.wrap (k - 1)) (formT.length : Int) = true := by
    rcases kinds16 h with h | h | h | h | h | h | h | h | h | h | h | h | h | h | h | h <;> subst h <;> rfl
  simp only [t_event_uses, e_event_uses_strings_IndexByte, e_event_uses_event_forms, std, xOf, PXb, PXc, PXn, PXm, Nat.reduceAdd, Int.reduceBEq, L_event_forms, L_strings_IndexByte, hi, useG]
theorem use_ok {k : Int} (h : (iLt k 1 || iLt 16 k) = false) : useG k 115 = uS k ∧ useG k 112 = uP k ∧ useG k 111 = uO k ∧ useG k 121 = uY k ∧ useG k 114 = uR k ∧ useG k 118 = uV k ∧ useG k 98 = uB k := by
  rcases kinds16 h with h | h | h | h | h | h | h | h | h | h | h | h | h | h | h | h <;> subst h <;> exact ⟨rfl, rfl, rfl, rfl, rfl, rfl, rfl⟩
def zeroD (d : Del) : Bool := d.type == 0 && (d.source == 0 && (d.runs == 0 && (d.short == 0 && (d.boundary == 0 && (d.crossed == false && (d.how == 0 && (d.victim == 0 && (d.fielder == 0 && (d.second == 0 && (d.sub == false && d.sector == 0))))))))))
def err1 (e : Ev) : Bool := (!(e.side == 0) && !uS e.kind) || ((!(e.player == 0) && !uP e.kind) || ((!(e.other == 0) && !uO e.kind) || ((e.yes && !uY e.kind) || ((!(e.runs == 0) && !uR e.kind) || ((!(e.overs == 0) && !uV e.kind) || (!zeroD e.ball && !uB e.kind))))))
def err2 (e : Ev) : Bool := (!btw e.side 1 2 && uS e.kind) || ((!btw e.player 1 11 && uP e.kind) || ((!btw e.other 1 11 && uO e.kind) || ((!btw e.runs (loS e.kind) (hiS e.kind) && uR e.kind) || (!btw e.overs 0 90 && uV e.kind))))
def evS (e : Ev) : Int := cond (iLt e.kind 1 || iLt 16 e.kind) 3 (cond (err1 e) 1 (cond (err2 e) 2 (cond (e.kind == 4) (noteS e.ball) 0)))
def evT (e : Ev) : Rows := [[.int 115, .bool (e.side == 0), .bool (btw e.side 1 2)], [.int 112, .bool (e.player == 0), .bool (btw e.player 1 11)], [.int 111, .bool (e.other == 0), .bool (btw e.other 1 11)], [.int 121, .bool (!e.yes), .bool true], [.int 114, .bool (e.runs == 0), .bool (btw e.runs (loS e.kind) (hiS e.kind))], [.int 118, .bool (e.overs == 0), .bool (btw e.overs 0 90)], [.int 98, .bool (zeroD e.ball), .bool true]]
theorem L_event_Check {N : Nat} {e0 e1 e2 e3 e5 e6 e7 e8 e9 e10 e11 e13 e14 e15 e16 e18 : Int} {e4 e12 e17 : Bool} (hN : 2097152 < N) : c_event_Check N [.int e0, .int e1, .int e2, .int e3, .bool e4, .int e5, .int e6, .int e7, .int e8, .int e9, .int e10, .int e11, .bool e12, .int e13, .int e14, .int e15, .int e16, .bool e17, .int e18] = some [.int (evS (⟨e0, e1, e2, e3, e4, e5, e6, ⟨e7, e8, e9, e10, e11, e12, e13, e14, e15, e16, e17, e18⟩⟩ : Ev))] := by
  show t_event_Check (std (env_event_Check N) N) (xOf _) = _
  generalize hres : (some [.int (evS (⟨e0, e1, e2, e3, e4, e5, e6, ⟨e7, e8, e9, e10, e11, e12, e13, e14, e15, e16, e17, e18⟩⟩ : Ev))] : Option (List PV)) = RR
  cases hk : iLt e0 1 || iLt 16 e0 with
  | true =>
    simp only [t_event_Check, e_event_Check_event_bounds, e_event_Check_event_between, e_event_Check_event_uses, e_event_Check_notation_Check, std, xOf, PXb, PXc, bind_c, hk, ← hres, evS]
  | false =>
    simp only [t_event_Check, e_event_Check_event_bounds, e_event_Check_event_between, e_event_Check_event_uses, e_event_Check_notation_Check, std, xOf, PXb, PXc, bind_c, hk, L_event_bounds, L_event_between]
    subst hres
    obtain ⟨g1, g2, g3, g4, g5, g6, g7⟩ := use_ok hk
    refine bind_loop (iter_any (len := 7) (fun i => !pvB (pvAt (evT (⟨e0, e1, e2, e3, e4, e5, e6, ⟨e7, e8, e9, e10, e11, e12, e13, e14, e15, e16, e17, e18⟩⟩ : Ev)) i 1) && !useG e0 (pvI (pvAt (evT (⟨e0, e1, e2, e3, e4, e5, e6, ⟨e7, e8, e9, e10, e11, e12, e13, e14, e15, e16, e17, e18⟩⟩ : Ev)) i 0))) [.int 1] ?_ ?_ N (by omega)) ?_
    · intro self
      rfl
    · intro i self hi
      simp only [PXb, PXc, bind_c, wrap_nat (show i ≤ 1099511627776 by omega), List.length_cons, List.length_nil, Nat.reduceAdd, lt_len hi, in_range hi, L_event_uses hk]
      change cond (!pvB (pvAt (evT (⟨e0, e1, e2, e3, e4, e5, e6, ⟨e7, e8, e9, e10, e11, e12, e13, e14, e15, e16, e17, e18⟩⟩ : Ev)) i 1) && !(!pvB (pvAt (evT (⟨e0, e1, e2, e3, e4, e5, e6, ⟨e7, e8, e9, e10, e11, e12, e13, e14, e15, e16, e17, e18⟩⟩ : Ev)) i 1) && useG e0 (pvI (pvAt (evT (⟨e0, e1, e2, e3, e4, e5, e6, ⟨e7, e8, e9, e10, e11, e12, e13, e14, e15, e16, e17, e18⟩⟩ : Ev)) i 0)))) _ _ = _
      cases pvB (pvAt (evT (⟨e0, e1, e2, e3, e4, e5, e6, ⟨e7, e8, e9, e10, e11, e12, e13, e14, e15, e16, e17, e18⟩⟩ : Ev)) i 1) <;> rfl
    · have a1 : anyR (fun i => !pvB (pvAt (evT (⟨e0, e1, e2, e3, e4, e5, e6, ⟨e7, e8, e9, e10, e11, e12, e13, e14, e15, e16, e17, e18⟩⟩ : Ev)) i 1) && !useG e0 (pvI (pvAt (evT (⟨e0, e1, e2, e3, e4, e5, e6, ⟨e7, e8, e9, e10, e11, e12, e13, e14, e15, e16, e17, e18⟩⟩ : Ev)) i 0))) 7 0 = err1 (⟨e0, e1, e2, e3, e4, e5, e6, ⟨e7, e8, e9, e10, e11, e12, e13, e14, e15, e16, e17, e18⟩⟩ : Ev) := by
        simp only [anyR_succ, anyR_zero]
        change (!(e1 == 0) && !useG e0 115 || (!(e2 == 0) && !useG e0 112 || (!(e3 == 0) && !useG e0 111 || (!(!e4) && !useG e0 121 || (!(e5 == 0) && !useG e0 114 || (!(e6 == 0) && !useG e0 118 || (!(zeroD (⟨e0, e1, e2, e3, e4, e5, e6, ⟨e7, e8, e9, e10, e11, e12, e13, e14, e15, e16, e17, e18⟩⟩ : Ev).ball) && !useG e0 98 || false))))))) = _
        rw [g1, g2, g3, g4, g5, g6, g7, Bool.not_not, Bool.or_false]
        rfl
      rw [a1]
      simp only [evS, hk, cond_false]
      cases err1 (⟨e0, e1, e2, e3, e4, e5, e6, ⟨e7, e8, e9, e10, e11, e12, e13, e14, e15, e16, e17, e18⟩⟩ : Ev) with
      | true => rfl
      | false =>
        simp only [PXb, PXc, bind_c]
        refine bind_loop (iter_any (len := 7) (fun i => !pvB (pvAt (evT (⟨e0, e1, e2, e3, e4, e5, e6, ⟨e7, e8, e9, e10, e11, e12, e13, e14, e15, e16, e17, e18⟩⟩ : Ev)) i 2) && useG e0 (pvI (pvAt (evT (⟨e0, e1, e2, e3, e4, e5, e6, ⟨e7, e8, e9, e10, e11, e12, e13, e14, e15, e16, e17, e18⟩⟩ : Ev)) i 0))) [.int 2] ?_ ?_ N (by omega)) ?_
        · intro self
          rfl
        · intro i self hi
          simp only [PXb, PXc, bind_c, wrap_nat (show i ≤ 1099511627776 by omega), List.length_cons, List.length_nil, Nat.reduceAdd, lt_len hi, in_range hi, L_event_uses hk]
          rfl
        · have a2 : anyR (fun i => !pvB (pvAt (evT (⟨e0, e1, e2, e3, e4, e5, e6, ⟨e7, e8, e9, e10, e11, e12, e13, e14, e15, e16, e17, e18⟩⟩ : Ev)) i 2) && useG e0 (pvI (pvAt (evT (⟨e0, e1, e2, e3, e4, e5, e6, ⟨e7, e8, e9, e10, e11, e12, e13, e14, e15, e16, e17, e18⟩⟩ : Ev)) i 0))) 7 0 = err2 (⟨e0, e1, e2, e3, e4, e5, e6, ⟨e7, e8, e9, e10, e11, e12, e13, e14, e15, e16, e17, e18⟩⟩ : Ev) := by
            simp only [anyR_succ, anyR_zero]
            change (!(btw e1 1 2) && useG e0 115 || (!(btw e2 1 11) && useG e0 112 || (!(btw e3 1 11) && useG e0 111 || (!true && useG e0 121 || (!(btw e5 (loS e0) (hiS e0)) && useG e0 114 || (!(btw e6 0 90) && useG e0 118 || (!true && useG e0 98 || false))))))) = _
            rw [g1, g2, g3, g4, g5, g6, g7]
            simp only [Bool.not_true, Bool.false_and, Bool.false_or, Bool.or_false]
            rfl
          rw [a2]
          cases err2 (⟨e0, e1, e2, e3, e4, e5, e6, ⟨e7, e8, e9, e10, e11, e12, e13, e14, e15, e16, e17, e18⟩⟩ : Ev) with
          | true => rfl
          | false =>
            simp only [PXb, PXc, PXn, PXm, Nat.reduceAdd, Int.reduceBEq, e_event_Check_notation_Check, L_notation_Check]
theorem c4 {c x x' y y' : Bool} {a b d z z' : Int} (h1 : x = x') (h2 : y = y') (h3 : z = z') : (some [PV.int (cond c a (cond x b (cond y d z)))] : Option (List PV)) = some [PV.int (cond c a (cond x' b (cond y' d z')))] := by subst h1; subst h2; subst h3; rfl
end Go.Px
end
