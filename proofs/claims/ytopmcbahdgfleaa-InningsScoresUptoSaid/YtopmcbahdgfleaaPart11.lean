/-
Contracts of the functions that the statement reaches, part 1; written by program.
-/
import Derived.Test.YtopmcbahdgfleaaPart06
import Derived.Test.YtopmcbahdgfleaaProg
import Derived.Test.YtopmcbahdgfleaaPart08
import Derived.KernelRfl
import Derived.WalkKit
import Derived.Lib.Walk
import Derived.BigCall
import Derived.BigGuard
namespace Go.Px
open Go.Proofs
set_option maxRecDepth 100000
set_option linter.unusedVariables false
theorem mix : Try.prog.follows .mixedOrders = true := by kernel_rfl
def g_text_Name : Cfg := { gam := [], imm := false, old := false }
theorem xf_text_Name (O : Alg) (x : Ags O) : XF (O := O) Try.prog g_text_Name true true [] 54 [] (xr x k_text_Name 0) = t_text_Name O x := by kernel_rfl
theorem V_text_Name {E : Env} {M : Nat} (N : Nat) (h : ∀ ls, E 54 [] ls = c_text_Name N ls) : VV Try.prog E M ⟨54, [], true, true, []⟩ :=
  valid_tab mix (E := env_text_Name N) (N := N) (cfg := g_text_Name) (ci := ⟨54, [], true, true, []⟩) (ks := k_text_Name) gam_nil (c := c_text_Name N) (F := fun ls => t_text_Name (std (env_text_Name N) N) (xOf ls)) (fun ls => rfl) (fun ls => xf_text_Name (std (env_text_Name N) N) (xOf ls)) h
def g_rules_between : Cfg := { gam := [], imm := false, old := false }
theorem xf_rules_between (O : Alg) (x : Ags O) : XF (O := O) Try.prog g_rules_between true true [] 79 [] (xr x k_rules_between 0) = t_rules_between O x := by kernel_rfl
theorem V_rules_between {E : Env} {M : Nat} (N : Nat) (h : ∀ ls, E 79 [] ls = c_rules_between N ls) : VV Try.prog E M ⟨79, [], true, true, []⟩ :=
  valid_tab mix (E := env_rules_between N) (N := N) (cfg := g_rules_between) (ci := ⟨79, [], true, true, []⟩) (ks := k_rules_between) gam_nil (c := c_rules_between N) (F := fun ls => t_rules_between (std (env_rules_between N) N) (xOf ls)) (fun ls => rfl) (fun ls => xf_rules_between (std (env_rules_between N) N) (xOf ls)) h
def g_rules_inRange : Cfg := { gam := [⟨79, [], true, true, []⟩], imm := false, old := false }
theorem xf_rules_inRange (O : Alg) (x : Ags O) : XF (O := O) Try.prog g_rules_inRange true true [] 55 [] (xr x k_rules_inRange 0) = t_rules_inRange O x := by kernel_rfl
theorem V_rules_inRange {E : Env} {M : Nat} (N : Nat) (h : ∀ ls, E 55 [] ls = c_rules_inRange N ls) : VV Try.prog E M ⟨55, [], true, true, []⟩ :=
  valid_tab mix (E := env_rules_inRange N) (N := N) (cfg := g_rules_inRange) (ci := ⟨55, [], true, true, []⟩) (ks := k_rules_inRange) (gam_cons (V_rules_between N (fun _ => rfl)) gam_nil) (c := c_rules_inRange N) (F := fun ls => t_rules_inRange (std (env_rules_inRange N) N) (xOf ls)) (fun ls => rfl) (fun ls => xf_rules_inRange (std (env_rules_inRange N) N) (xOf ls)) h
def g_rules_phases : Cfg := { gam := [⟨79, [], true, true, []⟩], imm := false, old := false }
theorem xf_rules_phases (O : Alg) (x : Ags O) : XF (O := O) Try.prog g_rules_phases true true [] 56 [] (xr x k_rules_phases 0) = t_rules_phases O x := by kernel_rfl
theorem V_rules_phases {E : Env} {M : Nat} (N : Nat) (h : ∀ ls, E 56 [] ls = c_rules_phases N ls) : VV Try.prog E M ⟨56, [], true, true, []⟩ :=
  valid_tab mix (E := env_rules_phases N) (N := N) (cfg := g_rules_phases) (ci := ⟨56, [], true, true, []⟩) (ks := k_rules_phases) (gam_cons (V_rules_between N (fun _ => rfl)) gam_nil) (c := c_rules_phases N) (F := fun ls => t_rules_phases (std (env_rules_phases N) N) (xOf ls)) (fun ls => rfl) (fun ls => xf_rules_phases (std (env_rules_phases N) N) (xOf ls)) h
def g_rules_Check : Cfg := { gam := [⟨54, [], true, true, []⟩, ⟨55, [], true, true, []⟩, ⟨56, [], true, true, []⟩], imm := false, old := false }
theorem xf_rules_Check (O : Alg) (x : Ags O) : XF (O := O) Try.prog g_rules_Check true true [] 23 [] (xr x k_rules_Check 0) = t_rules_Check O x := by kernel_rfl
theorem V_rules_Check {E : Env} {M : Nat} (N : Nat) (h : ∀ ls, E 23 [] ls = c_rules_Check N ls) : VV Try.prog E M ⟨23, [], true, true, []⟩ :=
  valid_tab mix (E := env_rules_Check N) (N := N) (cfg := g_rules_Check) (ci := ⟨23, [], true, true, []⟩) (ks := k_rules_Check) (gam_cons (V_text_Name N (fun _ => rfl)) (gam_cons (V_rules_inRange N (fun _ => rfl)) (gam_cons (V_rules_phases N (fun _ => rfl)) gam_nil))) (c := c_rules_Check N) (F := fun ls => t_rules_Check (std (env_rules_Check N) N) (xOf ls)) (fun ls => rfl) (fun ls => xf_rules_Check (std (env_rules_Check N) N) (xOf ls)) h
def g_innings_between : Cfg := { gam := [], imm := false, old := false }
theorem xf_innings_between (O : Alg) (x : Ags O) : XF (O := O) Try.prog g_innings_between true true [] 24 [] (xr x k_innings_between 0) = t_innings_between O x := by kernel_rfl
theorem V_innings_between {E : Env} {M : Nat} (N : Nat) (h : ∀ ls, E 24 [] ls = c_innings_between N ls) : VV Try.prog E M ⟨24, [], true, true, []⟩ :=
  valid_tab mix (E := env_innings_between N) (N := N) (cfg := g_innings_between) (ci := ⟨24, [], true, true, []⟩) (ks := k_innings_between) gam_nil (c := c_innings_between N) (F := fun ls => t_innings_between (std (env_innings_between N) N) (xOf ls)) (fun ls => rfl) (fun ls => xf_innings_between (std (env_innings_between N) N) (xOf ls)) h
def g_innings_batters : Cfg := { gam := [⟨24, [], true, true, []⟩], imm := false, old := false }
theorem xf_innings_batters (O : Alg) (x : Ags O) : XF (O := O) Try.prog g_innings_batters true true [] 25 [] (xr x k_innings_batters 0) = t_innings_batters O x := by kernel_rfl
theorem V_innings_batters {E : Env} {M : Nat} (N : Nat) (h : ∀ ls, E 25 [] ls = c_innings_batters N ls) : VV Try.prog E M ⟨25, [], true, true, []⟩ :=
  valid_tab mix (E := env_innings_batters N) (N := N) (cfg := g_innings_batters) (ci := ⟨25, [], true, true, []⟩) (ks := k_innings_batters) (gam_cons (V_innings_between N (fun _ => rfl)) gam_nil) (c := c_innings_batters N) (F := fun ls => t_innings_batters (std (env_innings_batters N) N) (xOf ls)) (fun ls => rfl) (fun ls => xf_innings_batters (std (env_innings_batters N) N) (xOf ls)) h
def g_slices_Index_int : Cfg := { gam := [], imm := false, old := false }
theorem xf_slices_Index_int (O : Alg) (x : Ags O) : XF (O := O) Try.prog g_slices_Index_int true true [] 80 [] (xr x k_slices_Index_int 0) = t_slices_Index_int O x := by kernel_rfl
theorem V_slices_Index_int {E : Env} {M : Nat} (N : Nat) (h : ∀ ls, E 80 [] ls = c_slices_Index_int N ls) : VV Try.prog E M ⟨80, [], true, true, []⟩ :=
  valid_tab mix (E := env_slices_Index_int N) (N := N) (cfg := g_slices_Index_int) (ci := ⟨80, [], true, true, []⟩) (ks := k_slices_Index_int) gam_nil (c := c_slices_Index_int N) (F := fun ls => t_slices_Index_int (std (env_slices_Index_int N) N) (xOf ls)) (fun ls => rfl) (fun ls => xf_slices_Index_int (std (env_slices_Index_int N) N) (xOf ls)) h
def g_slices_Contains_int : Cfg := { gam := [⟨80, [], true, true, []⟩], imm := false, old := false }
theorem xf_slices_Contains_int (O : Alg) (x : Ags O) : XF (O := O) Try.prog g_slices_Contains_int true true [] 57 [] (xr x k_slices_Contains_int 0) = t_slices_Contains_int O x := by kernel_rfl
theorem V_slices_Contains_int {E : Env} {M : Nat} (N : Nat) (h : ∀ ls, E 57 [] ls = c_slices_Contains_int N ls) : VV Try.prog E M ⟨57, [], true, true, []⟩ :=
  valid_tab mix (E := env_slices_Contains_int N) (N := N) (cfg := g_slices_Contains_int) (ci := ⟨57, [], true, true, []⟩) (ks := k_slices_Contains_int) (gam_cons (V_slices_Index_int N (fun _ => rfl)) gam_nil) (c := c_slices_Contains_int N) (F := fun ls => t_slices_Contains_int (std (env_slices_Contains_int N) N) (xOf ls)) (fun ls => rfl) (fun ls => xf_slices_Contains_int (std (env_slices_Contains_int N) N) (xOf ls)) h
def g_innings_different : Cfg := { gam := [⟨24, [], true, true, []⟩, ⟨57, [], true, true, []⟩], imm := false, old := false }
theorem xf_innings_different (O : Alg) (x : Ags O) : XF (O := O) Try.prog g_innings_different true true [] 26 [] (xr x k_innings_different 0) = t_innings_different O x := by kernel_rfl
theorem V_innings_different {E : Env} {M : Nat} (N : Nat) (h : ∀ ls, E 26 [] ls = c_innings_different N ls) : VV Try.prog E M ⟨26, [], true, true, []⟩ :=
  valid_tab mix (E := env_innings_different N) (N := N) (cfg := g_innings_different) (ci := ⟨26, [], true, true, []⟩) (ks := k_innings_different) (gam_cons (V_innings_between N (fun _ => rfl)) (gam_cons (V_slices_Contains_int N (fun _ => rfl)) gam_nil)) (c := c_innings_different N) (F := fun ls => t_innings_different (std (env_innings_different N) N) (xOf ls)) (fun ls => rfl) (fun ls => xf_innings_different (std (env_innings_different N) N) (xOf ls)) h
def g_innings_numbers_1 : Cfg := { gam := [⟨24, [], true, true, []⟩], imm := false, old := false }
theorem xf_innings_numbers_1 (O : Alg) (x : Ags O) : XF (O := O) Try.prog g_innings_numbers_1 true true [] 59 [] (xr x k_innings_numbers_1 0) = t_innings_numbers_1 O x := by kernel_rfl
theorem V_innings_numbers_1 {E : Env} {M : Nat} (N : Nat) (h : ∀ ls, E 59 [] ls = c_innings_numbers_1 N ls) : VV Try.prog E M ⟨59, [], true, true, []⟩ :=
  valid_tab mix (E := env_innings_numbers_1 N) (N := N) (cfg := g_innings_numbers_1) (ci := ⟨59, [], true, true, []⟩) (ks := k_innings_numbers_1) (gam_cons (V_innings_between N (fun _ => rfl)) gam_nil) (c := c_innings_numbers_1 N) (F := fun ls => t_innings_numbers_1 (std (env_innings_numbers_1 N) N) (xOf ls)) (fun ls => rfl) (fun ls => xf_innings_numbers_1 (std (env_innings_numbers_1 N) N) (xOf ls)) h
def g_innings_numbers : Cfg := { gam := [⟨59, [], true, true, []⟩], imm := false, old := false }
theorem xf_innings_numbers (O : Alg) (x : Ags O) : XF (O := O) Try.prog g_innings_numbers true true [] 27 [] (xr x k_innings_numbers 0) = t_innings_numbers O x := by kernel_rfl
theorem V_innings_numbers {E : Env} {M : Nat} (N : Nat) (h : ∀ ls, E 27 [] ls = c_innings_numbers N ls) : VV Try.prog E M ⟨27, [], true, true, []⟩ :=
  valid_tab mix (E := env_innings_numbers N) (N := N) (cfg := g_innings_numbers) (ci := ⟨27, [], true, true, []⟩) (ks := k_innings_numbers) (gam_cons (V_innings_numbers_1 N (fun _ => rfl)) gam_nil) (c := c_innings_numbers N) (F := fun ls => t_innings_numbers (std (env_innings_numbers N) N) (xOf ls)) (fun ls => rfl) (fun ls => xf_innings_numbers (std (env_innings_numbers N) N) (xOf ls)) h
def g_innings_Valid : Cfg := { gam := [⟨23, [], true, true, []⟩, ⟨24, [], true, true, []⟩, ⟨25, [], true, true, []⟩, ⟨26, [], true, true, []⟩, ⟨27, [], true, true, []⟩], imm := false, old := false }
theorem xf_innings_Valid (O : Alg) (x : Ags O) : XF (O := O) Try.prog g_innings_Valid true true [] 13 [] (xr x k_innings_Valid 0) = t_innings_Valid O x := by kernel_rfl
theorem V_innings_Valid {E : Env} {M : Nat} (N : Nat) (h : ∀ ls, E 13 [] ls = c_innings_Valid N ls) : VV Try.prog E M ⟨13, [], true, true, []⟩ :=
  valid_tab mix (E := env_innings_Valid N) (N := N) (cfg := g_innings_Valid) (ci := ⟨13, [], true, true, []⟩) (ks := k_innings_Valid) (gam_cons (V_rules_Check N (fun _ => rfl)) (gam_cons (V_innings_between N (fun _ => rfl)) (gam_cons (V_innings_batters N (fun _ => rfl)) (gam_cons (V_innings_different N (fun _ => rfl)) (gam_cons (V_innings_numbers N (fun _ => rfl)) gam_nil))))) (c := c_innings_Valid N) (F := fun ls => t_innings_Valid (std (env_innings_Valid N) N) (xOf ls)) (fun ls => rfl) (fun ls => xf_innings_Valid (std (env_innings_Valid N) N) (xOf ls)) h
def g_crease_begun_1 : Cfg := { gam := [], imm := false, old := false }
theorem xf_crease_begun_1 (O : Alg) (x : Ags O) : XF (O := O) Try.prog g_crease_begun_1 true true [] 82 [] (xr x k_crease_begun_1 0) = t_crease_begun_1 O x := by kernel_rfl
theorem V_crease_begun_1 {E : Env} {M : Nat} (N : Nat) (h : ∀ ls, E 82 [] ls = c_crease_begun_1 N ls) : VV Try.prog E M ⟨82, [], true, true, []⟩ :=
  valid_tab mix (E := env_crease_begun_1 N) (N := N) (cfg := g_crease_begun_1) (ci := ⟨82, [], true, true, []⟩) (ks := k_crease_begun_1) gam_nil (c := c_crease_begun_1 N) (F := fun ls => t_crease_begun_1 (std (env_crease_begun_1 N) N) (xOf ls)) (fun ls => rfl) (fun ls => xf_crease_begun_1 (std (env_crease_begun_1 N) N) (xOf ls)) h
def g_crease_begun : Cfg := { gam := [⟨82, [], true, true, []⟩], imm := false, old := false }
theorem xf_crease_begun (O : Alg) (x : Ags O) : XF (O := O) Try.prog g_crease_begun true true [] 60 [] (xr x k_crease_begun 0) = t_crease_begun O x := by kernel_rfl
theorem V_crease_begun {E : Env} {M : Nat} (N : Nat) (h : ∀ ls, E 60 [] ls = c_crease_begun N ls) : VV Try.prog E M ⟨60, [], true, true, []⟩ :=
  valid_tab mix (E := env_crease_begun N) (N := N) (cfg := g_crease_begun) (ci := ⟨60, [], true, true, []⟩) (ks := k_crease_begun) (gam_cons (V_crease_begun_1 N (fun _ => rfl)) gam_nil) (c := c_crease_begun N) (F := fun ls => t_crease_begun (std (env_crease_begun N) N) (xOf ls)) (fun ls => rfl) (fun ls => xf_crease_begun (std (env_crease_begun N) N) (xOf ls)) h
def g_crease_Vacant : Cfg := { gam := [⟨60, [], true, true, []⟩], imm := false, old := false }
theorem xf_crease_Vacant (O : Alg) (x : Ags O) : XF (O := O) Try.prog g_crease_Vacant true true [] 28 [] (xr x k_crease_Vacant 0) = t_crease_Vacant O x := by kernel_rfl
theorem V_crease_Vacant {E : Env} {M : Nat} (N : Nat) (h : ∀ ls, E 28 [] ls = c_crease_Vacant N ls) : VV Try.prog E M ⟨28, [], true, true, []⟩ :=
  valid_tab mix (E := env_crease_Vacant N) (N := N) (cfg := g_crease_Vacant) (ci := ⟨28, [], true, true, []⟩) (ks := k_crease_Vacant) (gam_cons (V_crease_begun N (fun _ => rfl)) gam_nil) (c := c_crease_Vacant N) (F := fun ls => t_crease_Vacant (std (env_crease_Vacant N) N) (xOf ls)) (fun ls => rfl) (fun ls => xf_crease_Vacant (std (env_crease_Vacant N) N) (xOf ls)) h
def g_crease_Left : Cfg := { gam := [], imm := false, old := false }
theorem xf_crease_Left (O : Alg) (x : Ags O) : XF (O := O) Try.prog g_crease_Left true true [] 29 [] (xr x k_crease_Left 0) = t_crease_Left O x := by kernel_rfl
theorem V_crease_Left {E : Env} {M : Nat} (N : Nat) (h : ∀ ls, E 29 [] ls = c_crease_Left N ls) : VV Try.prog E M ⟨29, [], true, true, []⟩ :=
  valid_tab mix (E := env_crease_Left N) (N := N) (cfg := g_crease_Left) (ci := ⟨29, [], true, true, []⟩) (ks := k_crease_Left) gam_nil (c := c_crease_Left N) (F := fun ls => t_crease_Left (std (env_crease_Left N) N) (xOf ls)) (fun ls => rfl) (fun ls => xf_crease_Left (std (env_crease_Left N) N) (xOf ls)) h
def g_innings_Ending : Cfg := { gam := [⟨13, [], true, true, []⟩, ⟨28, [], true, true, []⟩, ⟨29, [], true, true, []⟩], imm := false, old := false }
theorem xf_innings_Ending (O : Alg) (x : Ags O) : XF (O := O) Try.prog g_innings_Ending true true [] 14 [] (xr x k_innings_Ending 0) = t_innings_Ending O x := by kernel_rfl
theorem V_innings_Ending {E : Env} {M : Nat} (N : Nat) (h : ∀ ls, E 14 [] ls = c_innings_Ending N ls) : VV Try.prog E M ⟨14, [], true, true, []⟩ :=
  valid_tab mix (E := env_innings_Ending N) (N := N) (cfg := g_innings_Ending) (ci := ⟨14, [], true, true, []⟩) (ks := k_innings_Ending) (gam_cons (V_innings_Valid N (fun _ => rfl)) (gam_cons (V_crease_Vacant N (fun _ => rfl)) (gam_cons (V_crease_Left N (fun _ => rfl)) gam_nil))) (c := c_innings_Ending N) (F := fun ls => t_innings_Ending (std (env_innings_Ending N) N) (xOf ls)) (fun ls => rfl) (fun ls => xf_innings_Ending (std (env_innings_Ending N) N) (xOf ls)) h
def g_event_bounds : Cfg := { gam := [], imm := false, old := false }
theorem xf_event_bounds (O : Alg) (x : Ags O) : XF (O := O) Try.prog g_event_bounds true true [] 30 [] (xr x k_event_bounds 0) = t_event_bounds O x := by kernel_rfl
theorem V_event_bounds {E : Env} {M : Nat} (N : Nat) (h : ∀ ls, E 30 [] ls = c_event_bounds N ls) : VV Try.prog E M ⟨30, [], true, true, []⟩ :=
  valid_tab mix (E := env_event_bounds N) (N := N) (cfg := g_event_bounds) (ci := ⟨30, [], true, true, []⟩) (ks := k_event_bounds) gam_nil (c := c_event_bounds N) (F := fun ls => t_event_bounds (std (env_event_bounds N) N) (xOf ls)) (fun ls => rfl) (fun ls => xf_event_bounds (std (env_event_bounds N) N) (xOf ls)) h
def g_event_between : Cfg := { gam := [], imm := false, old := false }
theorem xf_event_between (O : Alg) (x : Ags O) : XF (O := O) Try.prog g_event_between true true [] 31 [] (xr x k_event_between 0) = t_event_between O x := by kernel_rfl
theorem V_event_between {E : Env} {M : Nat} (N : Nat) (h : ∀ ls, E 31 [] ls = c_event_between N ls) : VV Try.prog E M ⟨31, [], true, true, []⟩ :=
  valid_tab mix (E := env_event_between N) (N := N) (cfg := g_event_between) (ci := ⟨31, [], true, true, []⟩) (ks := k_event_between) gam_nil (c := c_event_between N) (F := fun ls => t_event_between (std (env_event_between N) N) (xOf ls)) (fun ls => rfl) (fun ls => xf_event_between (std (env_event_between N) N) (xOf ls)) h
open Go.RowKit Go.Lib in
set_option maxHeartbeats 1000000 in
theorem idx_stringslite_IndexByte (s : ByteArray) (c : Int) (w : World) : Calls Try.prog 83 #[.string s, .int .u8 c] w fun e w' => e = .returned (.int .i64 (Lib.indexByte s.data.toList c.toNat.toUInt8)) ∧ w' = w := by
  go_enter Try.func83, Try.ntmps83
  go_wp2
  rw [run_callFunc_extern Try.func89 (by kernel_rfl) (by kernel_rfl) (by kernel_rfl) (e := Extern.BytealgIndexByte.indexByte) (by kernel_rfl), Lib.run_indexByteString]
  simp only [Result.andThen]
  rw [Oper.upon_value]
  go_wp2
  go_ret
  exact ⟨rfl, rfl⟩
theorem V_stringslite_IndexByte {E : Env} {M : Nat} (N : Nat) (h : ∀ ls, E 83 [] ls = c_stringslite_IndexByte N ls) : VV Try.prog E M ⟨83, [], true, true, []⟩ :=
  valid_index Try.func83 (T9 := 9) (T5 := 5) (T3 := 3) rfl rfl Try.underlying9 Try.underlying5 Try.underlying3 (by kernel_rfl) idx_stringslite_IndexByte h
def g_strings_IndexByte : Cfg := { gam := [⟨83, [], true, true, []⟩], imm := false, old := false }
theorem xf_strings_IndexByte (O : Alg) (x : Ags O) : XF (O := O) Try.prog g_strings_IndexByte true true [] 61 [] (xr x k_strings_IndexByte 0) = t_strings_IndexByte O x := by kernel_rfl
theorem V_strings_IndexByte {E : Env} {M : Nat} (N : Nat) (h : ∀ ls, E 61 [] ls = c_strings_IndexByte N ls) : VV Try.prog E M ⟨61, [], true, true, []⟩ :=
  valid_tab mix (E := env_strings_IndexByte N) (N := N) (cfg := g_strings_IndexByte) (ci := ⟨61, [], true, true, []⟩) (ks := k_strings_IndexByte) (gam_cons (V_stringslite_IndexByte N (fun _ => rfl)) gam_nil) (c := c_strings_IndexByte N) (F := fun ls => t_strings_IndexByte (std (env_strings_IndexByte N) N) (xOf ls)) (fun ls => rfl) (fun ls => xf_strings_IndexByte (std (env_strings_IndexByte N) N) (xOf ls)) h
def g_event_forms : Cfg := { gam := [], imm := false, old := false }
theorem xf_event_forms (O : Alg) (x : Ags O) : XF (O := O) Try.prog g_event_forms true true [] 62 [] (xr x k_event_forms 0) = t_event_forms O x := by kernel_rfl
theorem V_event_forms {E : Env} {M : Nat} (N : Nat) (h : ∀ ls, E 62 [] ls = c_event_forms N ls) : VV Try.prog E M ⟨62, [], true, true, []⟩ :=
  valid_tab mix (E := env_event_forms N) (N := N) (cfg := g_event_forms) (ci := ⟨62, [], true, true, []⟩) (ks := k_event_forms) gam_nil (c := c_event_forms N) (F := fun ls => t_event_forms (std (env_event_forms N) N) (xOf ls)) (fun ls => rfl) (fun ls => xf_event_forms (std (env_event_forms N) N) (xOf ls)) h
def g_event_uses : Cfg := { gam := [⟨61, [], true, true, []⟩, ⟨62, [], true, true, []⟩], imm := false, old := false }
theorem xf_event_uses (O : Alg) (x : Ags O) : XF (O := O) Try.prog g_event_uses true true [] 32 [] (xr x k_event_uses 0) = t_event_uses O x := by kernel_rfl
theorem V_event_uses {E : Env} {M : Nat} (N : Nat) (h : ∀ ls, E 32 [] ls = c_event_uses N ls) : VV Try.prog E M ⟨32, [], true, true, []⟩ :=
  valid_tab mix (E := env_event_uses N) (N := N) (cfg := g_event_uses) (ci := ⟨32, [], true, true, []⟩) (ks := k_event_uses) (gam_cons (V_strings_IndexByte N (fun _ => rfl)) (gam_cons (V_event_forms N (fun _ => rfl)) gam_nil)) (c := c_event_uses N) (F := fun ls => t_event_uses (std (env_event_uses N) N) (xOf ls)) (fun ls => rfl) (fun ls => xf_event_uses (std (env_event_uses N) N) (xOf ls)) h
def g_notation_between : Cfg := { gam := [], imm := false, old := false }
theorem xf_notation_between (O : Alg) (x : Ags O) : XF (O := O) Try.prog g_notation_between true true [] 63 [] (xr x k_notation_between 0) = t_notation_between O x := by kernel_rfl
theorem V_notation_between {E : Env} {M : Nat} (N : Nat) (h : ∀ ls, E 63 [] ls = c_notation_between N ls) : VV Try.prog E M ⟨63, [], true, true, []⟩ :=
  valid_tab mix (E := env_notation_between N) (N := N) (cfg := g_notation_between) (ci := ⟨63, [], true, true, []⟩) (ks := k_notation_between) gam_nil (c := c_notation_between N) (F := fun ls => t_notation_between (std (env_notation_between N) N) (xOf ls)) (fun ls => rfl) (fun ls => xf_notation_between (std (env_notation_between N) N) (xOf ls)) h
def g_notation_Check : Cfg := { gam := [⟨63, [], true, true, []⟩], imm := false, old := false }
theorem xf_notation_Check (O : Alg) (x : Ags O) : XF (O := O) Try.prog g_notation_Check true true [] 33 [] (xr x k_notation_Check 0) = t_notation_Check O x := by kernel_rfl
theorem V_notation_Check {E : Env} {M : Nat} (N : Nat) (h : ∀ ls, E 33 [] ls = c_notation_Check N ls) : VV Try.prog E M ⟨33, [], true, true, []⟩ :=
  valid_tab mix (E := env_notation_Check N) (N := N) (cfg := g_notation_Check) (ci := ⟨33, [], true, true, []⟩) (ks := k_notation_Check) (gam_cons (V_notation_between N (fun _ => rfl)) gam_nil) (c := c_notation_Check N) (F := fun ls => t_notation_Check (std (env_notation_Check N) N) (xOf ls)) (fun ls => rfl) (fun ls => xf_notation_Check (std (env_notation_Check N) N) (xOf ls)) h
def g_event_Check : Cfg := { gam := [⟨30, [], true, true, []⟩, ⟨31, [], true, true, []⟩, ⟨32, [], true, true, []⟩, ⟨33, [], true, true, []⟩], imm := false, old := false }
theorem xf_event_Check (O : Alg) (x : Ags O) : XF (O := O) Try.prog g_event_Check true true [] 17 [] (xr x k_event_Check 0) = t_event_Check O x := by kernel_rfl
theorem V_event_Check {E : Env} {M : Nat} (N : Nat) (h : ∀ ls, E 17 [] ls = c_event_Check N ls) : VV Try.prog E M ⟨17, [], true, true, []⟩ :=
  valid_tab mix (E := env_event_Check N) (N := N) (cfg := g_event_Check) (ci := ⟨17, [], true, true, []⟩) (ks := k_event_Check) (gam_cons (V_event_bounds N (fun _ => rfl)) (gam_cons (V_event_between N (fun _ => rfl)) (gam_cons (V_event_uses N (fun _ => rfl)) (gam_cons (V_notation_Check N (fun _ => rfl)) gam_nil)))) (c := c_event_Check N) (F := fun ls => t_event_Check (std (env_event_Check N) N) (xOf ls)) (fun ls => rfl) (fun ls => xf_event_Check (std (env_event_Check N) N) (xOf ls)) h
theorem V_slices_Clone_Status {E : Env} {M : Nat} (N : Nat) (h : ∀ ls, E 34 [] ls = c_slices_Clone_Status N ls) : VV Try.prog E M ⟨34, [], true, true, []⟩ :=
  valid_clone mix (T := 27) (e := 79) (b := 1) Try.func34 Try.underlying27 (by kernel_rfl) (by decide) (fun O l => by kernel_rfl) (fun O l => by kernel_rfl) h
theorem V_slices_Clone_int {E : Env} {M : Nat} (N : Nat) (h : ∀ ls, E 35 [] ls = c_slices_Clone_int N ls) : VV Try.prog E M ⟨35, [], true, true, []⟩ :=
  valid_clone mix (T := 28) (e := 3) (b := 8) Try.func35 Try.underlying28 (by kernel_rfl) (by decide) (fun O l => by kernel_rfl) (fun O l => by kernel_rfl) h
theorem V_slices_Clone_bool {E : Env} {M : Nat} (N : Nat) (h : ∀ ls, E 36 [] ls = c_slices_Clone_bool N ls) : VV Try.prog E M ⟨36, [], true, true, []⟩ :=
  valid_clone mix (T := 29) (e := 4) (b := 1) Try.func36 Try.underlying29 (by kernel_rfl) (by decide) (fun O l => by kernel_rfl) (fun O l => by kernel_rfl) h
def g_innings_Clone : Cfg := { gam := [⟨34, [], true, true, []⟩, ⟨35, [], true, true, []⟩, ⟨36, [], true, true, []⟩], imm := false, old := false }
theorem xf_innings_Clone (O : Alg) (x : Ags O) : XF (O := O) Try.prog g_innings_Clone true true [] 18 [] (xr x k_innings_Clone 0) = t_innings_Clone O x := by kernel_rfl
theorem V_innings_Clone {E : Env} {M : Nat} (N : Nat) (h : ∀ ls, E 18 [] ls = c_innings_Clone N ls) : VV Try.prog E M ⟨18, [], true, true, []⟩ :=
  valid_tab mix (E := env_innings_Clone N) (N := N) (cfg := g_innings_Clone) (ci := ⟨18, [], true, true, []⟩) (ks := k_innings_Clone) (gam_cons (V_slices_Clone_Status N (fun _ => rfl)) (gam_cons (V_slices_Clone_int N (fun _ => rfl)) (gam_cons (V_slices_Clone_bool N (fun _ => rfl)) gam_nil))) (c := c_innings_Clone N) (F := fun ls => t_innings_Clone (std (env_innings_Clone N) N) (xOf ls)) (fun ls => rfl) (fun ls => xf_innings_Clone (std (env_innings_Clone N) N) (xOf ls)) h
def g_innings_begun_1 : Cfg := { gam := [], imm := false, old := false }
theorem xf_innings_begun_1 (O : Alg) (x : Ags O) : XF (O := O) Try.prog g_innings_begun_1 true true [] 38 [] (xr x k_innings_begun_1 0) = t_innings_begun_1 O x := by kernel_rfl
theorem V_innings_begun_1 {E : Env} {M : Nat} (N : Nat) (h : ∀ ls, E 38 [] ls = c_innings_begun_1 N ls) : VV Try.prog E M ⟨38, [], true, true, []⟩ :=
  valid_tab mix (E := env_innings_begun_1 N) (N := N) (cfg := g_innings_begun_1) (ci := ⟨38, [], true, true, []⟩) (ks := k_innings_begun_1) gam_nil (c := c_innings_begun_1 N) (F := fun ls => t_innings_begun_1 (std (env_innings_begun_1 N) N) (xOf ls)) (fun ls => rfl) (fun ls => xf_innings_begun_1 (std (env_innings_begun_1 N) N) (xOf ls)) h
def g_innings_begun : Cfg := { gam := [⟨38, [], true, true, []⟩], imm := false, old := false }
theorem xf_innings_begun (O : Alg) (x : Ags O) : XF (O := O) Try.prog g_innings_begun true true [] 19 [] (xr x k_innings_begun 0) = t_innings_begun O x := by kernel_rfl
theorem V_innings_begun {E : Env} {M : Nat} (N : Nat) (h : ∀ ls, E 19 [] ls = c_innings_begun N ls) : VV Try.prog E M ⟨19, [], true, true, []⟩ :=
  valid_tab mix (E := env_innings_begun N) (N := N) (cfg := g_innings_begun) (ci := ⟨19, [], true, true, []⟩) (ks := k_innings_begun) (gam_cons (V_innings_begun_1 N (fun _ => rfl)) gam_nil) (c := c_innings_begun N) (F := fun ls => t_innings_begun (std (env_innings_begun N) N) (xOf ls)) (fun ls => rfl) (fun ls => xf_innings_begun (std (env_innings_begun N) N) (xOf ls)) h
def g_crease_own : Cfg := { gam := [⟨34, [], true, true, []⟩, ⟨35, [], true, true, []⟩, ⟨36, [], true, true, []⟩], imm := false, old := false }
theorem xf_crease_own (O : Alg) (x : Ags O) : XF (O := O) Try.prog g_crease_own true true [] 65 [] (xr x k_crease_own 0) = t_crease_own O x := by kernel_rfl
theorem V_crease_own {E : Env} {M : Nat} (N : Nat) (h : ∀ ls, E 65 [] ls = c_crease_own N ls) : VV Try.prog E M ⟨65, [], true, true, []⟩ :=
  valid_tab mix (E := env_crease_own N) (N := N) (cfg := g_crease_own) (ci := ⟨65, [], true, true, []⟩) (ks := k_crease_own) (gam_cons (V_slices_Clone_Status N (fun _ => rfl)) (gam_cons (V_slices_Clone_int N (fun _ => rfl)) (gam_cons (V_slices_Clone_bool N (fun _ => rfl)) gam_nil))) (c := c_crease_own N) (F := fun ls => t_crease_own (std (env_crease_own N) N) (xOf ls)) (fun ls => rfl) (fun ls => xf_crease_own (std (env_crease_own N) N) (xOf ls)) h
def g_crease_known : Cfg := { gam := [], imm := false, old := false }
theorem xf_crease_known (O : Alg) (x : Ags O) : XF (O := O) Try.prog g_crease_known true true [] 66 [] (xr x k_crease_known 0) = t_crease_known O x := by kernel_rfl
theorem V_crease_known {E : Env} {M : Nat} (N : Nat) (h : ∀ ls, E 66 [] ls = c_crease_known N ls) : VV Try.prog E M ⟨66, [], true, true, []⟩ :=
  valid_tab mix (E := env_crease_known N) (N := N) (cfg := g_crease_known) (ci := ⟨66, [], true, true, []⟩) (ks := k_crease_known) gam_nil (c := c_crease_known N) (F := fun ls => t_crease_known (std (env_crease_known N) N) (xOf ls)) (fun ls => rfl) (fun ls => xf_crease_known (std (env_crease_known N) N) (xOf ls)) h
def g_crease_Open : Cfg := { gam := [⟨60, [], true, true, []⟩, ⟨65, [], true, true, []⟩, ⟨66, [], true, true, []⟩], imm := false, old := false }
theorem xf_crease_Open (O : Alg) (x : Ags O) : XF (O := O) Try.prog g_crease_Open true true [] 39 [] (xr x k_crease_Open 0) = t_crease_Open O x := by kernel_rfl
theorem V_crease_Open {E : Env} {M : Nat} (N : Nat) (h : ∀ ls, E 39 [] ls = c_crease_Open N ls) : VV Try.prog E M ⟨39, [], true, true, []⟩ :=
  valid_tab mix (E := env_crease_Open N) (N := N) (cfg := g_crease_Open) (ci := ⟨39, [], true, true, []⟩) (ks := k_crease_Open) (gam_cons (V_crease_begun N (fun _ => rfl)) (gam_cons (V_crease_own N (fun _ => rfl)) (gam_cons (V_crease_known N (fun _ => rfl)) gam_nil))) (c := c_crease_Open N) (F := fun ls => t_crease_Open (std (env_crease_Open N) N) (xOf ls)) (fun ls => rfl) (fun ls => xf_crease_Open (std (env_crease_Open N) N) (xOf ls)) h
def g_spell_own : Cfg := { gam := [⟨34, [], true, true, []⟩, ⟨35, [], true, true, []⟩, ⟨36, [], true, true, []⟩], imm := false, old := false }
theorem xf_spell_own (O : Alg) (x : Ags O) : XF (O := O) Try.prog g_spell_own true true [] 67 [] (xr x k_spell_own 0) = t_spell_own O x := by kernel_rfl
theorem V_spell_own {E : Env} {M : Nat} (N : Nat) (h : ∀ ls, E 67 [] ls = c_spell_own N ls) : VV Try.prog E M ⟨67, [], true, true, []⟩ :=
  valid_tab mix (E := env_spell_own N) (N := N) (cfg := g_spell_own) (ci := ⟨67, [], true, true, []⟩) (ks := k_spell_own) (gam_cons (V_slices_Clone_Status N (fun _ => rfl)) (gam_cons (V_slices_Clone_int N (fun _ => rfl)) (gam_cons (V_slices_Clone_bool N (fun _ => rfl)) gam_nil))) (c := c_spell_own N) (F := fun ls => t_spell_own (std (env_spell_own N) N) (xOf ls)) (fun ls => rfl) (fun ls => xf_spell_own (std (env_spell_own N) N) (xOf ls)) h
def g_spell_known : Cfg := { gam := [], imm := false, old := false }
theorem xf_spell_known (O : Alg) (x : Ags O) : XF (O := O) Try.prog g_spell_known true true [] 84 [] (xr x k_spell_known 0) = t_spell_known O x := by kernel_rfl
theorem V_spell_known {E : Env} {M : Nat} (N : Nat) (h : ∀ ls, E 84 [] ls = c_spell_known N ls) : VV Try.prog E M ⟨84, [], true, true, []⟩ :=
  valid_tab mix (E := env_spell_known N) (N := N) (cfg := g_spell_known) (ci := ⟨84, [], true, true, []⟩) (ks := k_spell_known) gam_nil (c := c_spell_known N) (F := fun ls => t_spell_known (std (env_spell_known N) N) (xOf ls)) (fun ls => rfl) (fun ls => xf_spell_known (std (env_spell_known N) N) (xOf ls)) h
def g_spell_Room : Cfg := { gam := [⟨23, [], true, true, []⟩, ⟨84, [], true, true, []⟩], imm := false, old := false }
theorem xf_spell_Room (O : Alg) (x : Ags O) : XF (O := O) Try.prog g_spell_Room true true [] 85 [] (xr x k_spell_Room 0) = t_spell_Room O x := by kernel_rfl
theorem V_spell_Room {E : Env} {M : Nat} (N : Nat) (h : ∀ ls, E 85 [] ls = c_spell_Room N ls) : VV Try.prog E M ⟨85, [], true, true, []⟩ :=
  valid_tab mix (E := env_spell_Room N) (N := N) (cfg := g_spell_Room) (ci := ⟨85, [], true, true, []⟩) (ks := k_spell_Room) (gam_cons (V_rules_Check N (fun _ => rfl)) (gam_cons (V_spell_known N (fun _ => rfl)) gam_nil)) (c := c_spell_Room N) (F := fun ls => t_spell_Room (std (env_spell_Room N) N) (xOf ls)) (fun ls => rfl) (fun ls => xf_spell_Room (std (env_spell_Room N) N) (xOf ls)) h
def g_spell_May : Cfg := { gam := [⟨23, [], true, true, []⟩, ⟨57, [], true, true, []⟩, ⟨84, [], true, true, []⟩, ⟨85, [], true, true, []⟩], imm := false, old := false }
theorem xf_spell_May (O : Alg) (x : Ags O) : XF (O := O) Try.prog g_spell_May true true [] 68 [] (xr x k_spell_May 0) = t_spell_May O x := by kernel_rfl
theorem V_spell_May {E : Env} {M : Nat} (N : Nat) (h : ∀ ls, E 68 [] ls = c_spell_May N ls) : VV Try.prog E M ⟨68, [], true, true, []⟩ :=
  valid_tab mix (E := env_spell_May N) (N := N) (cfg := g_spell_May) (ci := ⟨68, [], true, true, []⟩) (ks := k_spell_May) (gam_cons (V_rules_Check N (fun _ => rfl)) (gam_cons (V_slices_Contains_int N (fun _ => rfl)) (gam_cons (V_spell_known N (fun _ => rfl)) (gam_cons (V_spell_Room N (fun _ => rfl)) gam_nil)))) (c := c_spell_May N) (F := fun ls => t_spell_May (std (env_spell_May N) N) (xOf ls)) (fun ls => rfl) (fun ls => xf_spell_May (std (env_spell_May N) N) (xOf ls)) h
def g_spell_Take : Cfg := { gam := [⟨67, [], true, true, []⟩, ⟨68, [], true, true, []⟩], imm := false, old := false }
theorem xf_spell_Take (O : Alg) (x : Ags O) : XF (O := O) Try.prog g_spell_Take true true [] 40 [] (xr x k_spell_Take 0) = t_spell_Take O x := by kernel_rfl
theorem V_spell_Take {E : Env} {M : Nat} (N : Nat) (h : ∀ ls, E 40 [] ls = c_spell_Take N ls) : VV Try.prog E M ⟨40, [], true, true, []⟩ :=
  valid_tab mix (E := env_spell_Take N) (N := N) (cfg := g_spell_Take) (ci := ⟨40, [], true, true, []⟩) (ks := k_spell_Take) (gam_cons (V_spell_own N (fun _ => rfl)) (gam_cons (V_spell_May N (fun _ => rfl)) gam_nil)) (c := c_spell_Take N) (F := fun ls => t_spell_Take (std (env_spell_Take N) N) (xOf ls)) (fun ls => rfl) (fun ls => xf_spell_Take (std (env_spell_Take N) N) (xOf ls)) h
def g_delivery_together : Cfg := { gam := [], imm := false, old := false }
theorem xf_delivery_together (O : Alg) (x : Ags O) : XF (O := O) Try.prog g_delivery_together true true [] 53 [] (xr x k_delivery_together 0) = t_delivery_together O x := by kernel_rfl
theorem V_delivery_together {E : Env} {M : Nat} (N : Nat) (h : ∀ ls, E 53 [] ls = c_delivery_together N ls) : VV Try.prog E M ⟨53, [], true, true, []⟩ :=
  valid_tab mix (E := env_delivery_together N) (N := N) (cfg := g_delivery_together) (ci := ⟨53, [], true, true, []⟩) (ks := k_delivery_together) gam_nil (c := c_delivery_together N) (F := fun ls => t_delivery_together (std (env_delivery_together N) N) (xOf ls)) (fun ls => rfl) (fun ls => xf_delivery_together (std (env_delivery_together N) N) (xOf ls)) h
def g_delivery_Legal : Cfg := { gam := [⟨53, [], true, true, []⟩], imm := false, old := false }
theorem xf_delivery_Legal (O : Alg) (x : Ags O) : XF (O := O) Try.prog g_delivery_Legal true true [] 21 [] (xr x k_delivery_Legal 0) = t_delivery_Legal O x := by kernel_rfl
theorem V_delivery_Legal {E : Env} {M : Nat} (N : Nat) (h : ∀ ls, E 21 [] ls = c_delivery_Legal N ls) : VV Try.prog E M ⟨21, [], true, true, []⟩ :=
  valid_tab mix (E := env_delivery_Legal N) (N := N) (cfg := g_delivery_Legal) (ci := ⟨21, [], true, true, []⟩) (ks := k_delivery_Legal) (gam_cons (V_delivery_together N (fun _ => rfl)) gam_nil) (c := c_delivery_Legal N) (F := fun ls => t_delivery_Legal (std (env_delivery_Legal N) N) (xOf ls)) (fun ls => rfl) (fun ls => xf_delivery_Legal (std (env_delivery_Legal N) N) (xOf ls)) h
def g_delivery_Credited : Cfg := { gam := [], imm := false, old := false }
theorem xf_delivery_Credited (O : Alg) (x : Ags O) : XF (O := O) Try.prog g_delivery_Credited true true [] 22 [] (xr x k_delivery_Credited 0) = t_delivery_Credited O x := by kernel_rfl
theorem V_delivery_Credited {E : Env} {M : Nat} (N : Nat) (h : ∀ ls, E 22 [] ls = c_delivery_Credited N ls) : VV Try.prog E M ⟨22, [], true, true, []⟩ :=
  valid_tab mix (E := env_delivery_Credited N) (N := N) (cfg := g_delivery_Credited) (ci := ⟨22, [], true, true, []⟩) (ks := k_delivery_Credited) gam_nil (c := c_delivery_Credited N) (F := fun ls => t_delivery_Credited (std (env_delivery_Credited N) N) (xOf ls)) (fun ls => rfl) (fun ls => xf_delivery_Credited (std (env_delivery_Credited N) N) (xOf ls)) h
def g_delivery_Credit : Cfg := { gam := [⟨21, [], true, true, []⟩, ⟨22, [], true, true, []⟩], imm := false, old := false }
theorem xf_delivery_Credit (O : Alg) (x : Ags O) : XF (O := O) Try.prog g_delivery_Credit true true [] 10 [] (xr x k_delivery_Credit 0) = t_delivery_Credit O x := by kernel_rfl
theorem V_delivery_Credit {E : Env} {M : Nat} (N : Nat) (h : ∀ ls, E 10 [] ls = c_delivery_Credit N ls) : VV Try.prog E M ⟨10, [], true, true, []⟩ :=
  valid_tab mix (E := env_delivery_Credit N) (N := N) (cfg := g_delivery_Credit) (ci := ⟨10, [], true, true, []⟩) (ks := k_delivery_Credit) (gam_cons (V_delivery_Legal N (fun _ => rfl)) (gam_cons (V_delivery_Credited N (fun _ => rfl)) gam_nil)) (c := c_delivery_Credit N) (F := fun ls => t_delivery_Credit (std (env_delivery_Credit N) N) (xOf ls)) (fun ls => rfl) (fun ls => xf_delivery_Credit (std (env_delivery_Credit N) N) (xOf ls)) h
def g_delivery_Total : Cfg := { gam := [], imm := false, old := false }
theorem xf_delivery_Total (O : Alg) (x : Ags O) : XF (O := O) Try.prog g_delivery_Total true true [] 11 [] (xr x k_delivery_Total 0) = t_delivery_Total O x := by kernel_rfl
theorem V_delivery_Total {E : Env} {M : Nat} (N : Nat) (h : ∀ ls, E 11 [] ls = c_delivery_Total N ls) : VV Try.prog E M ⟨11, [], true, true, []⟩ :=
  valid_tab mix (E := env_delivery_Total N) (N := N) (cfg := g_delivery_Total) (ci := ⟨11, [], true, true, []⟩) (ks := k_delivery_Total) gam_nil (c := c_delivery_Total N) (F := fun ls => t_delivery_Total (std (env_delivery_Total N) N) (xOf ls)) (fun ls => rfl) (fun ls => xf_delivery_Total (std (env_delivery_Total N) N) (xOf ls)) h
def g_field_known : Cfg := { gam := [], imm := false, old := false }
theorem xf_field_known (O : Alg) (x : Ags O) : XF (O := O) Try.prog g_field_known true true [] 76 [] (xr x k_field_known 0) = t_field_known O x := by kernel_rfl
theorem V_field_known {E : Env} {M : Nat} (N : Nat) (h : ∀ ls, E 76 [] ls = c_field_known N ls) : VV Try.prog E M ⟨76, [], true, true, []⟩ :=
  valid_tab mix (E := env_field_known N) (N := N) (cfg := g_field_known) (ci := ⟨76, [], true, true, []⟩) (ks := k_field_known) gam_nil (c := c_field_known N) (F := fun ls => t_field_known (std (env_field_known N) N) (xOf ls)) (fun ls => rfl) (fun ls => xf_field_known (std (env_field_known N) N) (xOf ls)) h
def g_field_replaced : Cfg := { gam := [⟨76, [], true, true, []⟩], imm := false, old := false }
theorem xf_field_replaced (O : Alg) (x : Ags O) : XF (O := O) Try.prog g_field_replaced true true [] 77 [] (xr x k_field_replaced 0) = t_field_replaced O x := by kernel_rfl
theorem V_field_replaced {E : Env} {M : Nat} (N : Nat) (h : ∀ ls, E 77 [] ls = c_field_replaced N ls) : VV Try.prog E M ⟨77, [], true, true, []⟩ :=
  valid_tab mix (E := env_field_replaced N) (N := N) (cfg := g_field_replaced) (ci := ⟨77, [], true, true, []⟩) (ks := k_field_replaced) (gam_cons (V_field_known N (fun _ => rfl)) gam_nil) (c := c_field_replaced N) (F := fun ls => t_field_replaced (std (env_field_replaced N) N) (xOf ls)) (fun ls => rfl) (fun ls => xf_field_replaced (std (env_field_replaced N) N) (xOf ls)) h
def g_rules_Allowed : Cfg := { gam := [], imm := false, old := false }
theorem xf_rules_Allowed (O : Alg) (x : Ags O) : XF (O := O) Try.prog g_rules_Allowed true true [] 90 [] (xr x k_rules_Allowed 0) = t_rules_Allowed O x := by kernel_rfl
theorem V_rules_Allowed {E : Env} {M : Nat} (N : Nat) (h : ∀ ls, E 90 [] ls = c_rules_Allowed N ls) : VV Try.prog E M ⟨90, [], true, true, []⟩ :=
  valid_tab mix (E := env_rules_Allowed N) (N := N) (cfg := g_rules_Allowed) (ci := ⟨90, [], true, true, []⟩) (ks := k_rules_Allowed) gam_nil (c := c_rules_Allowed N) (F := fun ls => t_rules_Allowed (std (env_rules_Allowed N) N) (xOf ls)) (fun ls => rfl) (fun ls => xf_rules_Allowed (std (env_rules_Allowed N) N) (xOf ls)) h
def g_field_Ready : Cfg := { gam := [⟨76, [], true, true, []⟩, ⟨77, [], true, true, []⟩, ⟨90, [], true, true, []⟩], imm := false, old := false }
theorem xf_field_Ready (O : Alg) (x : Ags O) : XF (O := O) Try.prog g_field_Ready true true [] 86 [] (xr x k_field_Ready 0) = t_field_Ready O x := by kernel_rfl
theorem V_field_Ready {E : Env} {M : Nat} (N : Nat) (h : ∀ ls, E 86 [] ls = c_field_Ready N ls) : VV Try.prog E M ⟨86, [], true, true, []⟩ :=
  valid_tab mix (E := env_field_Ready N) (N := N) (cfg := g_field_Ready) (ci := ⟨86, [], true, true, []⟩) (ks := k_field_Ready) (gam_cons (V_field_known N (fun _ => rfl)) (gam_cons (V_field_replaced N (fun _ => rfl)) (gam_cons (V_rules_Allowed N (fun _ => rfl)) gam_nil))) (c := c_field_Ready N) (F := fun ls => t_field_Ready (std (env_field_Ready N) N) (xOf ls)) (fun ls => rfl) (fun ls => xf_field_Ready (std (env_field_Ready N) N) (xOf ls)) h
def g_dismissal_table : Cfg := { gam := [], imm := false, old := false }
theorem xf_dismissal_table (O : Alg) (x : Ags O) : XF (O := O) Try.prog g_dismissal_table true true [] 95 [] (xr x k_dismissal_table 0) = t_dismissal_table O x := by kernel_rfl
theorem V_dismissal_table {E : Env} {M : Nat} (N : Nat) (h : ∀ ls, E 95 [] ls = c_dismissal_table N ls) : VV Try.prog E M ⟨95, [], true, true, []⟩ :=
  valid_tab mix (E := env_dismissal_table N) (N := N) (cfg := g_dismissal_table) (ci := ⟨95, [], true, true, []⟩) (ks := k_dismissal_table) gam_nil (c := c_dismissal_table N) (F := fun ls => t_dismissal_table (std (env_dismissal_table N) N) (xOf ls)) (fun ls => rfl) (fun ls => xf_dismissal_table (std (env_dismissal_table N) N) (xOf ls)) h
def g_dismissal_of : Cfg := { gam := [⟨95, [], true, true, []⟩], imm := false, old := false }
theorem xf_dismissal_of (O : Alg) (x : Ags O) : XF (O := O) Try.prog g_dismissal_of true true [] 91 [] (xr x k_dismissal_of 0) = t_dismissal_of O x := by kernel_rfl
theorem V_dismissal_of {E : Env} {M : Nat} (N : Nat) (h : ∀ ls, E 91 [] ls = c_dismissal_of N ls) : VV Try.prog E M ⟨91, [], true, true, []⟩ :=
  valid_tab mix (E := env_dismissal_of N) (N := N) (cfg := g_dismissal_of) (ci := ⟨91, [], true, true, []⟩) (ks := k_dismissal_of) (gam_cons (V_dismissal_table N (fun _ => rfl)) gam_nil) (c := c_dismissal_of N) (F := fun ls => t_dismissal_of (std (env_dismissal_of N) N) (xOf ls)) (fun ls => rfl) (fun ls => xf_dismissal_of (std (env_dismissal_of N) N) (xOf ls)) h
def g_slices_Index_How : Cfg := { gam := [], imm := false, old := false }
theorem xf_slices_Index_How (O : Alg) (x : Ags O) : XF (O := O) Try.prog g_slices_Index_How true true [] 96 [] (xr x k_slices_Index_How 0) = t_slices_Index_How O x := by kernel_rfl
theorem V_slices_Index_How {E : Env} {M : Nat} (N : Nat) (h : ∀ ls, E 96 [] ls = c_slices_Index_How N ls) : VV Try.prog E M ⟨96, [], true, true, []⟩ :=
  valid_tab mix (E := env_slices_Index_How N) (N := N) (cfg := g_slices_Index_How) (ci := ⟨96, [], true, true, []⟩) (ks := k_slices_Index_How) gam_nil (c := c_slices_Index_How N) (F := fun ls => t_slices_Index_How (std (env_slices_Index_How N) N) (xOf ls)) (fun ls => rfl) (fun ls => xf_slices_Index_How (std (env_slices_Index_How N) N) (xOf ls)) h
def g_slices_Contains_How : Cfg := { gam := [⟨96, [], true, true, []⟩], imm := false, old := false }
theorem xf_slices_Contains_How (O : Alg) (x : Ags O) : XF (O := O) Try.prog g_slices_Contains_How true true [] 92 [] (xr x k_slices_Contains_How 0) = t_slices_Contains_How O x := by kernel_rfl
theorem V_slices_Contains_How {E : Env} {M : Nat} (N : Nat) (h : ∀ ls, E 92 [] ls = c_slices_Contains_How N ls) : VV Try.prog E M ⟨92, [], true, true, []⟩ :=
  valid_tab mix (E := env_slices_Contains_How N) (N := N) (cfg := g_slices_Contains_How) (ci := ⟨92, [], true, true, []⟩) (ks := k_slices_Contains_How) (gam_cons (V_slices_Index_How N (fun _ => rfl)) gam_nil) (c := c_slices_Contains_How N) (F := fun ls => t_slices_Contains_How (std (env_slices_Contains_How N) N) (xOf ls)) (fun ls => rfl) (fun ls => xf_slices_Contains_How (std (env_slices_Contains_How N) N) (xOf ls)) h
def g_dismissal_way_on : Cfg := { gam := [], imm := false, old := false }
theorem xf_dismissal_way_on (O : Alg) (x : Ags O) : XF (O := O) Try.prog g_dismissal_way_on true true [] 97 [] (xr x k_dismissal_way_on 0) = t_dismissal_way_on O x := by kernel_rfl
theorem V_dismissal_way_on {E : Env} {M : Nat} (N : Nat) (h : ∀ ls, E 97 [] ls = c_dismissal_way_on N ls) : VV Try.prog E M ⟨97, [], true, true, []⟩ :=
  valid_tab mix (E := env_dismissal_way_on N) (N := N) (cfg := g_dismissal_way_on) (ci := ⟨97, [], true, true, []⟩) (ks := k_dismissal_way_on) gam_nil (c := c_dismissal_way_on N) (F := fun ls => t_dismissal_way_on (std (env_dismissal_way_on N) N) (xOf ls)) (fun ls => rfl) (fun ls => xf_dismissal_way_on (std (env_dismissal_way_on N) N) (xOf ls)) h
def g_dismissal_Ways : Cfg := { gam := [⟨95, [], true, true, []⟩, ⟨97, [], true, true, []⟩], imm := false, old := false }
theorem xf_dismissal_Ways (O : Alg) (x : Ags O) : XF (O := O) Try.prog g_dismissal_Ways true true [] 93 [] (xr x k_dismissal_Ways 0) = t_dismissal_Ways O x := by kernel_rfl
theorem V_dismissal_Ways {E : Env} {M : Nat} (N : Nat) (h : ∀ ls, E 93 [] ls = c_dismissal_Ways N ls) : VV Try.prog E M ⟨93, [], true, true, []⟩ :=
  valid_tab mix (E := env_dismissal_Ways N) (N := N) (cfg := g_dismissal_Ways) (ci := ⟨93, [], true, true, []⟩) (ks := k_dismissal_Ways) (gam_cons (V_dismissal_table N (fun _ => rfl)) (gam_cons (V_dismissal_way_on N (fun _ => rfl)) gam_nil)) (c := c_dismissal_Ways N) (F := fun ls => t_dismissal_Ways (std (env_dismissal_Ways N) N) (xOf ls)) (fun ls => rfl) (fun ls => xf_dismissal_Ways (std (env_dismissal_Ways N) N) (xOf ls)) h
def g_dismissal_fielders_1 : Cfg := { gam := [], imm := false, old := false }
theorem xf_dismissal_fielders_1 (O : Alg) (x : Ags O) : XF (O := O) Try.prog g_dismissal_fielders_1 true true [] 98 [] (xr x k_dismissal_fielders_1 0) = t_dismissal_fielders_1 O x := by kernel_rfl
theorem V_dismissal_fielders_1 {E : Env} {M : Nat} (N : Nat) (h : ∀ ls, E 98 [] ls = c_dismissal_fielders_1 N ls) : VV Try.prog E M ⟨98, [], true, true, []⟩ :=
  valid_tab mix (E := env_dismissal_fielders_1 N) (N := N) (cfg := g_dismissal_fielders_1) (ci := ⟨98, [], true, true, []⟩) (ks := k_dismissal_fielders_1) gam_nil (c := c_dismissal_fielders_1 N) (F := fun ls => t_dismissal_fielders_1 (std (env_dismissal_fielders_1 N) N) (xOf ls)) (fun ls => rfl) (fun ls => xf_dismissal_fielders_1 (std (env_dismissal_fielders_1 N) N) (xOf ls)) h
def g_dismissal_fielders : Cfg := { gam := [⟨98, [], true, true, []⟩], imm := false, old := false }
theorem xf_dismissal_fielders (O : Alg) (x : Ags O) : XF (O := O) Try.prog g_dismissal_fielders true true [] 94 [] (xr x k_dismissal_fielders 0) = t_dismissal_fielders O x := by kernel_rfl
theorem V_dismissal_fielders {E : Env} {M : Nat} (N : Nat) (h : ∀ ls, E 94 [] ls = c_dismissal_fielders N ls) : VV Try.prog E M ⟨94, [], true, true, []⟩ :=
  valid_tab mix (E := env_dismissal_fielders N) (N := N) (cfg := g_dismissal_fielders) (ci := ⟨94, [], true, true, []⟩) (ks := k_dismissal_fielders) (gam_cons (V_dismissal_fielders_1 N (fun _ => rfl)) gam_nil) (c := c_dismissal_fielders N) (F := fun ls => t_dismissal_fielders (std (env_dismissal_fielders N) N) (xOf ls)) (fun ls => rfl) (fun ls => xf_dismissal_fielders (std (env_dismissal_fielders N) N) (xOf ls)) h
def g_dismissal_Possible : Cfg := { gam := [⟨91, [], true, true, []⟩, ⟨92, [], true, true, []⟩, ⟨93, [], true, true, []⟩, ⟨94, [], true, true, []⟩], imm := false, old := false }
theorem xf_dismissal_Possible (O : Alg) (x : Ags O) : XF (O := O) Try.prog g_dismissal_Possible true true [] 87 [] (xr x k_dismissal_Possible 0) = t_dismissal_Possible O x := by kernel_rfl
theorem V_dismissal_Possible {E : Env} {M : Nat} (N : Nat) (h : ∀ ls, E 87 [] ls = c_dismissal_Possible N ls) : VV Try.prog E M ⟨87, [], true, true, []⟩ :=
  valid_tab mix (E := env_dismissal_Possible N) (N := N) (cfg := g_dismissal_Possible) (ci := ⟨87, [], true, true, []⟩) (ks := k_dismissal_Possible) (gam_cons (V_dismissal_of N (fun _ => rfl)) (gam_cons (V_slices_Contains_How N (fun _ => rfl)) (gam_cons (V_dismissal_Ways N (fun _ => rfl)) (gam_cons (V_dismissal_fielders N (fun _ => rfl)) gam_nil)))) (c := c_dismissal_Possible N) (F := fun ls => t_dismissal_Possible (std (env_dismissal_Possible N) N) (xOf ls)) (fun ls => rfl) (fun ls => xf_dismissal_Possible (std (env_dismissal_Possible N) N) (xOf ls)) h
def g_field_Named : Cfg := { gam := [⟨76, [], true, true, []⟩, ⟨77, [], true, true, []⟩], imm := false, old := false }
theorem xf_field_Named (O : Alg) (x : Ags O) : XF (O := O) Try.prog g_field_Named true true [] 88 [] (xr x k_field_Named 0) = t_field_Named O x := by kernel_rfl
theorem V_field_Named {E : Env} {M : Nat} (N : Nat) (h : ∀ ls, E 88 [] ls = c_field_Named N ls) : VV Try.prog E M ⟨88, [], true, true, []⟩ :=
  valid_tab mix (E := env_field_Named N) (N := N) (cfg := g_field_Named) (ci := ⟨88, [], true, true, []⟩) (ks := k_field_Named) (gam_cons (V_field_known N (fun _ => rfl)) (gam_cons (V_field_replaced N (fun _ => rfl)) gam_nil)) (c := c_field_Named N) (F := fun ls => t_field_Named (std (env_field_Named N) N) (xOf ls)) (fun ls => rfl) (fun ls => xf_field_Named (std (env_field_Named N) N) (xOf ls)) h
def g_innings_refused : Cfg := { gam := [⟨21, [], true, true, []⟩, ⟨28, [], true, true, []⟩, ⟨86, [], true, true, []⟩, ⟨87, [], true, true, []⟩, ⟨88, [], true, true, []⟩], imm := false, old := false }
theorem xf_innings_refused (O : Alg) (x : Ags O) : XF (O := O) Try.prog g_innings_refused true true [] 69 [] (xr x k_innings_refused 0) = t_innings_refused O x := by kernel_rfl
theorem V_innings_refused {E : Env} {M : Nat} (N : Nat) (h : ∀ ls, E 69 [] ls = c_innings_refused N ls) : VV Try.prog E M ⟨69, [], true, true, []⟩ :=
  valid_tab mix (E := env_innings_refused N) (N := N) (cfg := g_innings_refused) (ci := ⟨69, [], true, true, []⟩) (ks := k_innings_refused) (gam_cons (V_delivery_Legal N (fun _ => rfl)) (gam_cons (V_crease_Vacant N (fun _ => rfl)) (gam_cons (V_field_Ready N (fun _ => rfl)) (gam_cons (V_dismissal_Possible N (fun _ => rfl)) (gam_cons (V_field_Named N (fun _ => rfl)) gam_nil))))) (c := c_innings_refused N) (F := fun ls => t_innings_refused (std (env_innings_refused N) N) (xOf ls)) (fun ls => rfl) (fun ls => xf_innings_refused (std (env_innings_refused N) N) (xOf ls)) h
def g_crease_Ran : Cfg := { gam := [⟨65, [], true, true, []⟩, ⟨66, [], true, true, []⟩], imm := false, old := false }
theorem xf_crease_Ran (O : Alg) (x : Ags O) : XF (O := O) Try.prog g_crease_Ran true true [] 70 [] (xr x k_crease_Ran 0) = t_crease_Ran O x := by kernel_rfl
theorem V_crease_Ran {E : Env} {M : Nat} (N : Nat) (h : ∀ ls, E 70 [] ls = c_crease_Ran N ls) : VV Try.prog E M ⟨70, [], true, true, []⟩ :=
  valid_tab mix (E := env_crease_Ran N) (N := N) (cfg := g_crease_Ran) (ci := ⟨70, [], true, true, []⟩) (ks := k_crease_Ran) (gam_cons (V_crease_own N (fun _ => rfl)) (gam_cons (V_crease_known N (fun _ => rfl)) gam_nil)) (c := c_crease_Ran N) (F := fun ls => t_crease_Ran (std (env_crease_Ran N) N) (xOf ls)) (fun ls => rfl) (fun ls => xf_crease_Ran (std (env_crease_Ran N) N) (xOf ls)) h
def g_spell_Ball : Cfg := { gam := [⟨23, [], true, true, []⟩, ⟨57, [], true, true, []⟩, ⟨67, [], true, true, []⟩, ⟨84, [], true, true, []⟩], imm := false, old := false }
theorem xf_spell_Ball (O : Alg) (x : Ags O) : XF (O := O) Try.prog g_spell_Ball true true [] 71 [] (xr x k_spell_Ball 0) = t_spell_Ball O x := by kernel_rfl
theorem V_spell_Ball {E : Env} {M : Nat} (N : Nat) (h : ∀ ls, E 71 [] ls = c_spell_Ball N ls) : VV Try.prog E M ⟨71, [], true, true, []⟩ :=
  valid_tab mix (E := env_spell_Ball N) (N := N) (cfg := g_spell_Ball) (ci := ⟨71, [], true, true, []⟩) (ks := k_spell_Ball) (gam_cons (V_rules_Check N (fun _ => rfl)) (gam_cons (V_slices_Contains_int N (fun _ => rfl)) (gam_cons (V_spell_own N (fun _ => rfl)) (gam_cons (V_spell_known N (fun _ => rfl)) gam_nil)))) (c := c_spell_Ball N) (F := fun ls => t_spell_Ball (std (env_spell_Ball N) N) (xOf ls)) (fun ls => rfl) (fun ls => xf_spell_Ball (std (env_spell_Ball N) N) (xOf ls)) h
def g_crease_Change : Cfg := { gam := [⟨65, [], true, true, []⟩], imm := false, old := false }
theorem xf_crease_Change (O : Alg) (x : Ags O) : XF (O := O) Try.prog g_crease_Change true true [] 72 [] (xr x k_crease_Change 0) = t_crease_Change O x := by kernel_rfl
theorem V_crease_Change {E : Env} {M : Nat} (N : Nat) (h : ∀ ls, E 72 [] ls = c_crease_Change N ls) : VV Try.prog E M ⟨72, [], true, true, []⟩ :=
  valid_tab mix (E := env_crease_Change N) (N := N) (cfg := g_crease_Change) (ci := ⟨72, [], true, true, []⟩) (ks := k_crease_Change) (gam_cons (V_crease_own N (fun _ => rfl)) gam_nil) (c := c_crease_Change N) (F := fun ls => t_crease_Change (std (env_crease_Change N) N) (xOf ls)) (fun ls => rfl) (fun ls => xf_crease_Change (std (env_crease_Change N) N) (xOf ls)) h
def g_innings_ball : Cfg := { gam := [⟨10, [], true, true, []⟩, ⟨11, [], true, true, []⟩, ⟨18, [], true, true, []⟩, ⟨69, [], true, true, []⟩, ⟨70, [], true, true, []⟩, ⟨71, [], true, true, []⟩, ⟨72, [], true, true, []⟩], imm := false, old := false }
theorem xf_innings_ball (O : Alg) (x : Ags O) : XF (O := O) Try.prog g_innings_ball true true [] 41 [] (xr x k_innings_ball 0) = t_innings_ball O x := by kernel_rfl
theorem V_innings_ball {E : Env} {M : Nat} (N : Nat) (h : ∀ ls, E 41 [] ls = c_innings_ball N ls) : VV Try.prog E M ⟨41, [], true, true, []⟩ :=
  valid_tab mix (E := env_innings_ball N) (N := N) (cfg := g_innings_ball) (ci := ⟨41, [], true, true, []⟩) (ks := k_innings_ball) (gam_cons (V_delivery_Credit N (fun _ => rfl)) (gam_cons (V_delivery_Total N (fun _ => rfl)) (gam_cons (V_innings_Clone N (fun _ => rfl)) (gam_cons (V_innings_refused N (fun _ => rfl)) (gam_cons (V_crease_Ran N (fun _ => rfl)) (gam_cons (V_spell_Ball N (fun _ => rfl)) (gam_cons (V_crease_Change N (fun _ => rfl)) gam_nil))))))) (c := c_innings_ball N) (F := fun ls => t_innings_ball (std (env_innings_ball N) N) (xOf ls)) (fun ls => rfl) (fun ls => xf_innings_ball (std (env_innings_ball N) N) (xOf ls)) h
def g_crease_may : Cfg := { gam := [⟨28, [], true, true, []⟩, ⟨66, [], true, true, []⟩], imm := false, old := false }
theorem xf_crease_may (O : Alg) (x : Ags O) : XF (O := O) Try.prog g_crease_may true true [] 73 [] (xr x k_crease_may 0) = t_crease_may O x := by kernel_rfl
theorem V_crease_may {E : Env} {M : Nat} (N : Nat) (h : ∀ ls, E 73 [] ls = c_crease_may N ls) : VV Try.prog E M ⟨73, [], true, true, []⟩ :=
  valid_tab mix (E := env_crease_may N) (N := N) (cfg := g_crease_may) (ci := ⟨73, [], true, true, []⟩) (ks := k_crease_may) (gam_cons (V_crease_Vacant N (fun _ => rfl)) (gam_cons (V_crease_known N (fun _ => rfl)) gam_nil)) (c := c_crease_may N) (F := fun ls => t_crease_may (std (env_crease_may N) N) (xOf ls)) (fun ls => rfl) (fun ls => xf_crease_may (std (env_crease_may N) N) (xOf ls)) h
def g_crease_TimeOut : Cfg := { gam := [⟨65, [], true, true, []⟩, ⟨66, [], true, true, []⟩, ⟨73, [], true, true, []⟩], imm := false, old := false }
theorem xf_crease_TimeOut (O : Alg) (x : Ags O) : XF (O := O) Try.prog g_crease_TimeOut true true [] 42 [] (xr x k_crease_TimeOut 0) = t_crease_TimeOut O x := by kernel_rfl
theorem V_crease_TimeOut {E : Env} {M : Nat} (N : Nat) (h : ∀ ls, E 42 [] ls = c_crease_TimeOut N ls) : VV Try.prog E M ⟨42, [], true, true, []⟩ :=
  valid_tab mix (E := env_crease_TimeOut N) (N := N) (cfg := g_crease_TimeOut) (ci := ⟨42, [], true, true, []⟩) (ks := k_crease_TimeOut) (gam_cons (V_crease_own N (fun _ => rfl)) (gam_cons (V_crease_known N (fun _ => rfl)) (gam_cons (V_crease_may N (fun _ => rfl)) gam_nil))) (c := c_crease_TimeOut N) (F := fun ls => t_crease_TimeOut (std (env_crease_TimeOut N) N) (xOf ls)) (fun ls => rfl) (fun ls => xf_crease_TimeOut (std (env_crease_TimeOut N) N) (xOf ls)) h
def g_crease_Enter : Cfg := { gam := [⟨65, [], true, true, []⟩, ⟨73, [], true, true, []⟩], imm := false, old := false }
theorem xf_crease_Enter (O : Alg) (x : Ags O) : XF (O := O) Try.prog g_crease_Enter true true [] 43 [] (xr x k_crease_Enter 0) = t_crease_Enter O x := by kernel_rfl
theorem V_crease_Enter {E : Env} {M : Nat} (N : Nat) (h : ∀ ls, E 43 [] ls = c_crease_Enter N ls) : VV Try.prog E M ⟨43, [], true, true, []⟩ :=
  valid_tab mix (E := env_crease_Enter N) (N := N) (cfg := g_crease_Enter) (ci := ⟨43, [], true, true, []⟩) (ks := k_crease_Enter) (gam_cons (V_crease_own N (fun _ => rfl)) (gam_cons (V_crease_may N (fun _ => rfl)) gam_nil)) (c := c_crease_Enter N) (F := fun ls => t_crease_Enter (std (env_crease_Enter N) N) (xOf ls)) (fun ls => rfl) (fun ls => xf_crease_Enter (std (env_crease_Enter N) N) (xOf ls)) h
def g_crease_Retire : Cfg := { gam := [⟨29, [], true, true, []⟩, ⟨65, [], true, true, []⟩, ⟨66, [], true, true, []⟩], imm := false, old := false }
theorem xf_crease_Retire (O : Alg) (x : Ags O) : XF (O := O) Try.prog g_crease_Retire true true [] 44 [] (xr x k_crease_Retire 0) = t_crease_Retire O x := by kernel_rfl
theorem V_crease_Retire {E : Env} {M : Nat} (N : Nat) (h : ∀ ls, E 44 [] ls = c_crease_Retire N ls) : VV Try.prog E M ⟨44, [], true, true, []⟩ :=
  valid_tab mix (E := env_crease_Retire N) (N := N) (cfg := g_crease_Retire) (ci := ⟨44, [], true, true, []⟩) (ks := k_crease_Retire) (gam_cons (V_crease_Left N (fun _ => rfl)) (gam_cons (V_crease_own N (fun _ => rfl)) (gam_cons (V_crease_known N (fun _ => rfl)) gam_nil))) (c := c_crease_Retire N) (F := fun ls => t_crease_Retire (std (env_crease_Retire N) N) (xOf ls)) (fun ls => rfl) (fun ls => xf_crease_Retire (std (env_crease_Retire N) N) (xOf ls)) h
def g_field_own : Cfg := { gam := [⟨34, [], true, true, []⟩, ⟨35, [], true, true, []⟩, ⟨36, [], true, true, []⟩], imm := false, old := false }
theorem xf_field_own (O : Alg) (x : Ags O) : XF (O := O) Try.prog g_field_own true true [] 75 [] (xr x k_field_own 0) = t_field_own O x := by kernel_rfl
theorem V_field_own {E : Env} {M : Nat} (N : Nat) (h : ∀ ls, E 75 [] ls = c_field_own N ls) : VV Try.prog E M ⟨75, [], true, true, []⟩ :=
  valid_tab mix (E := env_field_own N) (N := N) (cfg := g_field_own) (ci := ⟨75, [], true, true, []⟩) (ks := k_field_own) (gam_cons (V_slices_Clone_Status N (fun _ => rfl)) (gam_cons (V_slices_Clone_int N (fun _ => rfl)) (gam_cons (V_slices_Clone_bool N (fun _ => rfl)) gam_nil))) (c := c_field_own N) (F := fun ls => t_field_own (std (env_field_own N) N) (xOf ls)) (fun ls => rfl) (fun ls => xf_field_own (std (env_field_own N) N) (xOf ls)) h
def g_field_Outside : Cfg := { gam := [⟨75, [], true, true, []⟩], imm := false, old := false }
theorem xf_field_Outside (O : Alg) (x : Ags O) : XF (O := O) Try.prog g_field_Outside true true [] 45 [] (xr x k_field_Outside 0) = t_field_Outside O x := by kernel_rfl
theorem V_field_Outside {E : Env} {M : Nat} (N : Nat) (h : ∀ ls, E 45 [] ls = c_field_Outside N ls) : VV Try.prog E M ⟨45, [], true, true, []⟩ :=
  valid_tab mix (E := env_field_Outside N) (N := N) (cfg := g_field_Outside) (ci := ⟨45, [], true, true, []⟩) (ks := k_field_Outside) (gam_cons (V_field_own N (fun _ => rfl)) gam_nil) (c := c_field_Outside N) (F := fun ls => t_field_Outside (std (env_field_Outside N) N) (xOf ls)) (fun ls => rfl) (fun ls => xf_field_Outside (std (env_field_Outside N) N) (xOf ls)) h
def g_field_Keeper : Cfg := { gam := [⟨75, [], true, true, []⟩, ⟨76, [], true, true, []⟩, ⟨77, [], true, true, []⟩], imm := false, old := false }
theorem xf_field_Keeper (O : Alg) (x : Ags O) : XF (O := O) Try.prog g_field_Keeper true true [] 46 [] (xr x k_field_Keeper 0) = t_field_Keeper O x := by kernel_rfl
theorem V_field_Keeper {E : Env} {M : Nat} (N : Nat) (h : ∀ ls, E 46 [] ls = c_field_Keeper N ls) : VV Try.prog E M ⟨46, [], true, true, []⟩ :=
  valid_tab mix (E := env_field_Keeper N) (N := N) (cfg := g_field_Keeper) (ci := ⟨46, [], true, true, []⟩) (ks := k_field_Keeper) (gam_cons (V_field_own N (fun _ => rfl)) (gam_cons (V_field_known N (fun _ => rfl)) (gam_cons (V_field_replaced N (fun _ => rfl)) gam_nil))) (c := c_field_Keeper N) (F := fun ls => t_field_Keeper (std (env_field_Keeper N) N) (xOf ls)) (fun ls => rfl) (fun ls => xf_field_Keeper (std (env_field_Keeper N) N) (xOf ls)) h
def g_field_Substitute : Cfg := { gam := [⟨75, [], true, true, []⟩, ⟨76, [], true, true, []⟩, ⟨77, [], true, true, []⟩], imm := false, old := false }
theorem xf_field_Substitute (O : Alg) (x : Ags O) : XF (O := O) Try.prog g_field_Substitute true true [] 47 [] (xr x k_field_Substitute 0) = t_field_Substitute O x := by kernel_rfl
theorem V_field_Substitute {E : Env} {M : Nat} (N : Nat) (h : ∀ ls, E 47 [] ls = c_field_Substitute N ls) : VV Try.prog E M ⟨47, [], true, true, []⟩ :=
  valid_tab mix (E := env_field_Substitute N) (N := N) (cfg := g_field_Substitute) (ci := ⟨47, [], true, true, []⟩) (ks := k_field_Substitute) (gam_cons (V_field_own N (fun _ => rfl)) (gam_cons (V_field_known N (fun _ => rfl)) (gam_cons (V_field_replaced N (fun _ => rfl)) gam_nil))) (c := c_field_Substitute N) (F := fun ls => t_field_Substitute (std (env_field_Substitute N) N) (xOf ls)) (fun ls => rfl) (fun ls => xf_field_Substitute (std (env_field_Substitute N) N) (xOf ls)) h
def g_spell_NewBall : Cfg := { gam := [⟨23, [], true, true, []⟩, ⟨67, [], true, true, []⟩], imm := false, old := false }
theorem xf_spell_NewBall (O : Alg) (x : Ags O) : XF (O := O) Try.prog g_spell_NewBall true true [] 48 [] (xr x k_spell_NewBall 0) = t_spell_NewBall O x := by kernel_rfl
theorem V_spell_NewBall {E : Env} {M : Nat} (N : Nat) (h : ∀ ls, E 48 [] ls = c_spell_NewBall N ls) : VV Try.prog E M ⟨48, [], true, true, []⟩ :=
  valid_tab mix (E := env_spell_NewBall N) (N := N) (cfg := g_spell_NewBall) (ci := ⟨48, [], true, true, []⟩) (ks := k_spell_NewBall) (gam_cons (V_rules_Check N (fun _ => rfl)) (gam_cons (V_spell_own N (fun _ => rfl)) gam_nil)) (c := c_spell_NewBall N) (F := fun ls => t_spell_NewBall (std (env_spell_NewBall N) N) (xOf ls)) (fun ls => rfl) (fun ls => xf_spell_NewBall (std (env_spell_NewBall N) N) (xOf ls)) h
def g_innings_declare : Cfg := { gam := [⟨18, [], true, true, []⟩], imm := false, old := false }
theorem xf_innings_declare (O : Alg) (x : Ags O) : XF (O := O) Try.prog g_innings_declare true true [] 49 [] (xr x k_innings_declare 0) = t_innings_declare O x := by kernel_rfl
theorem V_innings_declare {E : Env} {M : Nat} (N : Nat) (h : ∀ ls, E 49 [] ls = c_innings_declare N ls) : VV Try.prog E M ⟨49, [], true, true, []⟩ :=
  valid_tab mix (E := env_innings_declare N) (N := N) (cfg := g_innings_declare) (ci := ⟨49, [], true, true, []⟩) (ks := k_innings_declare) (gam_cons (V_innings_Clone N (fun _ => rfl)) gam_nil) (c := c_innings_declare N) (F := fun ls => t_innings_declare (std (env_innings_declare N) N) (xOf ls)) (fun ls => rfl) (fun ls => xf_innings_declare (std (env_innings_declare N) N) (xOf ls)) h
def g_innings_Penalty : Cfg := { gam := [⟨18, [], true, true, []⟩], imm := false, old := false }
theorem xf_innings_Penalty (O : Alg) (x : Ags O) : XF (O := O) Try.prog g_innings_Penalty true true [] 78 [] (xr x k_innings_Penalty 0) = t_innings_Penalty O x := by kernel_rfl
theorem V_innings_Penalty {E : Env} {M : Nat} (N : Nat) (h : ∀ ls, E 78 [] ls = c_innings_Penalty N ls) : VV Try.prog E M ⟨78, [], true, true, []⟩ :=
  valid_tab mix (E := env_innings_Penalty N) (N := N) (cfg := g_innings_Penalty) (ci := ⟨78, [], true, true, []⟩) (ks := k_innings_Penalty) (gam_cons (V_innings_Clone N (fun _ => rfl)) gam_nil) (c := c_innings_Penalty N) (F := fun ls => t_innings_Penalty (std (env_innings_Penalty N) N) (xOf ls)) (fun ls => rfl) (fun ls => xf_innings_Penalty (std (env_innings_Penalty N) N) (xOf ls)) h
def g_innings_penalty : Cfg := { gam := [⟨18, [], true, true, []⟩, ⟨78, [], true, true, []⟩], imm := false, old := false }
theorem xf_innings_penalty (O : Alg) (x : Ags O) : XF (O := O) Try.prog g_innings_penalty true true [] 50 [] (xr x k_innings_penalty 0) = t_innings_penalty O x := by kernel_rfl
theorem V_innings_penalty {E : Env} {M : Nat} (N : Nat) (h : ∀ ls, E 50 [] ls = c_innings_penalty N ls) : VV Try.prog E M ⟨50, [], true, true, []⟩ :=
  valid_tab mix (E := env_innings_penalty N) (N := N) (cfg := g_innings_penalty) (ci := ⟨50, [], true, true, []⟩) (ks := k_innings_penalty) (gam_cons (V_innings_Clone N (fun _ => rfl)) (gam_cons (V_innings_Penalty N (fun _ => rfl)) gam_nil)) (c := c_innings_penalty N) (F := fun ls => t_innings_penalty (std (env_innings_penalty N) N) (xOf ls)) (fun ls => rfl) (fun ls => xf_innings_penalty (std (env_innings_penalty N) N) (xOf ls)) h
def g_innings_review : Cfg := { gam := [⟨18, [], true, true, []⟩], imm := false, old := false }
theorem xf_innings_review (O : Alg) (x : Ags O) : XF (O := O) Try.prog g_innings_review true true [] 51 [] (xr x k_innings_review 0) = t_innings_review O x := by kernel_rfl
theorem V_innings_review {E : Env} {M : Nat} (N : Nat) (h : ∀ ls, E 51 [] ls = c_innings_review N ls) : VV Try.prog E M ⟨51, [], true, true, []⟩ :=
  valid_tab mix (E := env_innings_review N) (N := N) (cfg := g_innings_review) (ci := ⟨51, [], true, true, []⟩) (ks := k_innings_review) (gam_cons (V_innings_Clone N (fun _ => rfl)) gam_nil) (c := c_innings_review N) (F := fun ls => t_innings_review (std (env_innings_review N) N) (xOf ls)) (fun ls => rfl) (fun ls => xf_innings_review (std (env_innings_review N) N) (xOf ls)) h
def g_innings_Balls : Cfg := { gam := [], imm := false, old := false }
theorem xf_innings_Balls (O : Alg) (x : Ags O) : XF (O := O) Try.prog g_innings_Balls true true [] 12 [] (xr x k_innings_Balls 0) = t_innings_Balls O x := by kernel_rfl
theorem V_innings_Balls {E : Env} {M : Nat} (N : Nat) (h : ∀ ls, E 12 [] ls = c_innings_Balls N ls) : VV Try.prog E M ⟨12, [], true, true, []⟩ :=
  valid_tab mix (E := env_innings_Balls N) (N := N) (cfg := g_innings_Balls) (ci := ⟨12, [], true, true, []⟩) (ks := k_innings_Balls) gam_nil (c := c_innings_Balls N) (F := fun ls => t_innings_Balls (std (env_innings_Balls N) N) (xOf ls)) (fun ls => rfl) (fun ls => xf_innings_Balls (std (env_innings_Balls N) N) (xOf ls)) h
def g_innings_revise : Cfg := { gam := [⟨12, [], true, true, []⟩, ⟨18, [], true, true, []⟩], imm := false, old := false }
theorem xf_innings_revise (O : Alg) (x : Ags O) : XF (O := O) Try.prog g_innings_revise true true [] 52 [] (xr x k_innings_revise 0) = t_innings_revise O x := by kernel_rfl
theorem V_innings_revise {E : Env} {M : Nat} (N : Nat) (h : ∀ ls, E 52 [] ls = c_innings_revise N ls) : VV Try.prog E M ⟨52, [], true, true, []⟩ :=
  valid_tab mix (E := env_innings_revise N) (N := N) (cfg := g_innings_revise) (ci := ⟨52, [], true, true, []⟩) (ks := k_innings_revise) (gam_cons (V_innings_Balls N (fun _ => rfl)) (gam_cons (V_innings_Clone N (fun _ => rfl)) gam_nil)) (c := c_innings_revise N) (F := fun ls => t_innings_revise (std (env_innings_revise N) N) (xOf ls)) (fun ls => rfl) (fun ls => xf_innings_revise (std (env_innings_revise N) N) (xOf ls)) h
def g_innings_perform : Cfg := { gam := [⟨39, [], true, true, []⟩, ⟨40, [], true, true, []⟩, ⟨41, [], true, true, []⟩, ⟨42, [], true, true, []⟩, ⟨43, [], true, true, []⟩, ⟨44, [], true, true, []⟩, ⟨45, [], true, true, []⟩, ⟨46, [], true, true, []⟩, ⟨47, [], true, true, []⟩, ⟨48, [], true, true, []⟩, ⟨49, [], true, true, []⟩, ⟨50, [], true, true, []⟩, ⟨51, [], true, true, []⟩, ⟨52, [], true, true, []⟩], imm := false, old := false }
theorem xf_innings_perform (O : Alg) (x : Ags O) : XF (O := O) Try.prog g_innings_perform true true [] 20 [] (xr x k_innings_perform 0) = t_innings_perform O x := by kernel_rfl
theorem V_innings_perform {E : Env} {M : Nat} (N : Nat) (h : ∀ ls, E 20 [] ls = c_innings_perform N ls) : VV Try.prog E M ⟨20, [], true, true, []⟩ :=
  valid_tab mix (E := env_innings_perform N) (N := N) (cfg := g_innings_perform) (ci := ⟨20, [], true, true, []⟩) (ks := k_innings_perform) (gam_cons (V_crease_Open N (fun _ => rfl)) (gam_cons (V_spell_Take N (fun _ => rfl)) (gam_cons (V_innings_ball N (fun _ => rfl)) (gam_cons (V_crease_TimeOut N (fun _ => rfl)) (gam_cons (V_crease_Enter N (fun _ => rfl)) (gam_cons (V_crease_Retire N (fun _ => rfl)) (gam_cons (V_field_Outside N (fun _ => rfl)) (gam_cons (V_field_Keeper N (fun _ => rfl)) (gam_cons (V_field_Substitute N (fun _ => rfl)) (gam_cons (V_spell_NewBall N (fun _ => rfl)) (gam_cons (V_innings_declare N (fun _ => rfl)) (gam_cons (V_innings_penalty N (fun _ => rfl)) (gam_cons (V_innings_review N (fun _ => rfl)) (gam_cons (V_innings_revise N (fun _ => rfl)) gam_nil)))))))))))))) (c := c_innings_perform N) (F := fun ls => t_innings_perform (std (env_innings_perform N) N) (xOf ls)) (fun ls => rfl) (fun ls => xf_innings_perform (std (env_innings_perform N) N) (xOf ls)) h
def g_innings_Step : Cfg := { gam := [⟨13, [], true, true, []⟩, ⟨14, [], true, true, []⟩, ⟨17, [], true, true, []⟩, ⟨18, [], true, true, []⟩, ⟨19, [], true, true, []⟩, ⟨20, [], true, true, []⟩], imm := false, old := false }
theorem xf_innings_Step (O : Alg) (x : Ags O) : XF (O := O) Try.prog g_innings_Step true true [] 8 [] (xr x k_innings_Step 0) = t_innings_Step O x := by kernel_rfl
theorem V_innings_Step {E : Env} {M : Nat} (N : Nat) (h : ∀ ls, E 8 [] ls = c_innings_Step N ls) : VV Try.prog E M ⟨8, [], true, true, []⟩ :=
  valid_tab mix (E := env_innings_Step N) (N := N) (cfg := g_innings_Step) (ci := ⟨8, [], true, true, []⟩) (ks := k_innings_Step) (gam_cons (V_innings_Valid N (fun _ => rfl)) (gam_cons (V_innings_Ending N (fun _ => rfl)) (gam_cons (V_event_Check N (fun _ => rfl)) (gam_cons (V_innings_Clone N (fun _ => rfl)) (gam_cons (V_innings_begun N (fun _ => rfl)) (gam_cons (V_innings_perform N (fun _ => rfl)) gam_nil)))))) (c := c_innings_Step N) (F := fun ls => t_innings_Step (std (env_innings_Step N) N) (xOf ls)) (fun ls => rfl) (fun ls => xf_innings_Step (std (env_innings_Step N) N) (xOf ls)) h
def g_w14_ball : Cfg := { gam := [], imm := false, old := false }
theorem xf_w14_ball (O : Alg) (x : Ags O) : XF (O := O) Try.prog g_w14_ball true true [] 9 [] (xr x k_w14_ball 0) = t_w14_ball O x := by kernel_rfl
theorem V_w14_ball {E : Env} {M : Nat} (N : Nat) (h : ∀ ls, E 9 [] ls = c_w14_ball N ls) : VV Try.prog E M ⟨9, [], true, true, []⟩ :=
  valid_tab mix (E := env_w14_ball N) (N := N) (cfg := g_w14_ball) (ci := ⟨9, [], true, true, []⟩) (ks := k_w14_ball) gam_nil (c := c_w14_ball N) (F := fun ls => t_w14_ball (std (env_w14_ball N) N) (xOf ls)) (fun ls => rfl) (fun ls => xf_w14_ball (std (env_w14_ball N) N) (xOf ls)) h
def g_innings_Begin : Cfg := { gam := [⟨23, [], true, true, []⟩, ⟨24, [], true, true, []⟩], imm := false, old := false }
theorem xf_innings_Begin (O : Alg) (x : Ags O) : XF (O := O) Try.prog g_innings_Begin true true [] 15 [] (xr x k_innings_Begin 0) = t_innings_Begin O x := by kernel_rfl
theorem V_innings_Begin {E : Env} {M : Nat} (N : Nat) (h : ∀ ls, E 15 [] ls = c_innings_Begin N ls) : VV Try.prog E M ⟨15, [], true, true, []⟩ :=
  valid_tab mix (E := env_innings_Begin N) (N := N) (cfg := g_innings_Begin) (ci := ⟨15, [], true, true, []⟩) (ks := k_innings_Begin) (gam_cons (V_rules_Check N (fun _ => rfl)) (gam_cons (V_innings_between N (fun _ => rfl)) gam_nil)) (c := c_innings_Begin N) (F := fun ls => t_innings_Begin (std (env_innings_Begin N) N) (xOf ls)) (fun ls => rfl) (fun ls => xf_innings_Begin (std (env_innings_Begin N) N) (xOf ls)) h
def g_w14_short : Cfg := { gam := [], imm := false, old := false }
theorem xf_w14_short (O : Alg) (x : Ags O) : XF (O := O) Try.prog g_w14_short true true [] 16 [] (xr x k_w14_short 0) = t_w14_short O x := by kernel_rfl
theorem V_w14_short {E : Env} {M : Nat} (N : Nat) (h : ∀ ls, E 16 [] ls = c_w14_short N ls) : VV Try.prog E M ⟨16, [], true, true, []⟩ :=
  valid_tab mix (E := env_w14_short N) (N := N) (cfg := g_w14_short) (ci := ⟨16, [], true, true, []⟩) (ks := k_w14_short) gam_nil (c := c_w14_short N) (F := fun ls => t_w14_short (std (env_w14_short N) N) (xOf ls)) (fun ls => rfl) (fun ls => xf_w14_short (std (env_w14_short N) N) (xOf ls)) h
def g_w14_awake : Cfg := { gam := [⟨8, [], true, true, []⟩, ⟨9, [], true, true, []⟩, ⟨12, [], true, true, []⟩, ⟨15, [], true, true, []⟩, ⟨16, [], true, true, []⟩], imm := false, old := false }
theorem xf_w14_awake (O : Alg) (x : Ags O) : XF (O := O) Try.prog g_w14_awake true true [] 5 [] (xr x k_w14_awake 0) = t_w14_awake O x := by kernel_rfl
theorem V_w14_awake {E : Env} {M : Nat} (N : Nat) (h : ∀ ls, E 5 [] ls = c_w14_awake N ls) : VV Try.prog E M ⟨5, [], true, true, []⟩ :=
  valid_tab mix (E := env_w14_awake N) (N := N) (cfg := g_w14_awake) (ci := ⟨5, [], true, true, []⟩) (ks := k_w14_awake) (gam_cons (V_innings_Step N (fun _ => rfl)) (gam_cons (V_w14_ball N (fun _ => rfl)) (gam_cons (V_innings_Balls N (fun _ => rfl)) (gam_cons (V_innings_Begin N (fun _ => rfl)) (gam_cons (V_w14_short N (fun _ => rfl)) gam_nil))))) (c := c_w14_awake N) (F := fun ls => t_w14_awake (std (env_w14_awake N) N) (xOf ls)) (fun ls => rfl) (fun ls => xf_w14_awake (std (env_w14_awake N) N) (xOf ls)) h
def g_w14_bounded : Cfg := { gam := [], imm := false, old := false }
theorem xf_w14_bounded (O : Alg) (x : Ags O) : XF (O := O) Try.prog g_w14_bounded false false [] 6 [] (xr x k_w14_bounded 0) = t_w14_bounded O x := by kernel_rfl
theorem V_w14_bounded {E : Env} {M : Nat} (N : Nat) (h : ∀ ls, E 6 [] ls = c_w14_bounded N ls) : VV Try.prog E M ⟨6, [], false, false, []⟩ :=
  valid_tab mix (E := env_w14_bounded N) (N := N) (cfg := g_w14_bounded) (ci := ⟨6, [], false, false, []⟩) (ks := k_w14_bounded) gam_nil (c := c_w14_bounded N) (F := fun ls => t_w14_bounded (std (env_w14_bounded N) N) (xOf ls)) (fun ls => rfl) (fun ls => xf_w14_bounded (std (env_w14_bounded N) N) (xOf ls)) h
def g_w14_Few : Cfg := { gam := [], imm := false, old := false }
theorem xf_w14_Few (O : Alg) (x : Ags O) : XF (O := O) Try.prog g_w14_Few false false [] 7 [] (xr x k_w14_Few 0) = t_w14_Few O x := by kernel_rfl
theorem V_w14_Few {E : Env} {M : Nat} (N : Nat) (h : ∀ ls, E 7 [] ls = c_w14_Few N ls) : VV Try.prog E M ⟨7, [], false, false, []⟩ :=
  valid_tab mix (E := env_w14_Few N) (N := N) (cfg := g_w14_Few) (ci := ⟨7, [], false, false, []⟩) (ks := k_w14_Few) gam_nil (c := c_w14_Few N) (F := fun ls => t_w14_Few (std (env_w14_Few N) N) (xOf ls)) (fun ls => rfl) (fun ls => xf_w14_Few (std (env_w14_Few N) N) (xOf ls)) h
def g_w14_InningsScores : Cfg := { gam := [⟨5, [], true, true, []⟩, ⟨6, [], false, false, []⟩, ⟨7, [], false, false, []⟩, ⟨8, [], true, true, []⟩, ⟨9, [], true, true, []⟩, ⟨10, [], true, true, []⟩, ⟨11, [], true, true, []⟩, ⟨12, [], true, true, []⟩], imm := false, old := false }
theorem xf_w14_InningsScores (O : Alg) (x : Ags O) : XF (O := O) Try.prog g_w14_InningsScores true true [] 3 [] (xr x k_w14_InningsScores 0) = t_w14_InningsScores O x := by kernel_rfl
theorem V_w14_InningsScores {E : Env} {M : Nat} (N : Nat) (h : ∀ ls, E 3 [] ls = c_w14_InningsScores N ls) : VV Try.prog E M ⟨3, [], true, true, []⟩ :=
  valid_tab mix (E := env_w14_InningsScores N) (N := N) (cfg := g_w14_InningsScores) (ci := ⟨3, [], true, true, []⟩) (ks := k_w14_InningsScores) (gam_cons (V_w14_awake N (fun _ => rfl)) (gam_cons (V_w14_bounded N (fun _ => rfl)) (gam_cons (V_w14_Few N (fun _ => rfl)) (gam_cons (V_innings_Step N (fun _ => rfl)) (gam_cons (V_w14_ball N (fun _ => rfl)) (gam_cons (V_delivery_Credit N (fun _ => rfl)) (gam_cons (V_delivery_Total N (fun _ => rfl)) (gam_cons (V_innings_Balls N (fun _ => rfl)) gam_nil)))))))) (c := c_w14_InningsScores N) (F := fun ls => t_w14_InningsScores (std (env_w14_InningsScores N) N) (xOf ls)) (fun ls => rfl) (fun ls => xf_w14_InningsScores (std (env_w14_InningsScores N) N) (xOf ls)) h
end Go.Px
