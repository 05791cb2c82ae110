/-
Contracts of the functions that the statement reaches, part 1; written by program.
-/
import Derived.Test.YtopmcbahdgfleaaGreatPart06
import Derived.Test.YtopmcbahdgfleaaGreatProg
import Derived.Test.YtopmcbahdgfleaaGreatPart09
import Derived.KernelRfl
import Derived.WalkKit
import Derived.Lib.Walk
import Derived.BigCall
import Derived.BigGuard
namespace Go.Px
open Go.Proofs
set_option maxRecDepth 100000
set_option linter.unusedVariables false
theorem mix : Tryz.prog.follows .mixedOrders = true := by kernel_rfl
def g_innings_Balls : Cfg := { gam := [], imm := false, old := false }
theorem xf_innings_Balls (O : Alg) (x : Ags O) : XF (O := O) Tryz.prog g_innings_Balls true true [] 20 [] (xr x k_innings_Balls 0) = t_innings_Balls O x := by kernel_rfl
theorem V_innings_Balls {E : Env} {M : Nat} (N : Nat) (h : ∀ ls, E 20 [] ls = c_innings_Balls N ls) : VV Tryz.prog E M ⟨20, [], true, true, []⟩ :=
  valid_tab mix (E := env_innings_Balls N) (N := N) (cfg := g_innings_Balls) (ci := ⟨20, [], true, true, []⟩) (ks := k_innings_Balls) gam_nil (c := c_innings_Balls N) (F := fun ls => t_innings_Balls (std (env_innings_Balls N) N) (xOf ls)) (fun ls => rfl) (fun ls => xf_innings_Balls (std (env_innings_Balls N) N) (xOf ls)) h
def g_text_Name : Cfg := { gam := [], imm := false, old := false }
theorem xf_text_Name (O : Alg) (x : Ags O) : XF (O := O) Tryz.prog g_text_Name true true [] 95 [] (xr x k_text_Name 0) = t_text_Name O x := by kernel_rfl
theorem V_text_Name {E : Env} {M : Nat} (N : Nat) (h : ∀ ls, E 95 [] ls = c_text_Name N ls) : VV Tryz.prog E M ⟨95, [], true, true, []⟩ :=
  valid_tab mix (E := env_text_Name N) (N := N) (cfg := g_text_Name) (ci := ⟨95, [], true, true, []⟩) (ks := k_text_Name) gam_nil (c := c_text_Name N) (F := fun ls => t_text_Name (std (env_text_Name N) N) (xOf ls)) (fun ls => rfl) (fun ls => xf_text_Name (std (env_text_Name N) N) (xOf ls)) h
def g_rules_between : Cfg := { gam := [], imm := false, old := false }
theorem xf_rules_between (O : Alg) (x : Ags O) : XF (O := O) Tryz.prog g_rules_between true true [] 162 [] (xr x k_rules_between 0) = t_rules_between O x := by kernel_rfl
theorem V_rules_between {E : Env} {M : Nat} (N : Nat) (h : ∀ ls, E 162 [] ls = c_rules_between N ls) : VV Tryz.prog E M ⟨162, [], true, true, []⟩ :=
  valid_tab mix (E := env_rules_between N) (N := N) (cfg := g_rules_between) (ci := ⟨162, [], true, true, []⟩) (ks := k_rules_between) gam_nil (c := c_rules_between N) (F := fun ls => t_rules_between (std (env_rules_between N) N) (xOf ls)) (fun ls => rfl) (fun ls => xf_rules_between (std (env_rules_between N) N) (xOf ls)) h
def g_rules_inRange : Cfg := { gam := [⟨162, [], true, true, []⟩], imm := false, old := false }
theorem xf_rules_inRange (O : Alg) (x : Ags O) : XF (O := O) Tryz.prog g_rules_inRange true true [] 96 [] (xr x k_rules_inRange 0) = t_rules_inRange O x := by kernel_rfl
theorem V_rules_inRange {E : Env} {M : Nat} (N : Nat) (h : ∀ ls, E 96 [] ls = c_rules_inRange N ls) : VV Tryz.prog E M ⟨96, [], true, true, []⟩ :=
  valid_tab mix (E := env_rules_inRange N) (N := N) (cfg := g_rules_inRange) (ci := ⟨96, [], true, true, []⟩) (ks := k_rules_inRange) (gam_cons (V_rules_between N (fun _ => rfl)) gam_nil) (c := c_rules_inRange N) (F := fun ls => t_rules_inRange (std (env_rules_inRange N) N) (xOf ls)) (fun ls => rfl) (fun ls => xf_rules_inRange (std (env_rules_inRange N) N) (xOf ls)) h
def g_rules_phases : Cfg := { gam := [⟨162, [], true, true, []⟩], imm := false, old := false }
theorem xf_rules_phases (O : Alg) (x : Ags O) : XF (O := O) Tryz.prog g_rules_phases true true [] 97 [] (xr x k_rules_phases 0) = t_rules_phases O x := by kernel_rfl
theorem V_rules_phases {E : Env} {M : Nat} (N : Nat) (h : ∀ ls, E 97 [] ls = c_rules_phases N ls) : VV Tryz.prog E M ⟨97, [], true, true, []⟩ :=
  valid_tab mix (E := env_rules_phases N) (N := N) (cfg := g_rules_phases) (ci := ⟨97, [], true, true, []⟩) (ks := k_rules_phases) (gam_cons (V_rules_between N (fun _ => rfl)) gam_nil) (c := c_rules_phases N) (F := fun ls => t_rules_phases (std (env_rules_phases N) N) (xOf ls)) (fun ls => rfl) (fun ls => xf_rules_phases (std (env_rules_phases N) N) (xOf ls)) h
def g_rules_Check : Cfg := { gam := [⟨95, [], true, true, []⟩, ⟨96, [], true, true, []⟩, ⟨97, [], true, true, []⟩], imm := false, old := false }
theorem xf_rules_Check (O : Alg) (x : Ags O) : XF (O := O) Tryz.prog g_rules_Check true true [] 52 [] (xr x k_rules_Check 0) = t_rules_Check O x := by kernel_rfl
theorem V_rules_Check {E : Env} {M : Nat} (N : Nat) (h : ∀ ls, E 52 [] ls = c_rules_Check N ls) : VV Tryz.prog E M ⟨52, [], true, true, []⟩ :=
  valid_tab mix (E := env_rules_Check N) (N := N) (cfg := g_rules_Check) (ci := ⟨52, [], true, true, []⟩) (ks := k_rules_Check) (gam_cons (V_text_Name N (fun _ => rfl)) (gam_cons (V_rules_inRange N (fun _ => rfl)) (gam_cons (V_rules_phases N (fun _ => rfl)) gam_nil))) (c := c_rules_Check N) (F := fun ls => t_rules_Check (std (env_rules_Check N) N) (xOf ls)) (fun ls => rfl) (fun ls => xf_rules_Check (std (env_rules_Check N) N) (xOf ls)) h
def g_innings_between : Cfg := { gam := [], imm := false, old := false }
theorem xf_innings_between (O : Alg) (x : Ags O) : XF (O := O) Tryz.prog g_innings_between true true [] 53 [] (xr x k_innings_between 0) = t_innings_between O x := by kernel_rfl
theorem V_innings_between {E : Env} {M : Nat} (N : Nat) (h : ∀ ls, E 53 [] ls = c_innings_between N ls) : VV Tryz.prog E M ⟨53, [], true, true, []⟩ :=
  valid_tab mix (E := env_innings_between N) (N := N) (cfg := g_innings_between) (ci := ⟨53, [], true, true, []⟩) (ks := k_innings_between) gam_nil (c := c_innings_between N) (F := fun ls => t_innings_between (std (env_innings_between N) N) (xOf ls)) (fun ls => rfl) (fun ls => xf_innings_between (std (env_innings_between N) N) (xOf ls)) h
def g_innings_batters : Cfg := { gam := [⟨53, [], true, true, []⟩], imm := false, old := false }
theorem xf_innings_batters (O : Alg) (x : Ags O) : XF (O := O) Tryz.prog g_innings_batters true true [] 54 [] (xr x k_innings_batters 0) = t_innings_batters O x := by kernel_rfl
theorem V_innings_batters {E : Env} {M : Nat} (N : Nat) (h : ∀ ls, E 54 [] ls = c_innings_batters N ls) : VV Tryz.prog E M ⟨54, [], true, true, []⟩ :=
  valid_tab mix (E := env_innings_batters N) (N := N) (cfg := g_innings_batters) (ci := ⟨54, [], true, true, []⟩) (ks := k_innings_batters) (gam_cons (V_innings_between N (fun _ => rfl)) gam_nil) (c := c_innings_batters N) (F := fun ls => t_innings_batters (std (env_innings_batters N) N) (xOf ls)) (fun ls => rfl) (fun ls => xf_innings_batters (std (env_innings_batters N) N) (xOf ls)) h
def g_slices_Index_int : Cfg := { gam := [], imm := false, old := false }
theorem xf_slices_Index_int (O : Alg) (x : Ags O) : XF (O := O) Tryz.prog g_slices_Index_int true true [] 163 [] (xr x k_slices_Index_int 0) = t_slices_Index_int O x := by kernel_rfl
theorem V_slices_Index_int {E : Env} {M : Nat} (N : Nat) (h : ∀ ls, E 163 [] ls = c_slices_Index_int N ls) : VV Tryz.prog E M ⟨163, [], true, true, []⟩ :=
  valid_tab mix (E := env_slices_Index_int N) (N := N) (cfg := g_slices_Index_int) (ci := ⟨163, [], true, true, []⟩) (ks := k_slices_Index_int) gam_nil (c := c_slices_Index_int N) (F := fun ls => t_slices_Index_int (std (env_slices_Index_int N) N) (xOf ls)) (fun ls => rfl) (fun ls => xf_slices_Index_int (std (env_slices_Index_int N) N) (xOf ls)) h
def g_slices_Contains_int : Cfg := { gam := [⟨163, [], true, true, []⟩], imm := false, old := false }
theorem xf_slices_Contains_int (O : Alg) (x : Ags O) : XF (O := O) Tryz.prog g_slices_Contains_int true true [] 98 [] (xr x k_slices_Contains_int 0) = t_slices_Contains_int O x := by kernel_rfl
theorem V_slices_Contains_int {E : Env} {M : Nat} (N : Nat) (h : ∀ ls, E 98 [] ls = c_slices_Contains_int N ls) : VV Tryz.prog E M ⟨98, [], true, true, []⟩ :=
  valid_tab mix (E := env_slices_Contains_int N) (N := N) (cfg := g_slices_Contains_int) (ci := ⟨98, [], true, true, []⟩) (ks := k_slices_Contains_int) (gam_cons (V_slices_Index_int N (fun _ => rfl)) gam_nil) (c := c_slices_Contains_int N) (F := fun ls => t_slices_Contains_int (std (env_slices_Contains_int N) N) (xOf ls)) (fun ls => rfl) (fun ls => xf_slices_Contains_int (std (env_slices_Contains_int N) N) (xOf ls)) h
def g_innings_different : Cfg := { gam := [⟨53, [], true, true, []⟩, ⟨98, [], true, true, []⟩], imm := false, old := false }
theorem xf_innings_different (O : Alg) (x : Ags O) : XF (O := O) Tryz.prog g_innings_different true true [] 55 [] (xr x k_innings_different 0) = t_innings_different O x := by kernel_rfl
theorem V_innings_different {E : Env} {M : Nat} (N : Nat) (h : ∀ ls, E 55 [] ls = c_innings_different N ls) : VV Tryz.prog E M ⟨55, [], true, true, []⟩ :=
  valid_tab mix (E := env_innings_different N) (N := N) (cfg := g_innings_different) (ci := ⟨55, [], true, true, []⟩) (ks := k_innings_different) (gam_cons (V_innings_between N (fun _ => rfl)) (gam_cons (V_slices_Contains_int N (fun _ => rfl)) gam_nil)) (c := c_innings_different N) (F := fun ls => t_innings_different (std (env_innings_different N) N) (xOf ls)) (fun ls => rfl) (fun ls => xf_innings_different (std (env_innings_different N) N) (xOf ls)) h
def g_innings_numbers_1 : Cfg := { gam := [⟨53, [], true, true, []⟩], imm := false, old := false }
theorem xf_innings_numbers_1 (O : Alg) (x : Ags O) : XF (O := O) Tryz.prog g_innings_numbers_1 true true [] 100 [] (xr x k_innings_numbers_1 0) = t_innings_numbers_1 O x := by kernel_rfl
theorem V_innings_numbers_1 {E : Env} {M : Nat} (N : Nat) (h : ∀ ls, E 100 [] ls = c_innings_numbers_1 N ls) : VV Tryz.prog E M ⟨100, [], true, true, []⟩ :=
  valid_tab mix (E := env_innings_numbers_1 N) (N := N) (cfg := g_innings_numbers_1) (ci := ⟨100, [], true, true, []⟩) (ks := k_innings_numbers_1) (gam_cons (V_innings_between N (fun _ => rfl)) gam_nil) (c := c_innings_numbers_1 N) (F := fun ls => t_innings_numbers_1 (std (env_innings_numbers_1 N) N) (xOf ls)) (fun ls => rfl) (fun ls => xf_innings_numbers_1 (std (env_innings_numbers_1 N) N) (xOf ls)) h
def g_innings_numbers : Cfg := { gam := [⟨100, [], true, true, []⟩], imm := false, old := false }
theorem xf_innings_numbers (O : Alg) (x : Ags O) : XF (O := O) Tryz.prog g_innings_numbers true true [] 56 [] (xr x k_innings_numbers 0) = t_innings_numbers O x := by kernel_rfl
theorem V_innings_numbers {E : Env} {M : Nat} (N : Nat) (h : ∀ ls, E 56 [] ls = c_innings_numbers N ls) : VV Tryz.prog E M ⟨56, [], true, true, []⟩ :=
  valid_tab mix (E := env_innings_numbers N) (N := N) (cfg := g_innings_numbers) (ci := ⟨56, [], true, true, []⟩) (ks := k_innings_numbers) (gam_cons (V_innings_numbers_1 N (fun _ => rfl)) gam_nil) (c := c_innings_numbers N) (F := fun ls => t_innings_numbers (std (env_innings_numbers N) N) (xOf ls)) (fun ls => rfl) (fun ls => xf_innings_numbers (std (env_innings_numbers N) N) (xOf ls)) h
def g_innings_Valid : Cfg := { gam := [⟨52, [], true, true, []⟩, ⟨53, [], true, true, []⟩, ⟨54, [], true, true, []⟩, ⟨55, [], true, true, []⟩, ⟨56, [], true, true, []⟩], imm := false, old := false }
theorem xf_innings_Valid (O : Alg) (x : Ags O) : XF (O := O) Tryz.prog g_innings_Valid true true [] 16 [] (xr x k_innings_Valid 0) = t_innings_Valid O x := by kernel_rfl
theorem V_innings_Valid {E : Env} {M : Nat} (N : Nat) (h : ∀ ls, E 16 [] ls = c_innings_Valid N ls) : VV Tryz.prog E M ⟨16, [], true, true, []⟩ :=
  valid_tab mix (E := env_innings_Valid N) (N := N) (cfg := g_innings_Valid) (ci := ⟨16, [], true, true, []⟩) (ks := k_innings_Valid) (gam_cons (V_rules_Check N (fun _ => rfl)) (gam_cons (V_innings_between N (fun _ => rfl)) (gam_cons (V_innings_batters N (fun _ => rfl)) (gam_cons (V_innings_different N (fun _ => rfl)) (gam_cons (V_innings_numbers N (fun _ => rfl)) gam_nil))))) (c := c_innings_Valid N) (F := fun ls => t_innings_Valid (std (env_innings_Valid N) N) (xOf ls)) (fun ls => rfl) (fun ls => xf_innings_Valid (std (env_innings_Valid N) N) (xOf ls)) h
def g_crease_begun_1 : Cfg := { gam := [], imm := false, old := false }
theorem xf_crease_begun_1 (O : Alg) (x : Ags O) : XF (O := O) Tryz.prog g_crease_begun_1 true true [] 165 [] (xr x k_crease_begun_1 0) = t_crease_begun_1 O x := by kernel_rfl
theorem V_crease_begun_1 {E : Env} {M : Nat} (N : Nat) (h : ∀ ls, E 165 [] ls = c_crease_begun_1 N ls) : VV Tryz.prog E M ⟨165, [], true, true, []⟩ :=
  valid_tab mix (E := env_crease_begun_1 N) (N := N) (cfg := g_crease_begun_1) (ci := ⟨165, [], true, true, []⟩) (ks := k_crease_begun_1) gam_nil (c := c_crease_begun_1 N) (F := fun ls => t_crease_begun_1 (std (env_crease_begun_1 N) N) (xOf ls)) (fun ls => rfl) (fun ls => xf_crease_begun_1 (std (env_crease_begun_1 N) N) (xOf ls)) h
def g_crease_begun : Cfg := { gam := [⟨165, [], true, true, []⟩], imm := false, old := false }
theorem xf_crease_begun (O : Alg) (x : Ags O) : XF (O := O) Tryz.prog g_crease_begun true true [] 103 [] (xr x k_crease_begun 0) = t_crease_begun O x := by kernel_rfl
theorem V_crease_begun {E : Env} {M : Nat} (N : Nat) (h : ∀ ls, E 103 [] ls = c_crease_begun N ls) : VV Tryz.prog E M ⟨103, [], true, true, []⟩ :=
  valid_tab mix (E := env_crease_begun N) (N := N) (cfg := g_crease_begun) (ci := ⟨103, [], true, true, []⟩) (ks := k_crease_begun) (gam_cons (V_crease_begun_1 N (fun _ => rfl)) gam_nil) (c := c_crease_begun N) (F := fun ls => t_crease_begun (std (env_crease_begun N) N) (xOf ls)) (fun ls => rfl) (fun ls => xf_crease_begun (std (env_crease_begun N) N) (xOf ls)) h
def g_crease_Vacant : Cfg := { gam := [⟨103, [], true, true, []⟩], imm := false, old := false }
theorem xf_crease_Vacant (O : Alg) (x : Ags O) : XF (O := O) Tryz.prog g_crease_Vacant true true [] 61 [] (xr x k_crease_Vacant 0) = t_crease_Vacant O x := by kernel_rfl
theorem V_crease_Vacant {E : Env} {M : Nat} (N : Nat) (h : ∀ ls, E 61 [] ls = c_crease_Vacant N ls) : VV Tryz.prog E M ⟨61, [], true, true, []⟩ :=
  valid_tab mix (E := env_crease_Vacant N) (N := N) (cfg := g_crease_Vacant) (ci := ⟨61, [], true, true, []⟩) (ks := k_crease_Vacant) (gam_cons (V_crease_begun N (fun _ => rfl)) gam_nil) (c := c_crease_Vacant N) (F := fun ls => t_crease_Vacant (std (env_crease_Vacant N) N) (xOf ls)) (fun ls => rfl) (fun ls => xf_crease_Vacant (std (env_crease_Vacant N) N) (xOf ls)) h
def g_crease_Left : Cfg := { gam := [], imm := false, old := false }
theorem xf_crease_Left (O : Alg) (x : Ags O) : XF (O := O) Tryz.prog g_crease_Left true true [] 62 [] (xr x k_crease_Left 0) = t_crease_Left O x := by kernel_rfl
theorem V_crease_Left {E : Env} {M : Nat} (N : Nat) (h : ∀ ls, E 62 [] ls = c_crease_Left N ls) : VV Tryz.prog E M ⟨62, [], true, true, []⟩ :=
  valid_tab mix (E := env_crease_Left N) (N := N) (cfg := g_crease_Left) (ci := ⟨62, [], true, true, []⟩) (ks := k_crease_Left) gam_nil (c := c_crease_Left N) (F := fun ls => t_crease_Left (std (env_crease_Left N) N) (xOf ls)) (fun ls => rfl) (fun ls => xf_crease_Left (std (env_crease_Left N) N) (xOf ls)) h
def g_innings_Ending : Cfg := { gam := [⟨16, [], true, true, []⟩, ⟨61, [], true, true, []⟩, ⟨62, [], true, true, []⟩], imm := false, old := false }
theorem xf_innings_Ending (O : Alg) (x : Ags O) : XF (O := O) Tryz.prog g_innings_Ending true true [] 18 [] (xr x k_innings_Ending 0) = t_innings_Ending O x := by kernel_rfl
theorem V_innings_Ending {E : Env} {M : Nat} (N : Nat) (h : ∀ ls, E 18 [] ls = c_innings_Ending N ls) : VV Tryz.prog E M ⟨18, [], true, true, []⟩ :=
  valid_tab mix (E := env_innings_Ending N) (N := N) (cfg := g_innings_Ending) (ci := ⟨18, [], true, true, []⟩) (ks := k_innings_Ending) (gam_cons (V_innings_Valid N (fun _ => rfl)) (gam_cons (V_crease_Vacant N (fun _ => rfl)) (gam_cons (V_crease_Left N (fun _ => rfl)) gam_nil))) (c := c_innings_Ending N) (F := fun ls => t_innings_Ending (std (env_innings_Ending N) N) (xOf ls)) (fun ls => rfl) (fun ls => xf_innings_Ending (std (env_innings_Ending N) N) (xOf ls)) h
theorem V_slices_Clone_Status {E : Env} {M : Nat} (N : Nat) (h : ∀ ls, E 77 [] ls = c_slices_Clone_Status N ls) : VV Tryz.prog E M ⟨77, [], true, true, []⟩ :=
  valid_clone mix (T := 27) (e := 97) (b := 1) Tryz.func77 Tryz.underlying27 (by kernel_rfl) (by decide) (fun O l => by kernel_rfl) (fun O l => by kernel_rfl) h
theorem V_slices_Clone_int {E : Env} {M : Nat} (N : Nat) (h : ∀ ls, E 78 [] ls = c_slices_Clone_int N ls) : VV Tryz.prog E M ⟨78, [], true, true, []⟩ :=
  valid_clone mix (T := 28) (e := 3) (b := 8) Tryz.func78 Tryz.underlying28 (by kernel_rfl) (by decide) (fun O l => by kernel_rfl) (fun O l => by kernel_rfl) h
theorem V_slices_Clone_bool {E : Env} {M : Nat} (N : Nat) (h : ∀ ls, E 79 [] ls = c_slices_Clone_bool N ls) : VV Tryz.prog E M ⟨79, [], true, true, []⟩ :=
  valid_clone mix (T := 29) (e := 4) (b := 1) Tryz.func79 Tryz.underlying29 (by kernel_rfl) (by decide) (fun O l => by kernel_rfl) (fun O l => by kernel_rfl) h
def g_innings_Clone : Cfg := { gam := [⟨77, [], true, true, []⟩, ⟨78, [], true, true, []⟩, ⟨79, [], true, true, []⟩], imm := false, old := false }
theorem xf_innings_Clone (O : Alg) (x : Ags O) : XF (O := O) Tryz.prog g_innings_Clone true true [] 30 [] (xr x k_innings_Clone 0) = t_innings_Clone O x := by kernel_rfl
theorem V_innings_Clone {E : Env} {M : Nat} (N : Nat) (h : ∀ ls, E 30 [] ls = c_innings_Clone N ls) : VV Tryz.prog E M ⟨30, [], true, true, []⟩ :=
  valid_tab mix (E := env_innings_Clone N) (N := N) (cfg := g_innings_Clone) (ci := ⟨30, [], true, true, []⟩) (ks := k_innings_Clone) (gam_cons (V_slices_Clone_Status N (fun _ => rfl)) (gam_cons (V_slices_Clone_int N (fun _ => rfl)) (gam_cons (V_slices_Clone_bool N (fun _ => rfl)) gam_nil))) (c := c_innings_Clone N) (F := fun ls => t_innings_Clone (std (env_innings_Clone N) N) (xOf ls)) (fun ls => rfl) (fun ls => xf_innings_Clone (std (env_innings_Clone N) N) (xOf ls)) h
def g_event_bounds : Cfg := { gam := [], imm := false, old := false }
theorem xf_event_bounds (O : Alg) (x : Ags O) : XF (O := O) Tryz.prog g_event_bounds true true [] 104 [] (xr x k_event_bounds 0) = t_event_bounds O x := by kernel_rfl
theorem V_event_bounds {E : Env} {M : Nat} (N : Nat) (h : ∀ ls, E 104 [] ls = c_event_bounds N ls) : VV Tryz.prog E M ⟨104, [], true, true, []⟩ :=
  valid_tab mix (E := env_event_bounds N) (N := N) (cfg := g_event_bounds) (ci := ⟨104, [], true, true, []⟩) (ks := k_event_bounds) gam_nil (c := c_event_bounds N) (F := fun ls => t_event_bounds (std (env_event_bounds N) N) (xOf ls)) (fun ls => rfl) (fun ls => xf_event_bounds (std (env_event_bounds N) N) (xOf ls)) h
def g_event_between : Cfg := { gam := [], imm := false, old := false }
theorem xf_event_between (O : Alg) (x : Ags O) : XF (O := O) Tryz.prog g_event_between true true [] 105 [] (xr x k_event_between 0) = t_event_between O x := by kernel_rfl
theorem V_event_between {E : Env} {M : Nat} (N : Nat) (h : ∀ ls, E 105 [] ls = c_event_between N ls) : VV Tryz.prog E M ⟨105, [], true, true, []⟩ :=
  valid_tab mix (E := env_event_between N) (N := N) (cfg := g_event_between) (ci := ⟨105, [], true, true, []⟩) (ks := k_event_between) gam_nil (c := c_event_between N) (F := fun ls => t_event_between (std (env_event_between N) N) (xOf ls)) (fun ls => rfl) (fun ls => xf_event_between (std (env_event_between N) N) (xOf ls)) h
open Go.RowKit Go.Lib in
set_option maxHeartbeats 1000000 in
theorem idx_stringslite_IndexByte (s : ByteArray) (c : Int) (w : World) : Calls Tryz.prog 210 #[.string s, .int .u8 c] w fun e w' => e = .returned (.int .i64 (Lib.indexByte s.data.toList c.toNat.toUInt8)) ∧ w' = w := by
  go_enter Tryz.func210, Tryz.ntmps210
  go_wp2
  rw [run_callFunc_extern Tryz.func226 (by kernel_rfl) (by kernel_rfl) (by kernel_rfl) (e := Extern.BytealgIndexByte.indexByte) (by kernel_rfl), Lib.run_indexByteString]
  simp only [Result.andThen]
  rw [Oper.upon_value]
  go_wp2
  go_ret
  exact ⟨rfl, rfl⟩
theorem V_stringslite_IndexByte {E : Env} {M : Nat} (N : Nat) (h : ∀ ls, E 210 [] ls = c_stringslite_IndexByte N ls) : VV Tryz.prog E M ⟨210, [], true, true, []⟩ :=
  valid_index Tryz.func210 (T9 := 9) (T5 := 5) (T3 := 3) rfl rfl Tryz.underlying9 Tryz.underlying5 Tryz.underlying3 (by kernel_rfl) idx_stringslite_IndexByte h
def g_strings_IndexByte : Cfg := { gam := [⟨210, [], true, true, []⟩], imm := false, old := false }
theorem xf_strings_IndexByte (O : Alg) (x : Ags O) : XF (O := O) Tryz.prog g_strings_IndexByte true true [] 166 [] (xr x k_strings_IndexByte 0) = t_strings_IndexByte O x := by kernel_rfl
theorem V_strings_IndexByte {E : Env} {M : Nat} (N : Nat) (h : ∀ ls, E 166 [] ls = c_strings_IndexByte N ls) : VV Tryz.prog E M ⟨166, [], true, true, []⟩ :=
  valid_tab mix (E := env_strings_IndexByte N) (N := N) (cfg := g_strings_IndexByte) (ci := ⟨166, [], true, true, []⟩) (ks := k_strings_IndexByte) (gam_cons (V_stringslite_IndexByte N (fun _ => rfl)) gam_nil) (c := c_strings_IndexByte N) (F := fun ls => t_strings_IndexByte (std (env_strings_IndexByte N) N) (xOf ls)) (fun ls => rfl) (fun ls => xf_strings_IndexByte (std (env_strings_IndexByte N) N) (xOf ls)) h
def g_event_forms : Cfg := { gam := [], imm := false, old := false }
theorem xf_event_forms (O : Alg) (x : Ags O) : XF (O := O) Tryz.prog g_event_forms true true [] 167 [] (xr x k_event_forms 0) = t_event_forms O x := by kernel_rfl
theorem V_event_forms {E : Env} {M : Nat} (N : Nat) (h : ∀ ls, E 167 [] ls = c_event_forms N ls) : VV Tryz.prog E M ⟨167, [], true, true, []⟩ :=
  valid_tab mix (E := env_event_forms N) (N := N) (cfg := g_event_forms) (ci := ⟨167, [], true, true, []⟩) (ks := k_event_forms) gam_nil (c := c_event_forms N) (F := fun ls => t_event_forms (std (env_event_forms N) N) (xOf ls)) (fun ls => rfl) (fun ls => xf_event_forms (std (env_event_forms N) N) (xOf ls)) h
def g_event_uses : Cfg := { gam := [⟨166, [], true, true, []⟩, ⟨167, [], true, true, []⟩], imm := false, old := false }
theorem xf_event_uses (O : Alg) (x : Ags O) : XF (O := O) Tryz.prog g_event_uses true true [] 106 [] (xr x k_event_uses 0) = t_event_uses O x := by kernel_rfl
theorem V_event_uses {E : Env} {M : Nat} (N : Nat) (h : ∀ ls, E 106 [] ls = c_event_uses N ls) : VV Tryz.prog E M ⟨106, [], true, true, []⟩ :=
  valid_tab mix (E := env_event_uses N) (N := N) (cfg := g_event_uses) (ci := ⟨106, [], true, true, []⟩) (ks := k_event_uses) (gam_cons (V_strings_IndexByte N (fun _ => rfl)) (gam_cons (V_event_forms N (fun _ => rfl)) gam_nil)) (c := c_event_uses N) (F := fun ls => t_event_uses (std (env_event_uses N) N) (xOf ls)) (fun ls => rfl) (fun ls => xf_event_uses (std (env_event_uses N) N) (xOf ls)) h
def g_notation_between : Cfg := { gam := [], imm := false, old := false }
theorem xf_notation_between (O : Alg) (x : Ags O) : XF (O := O) Tryz.prog g_notation_between true true [] 168 [] (xr x k_notation_between 0) = t_notation_between O x := by kernel_rfl
theorem V_notation_between {E : Env} {M : Nat} (N : Nat) (h : ∀ ls, E 168 [] ls = c_notation_between N ls) : VV Tryz.prog E M ⟨168, [], true, true, []⟩ :=
  valid_tab mix (E := env_notation_between N) (N := N) (cfg := g_notation_between) (ci := ⟨168, [], true, true, []⟩) (ks := k_notation_between) gam_nil (c := c_notation_between N) (F := fun ls => t_notation_between (std (env_notation_between N) N) (xOf ls)) (fun ls => rfl) (fun ls => xf_notation_between (std (env_notation_between N) N) (xOf ls)) h
def g_notation_Check : Cfg := { gam := [⟨168, [], true, true, []⟩], imm := false, old := false }
theorem xf_notation_Check (O : Alg) (x : Ags O) : XF (O := O) Tryz.prog g_notation_Check true true [] 107 [] (xr x k_notation_Check 0) = t_notation_Check O x := by kernel_rfl
theorem V_notation_Check {E : Env} {M : Nat} (N : Nat) (h : ∀ ls, E 107 [] ls = c_notation_Check N ls) : VV Tryz.prog E M ⟨107, [], true, true, []⟩ :=
  valid_tab mix (E := env_notation_Check N) (N := N) (cfg := g_notation_Check) (ci := ⟨107, [], true, true, []⟩) (ks := k_notation_Check) (gam_cons (V_notation_between N (fun _ => rfl)) gam_nil) (c := c_notation_Check N) (F := fun ls => t_notation_Check (std (env_notation_Check N) N) (xOf ls)) (fun ls => rfl) (fun ls => xf_notation_Check (std (env_notation_Check N) N) (xOf ls)) h
def g_event_Check : Cfg := { gam := [⟨104, [], true, true, []⟩, ⟨105, [], true, true, []⟩, ⟨106, [], true, true, []⟩, ⟨107, [], true, true, []⟩], imm := false, old := false }
theorem xf_event_Check (O : Alg) (x : Ags O) : XF (O := O) Tryz.prog g_event_Check true true [] 65 [] (xr x k_event_Check 0) = t_event_Check O x := by kernel_rfl
theorem V_event_Check {E : Env} {M : Nat} (N : Nat) (h : ∀ ls, E 65 [] ls = c_event_Check N ls) : VV Tryz.prog E M ⟨65, [], true, true, []⟩ :=
  valid_tab mix (E := env_event_Check N) (N := N) (cfg := g_event_Check) (ci := ⟨65, [], true, true, []⟩) (ks := k_event_Check) (gam_cons (V_event_bounds N (fun _ => rfl)) (gam_cons (V_event_between N (fun _ => rfl)) (gam_cons (V_event_uses N (fun _ => rfl)) (gam_cons (V_notation_Check N (fun _ => rfl)) gam_nil)))) (c := c_event_Check N) (F := fun ls => t_event_Check (std (env_event_Check N) N) (xOf ls)) (fun ls => rfl) (fun ls => xf_event_Check (std (env_event_Check N) N) (xOf ls)) h
def g_innings_begun_1 : Cfg := { gam := [], imm := false, old := false }
theorem xf_innings_begun_1 (O : Alg) (x : Ags O) : XF (O := O) Tryz.prog g_innings_begun_1 true true [] 109 [] (xr x k_innings_begun_1 0) = t_innings_begun_1 O x := by kernel_rfl
theorem V_innings_begun_1 {E : Env} {M : Nat} (N : Nat) (h : ∀ ls, E 109 [] ls = c_innings_begun_1 N ls) : VV Tryz.prog E M ⟨109, [], true, true, []⟩ :=
  valid_tab mix (E := env_innings_begun_1 N) (N := N) (cfg := g_innings_begun_1) (ci := ⟨109, [], true, true, []⟩) (ks := k_innings_begun_1) gam_nil (c := c_innings_begun_1 N) (F := fun ls => t_innings_begun_1 (std (env_innings_begun_1 N) N) (xOf ls)) (fun ls => rfl) (fun ls => xf_innings_begun_1 (std (env_innings_begun_1 N) N) (xOf ls)) h
def g_innings_begun : Cfg := { gam := [⟨109, [], true, true, []⟩], imm := false, old := false }
theorem xf_innings_begun (O : Alg) (x : Ags O) : XF (O := O) Tryz.prog g_innings_begun true true [] 66 [] (xr x k_innings_begun 0) = t_innings_begun O x := by kernel_rfl
theorem V_innings_begun {E : Env} {M : Nat} (N : Nat) (h : ∀ ls, E 66 [] ls = c_innings_begun N ls) : VV Tryz.prog E M ⟨66, [], true, true, []⟩ :=
  valid_tab mix (E := env_innings_begun N) (N := N) (cfg := g_innings_begun) (ci := ⟨66, [], true, true, []⟩) (ks := k_innings_begun) (gam_cons (V_innings_begun_1 N (fun _ => rfl)) gam_nil) (c := c_innings_begun N) (F := fun ls => t_innings_begun (std (env_innings_begun N) N) (xOf ls)) (fun ls => rfl) (fun ls => xf_innings_begun (std (env_innings_begun N) N) (xOf ls)) h
def g_crease_own : Cfg := { gam := [⟨77, [], true, true, []⟩, ⟨78, [], true, true, []⟩, ⟨79, [], true, true, []⟩], imm := false, old := false }
theorem xf_crease_own (O : Alg) (x : Ags O) : XF (O := O) Tryz.prog g_crease_own true true [] 170 [] (xr x k_crease_own 0) = t_crease_own O x := by kernel_rfl
theorem V_crease_own {E : Env} {M : Nat} (N : Nat) (h : ∀ ls, E 170 [] ls = c_crease_own N ls) : VV Tryz.prog E M ⟨170, [], true, true, []⟩ :=
  valid_tab mix (E := env_crease_own N) (N := N) (cfg := g_crease_own) (ci := ⟨170, [], true, true, []⟩) (ks := k_crease_own) (gam_cons (V_slices_Clone_Status N (fun _ => rfl)) (gam_cons (V_slices_Clone_int N (fun _ => rfl)) (gam_cons (V_slices_Clone_bool N (fun _ => rfl)) gam_nil))) (c := c_crease_own N) (F := fun ls => t_crease_own (std (env_crease_own N) N) (xOf ls)) (fun ls => rfl) (fun ls => xf_crease_own (std (env_crease_own N) N) (xOf ls)) h
def g_crease_known : Cfg := { gam := [], imm := false, old := false }
theorem xf_crease_known (O : Alg) (x : Ags O) : XF (O := O) Tryz.prog g_crease_known true true [] 171 [] (xr x k_crease_known 0) = t_crease_known O x := by kernel_rfl
theorem V_crease_known {E : Env} {M : Nat} (N : Nat) (h : ∀ ls, E 171 [] ls = c_crease_known N ls) : VV Tryz.prog E M ⟨171, [], true, true, []⟩ :=
  valid_tab mix (E := env_crease_known N) (N := N) (cfg := g_crease_known) (ci := ⟨171, [], true, true, []⟩) (ks := k_crease_known) gam_nil (c := c_crease_known N) (F := fun ls => t_crease_known (std (env_crease_known N) N) (xOf ls)) (fun ls => rfl) (fun ls => xf_crease_known (std (env_crease_known N) N) (xOf ls)) h
def g_crease_Open : Cfg := { gam := [⟨103, [], true, true, []⟩, ⟨170, [], true, true, []⟩, ⟨171, [], true, true, []⟩], imm := false, old := false }
theorem xf_crease_Open (O : Alg) (x : Ags O) : XF (O := O) Tryz.prog g_crease_Open true true [] 110 [] (xr x k_crease_Open 0) = t_crease_Open O x := by kernel_rfl
theorem V_crease_Open {E : Env} {M : Nat} (N : Nat) (h : ∀ ls, E 110 [] ls = c_crease_Open N ls) : VV Tryz.prog E M ⟨110, [], true, true, []⟩ :=
  valid_tab mix (E := env_crease_Open N) (N := N) (cfg := g_crease_Open) (ci := ⟨110, [], true, true, []⟩) (ks := k_crease_Open) (gam_cons (V_crease_begun N (fun _ => rfl)) (gam_cons (V_crease_own N (fun _ => rfl)) (gam_cons (V_crease_known N (fun _ => rfl)) gam_nil))) (c := c_crease_Open N) (F := fun ls => t_crease_Open (std (env_crease_Open N) N) (xOf ls)) (fun ls => rfl) (fun ls => xf_crease_Open (std (env_crease_Open N) N) (xOf ls)) h
def g_spell_own : Cfg := { gam := [⟨77, [], true, true, []⟩, ⟨78, [], true, true, []⟩, ⟨79, [], true, true, []⟩], imm := false, old := false }
theorem xf_spell_own (O : Alg) (x : Ags O) : XF (O := O) Tryz.prog g_spell_own true true [] 172 [] (xr x k_spell_own 0) = t_spell_own O x := by kernel_rfl
theorem V_spell_own {E : Env} {M : Nat} (N : Nat) (h : ∀ ls, E 172 [] ls = c_spell_own N ls) : VV Tryz.prog E M ⟨172, [], true, true, []⟩ :=
  valid_tab mix (E := env_spell_own N) (N := N) (cfg := g_spell_own) (ci := ⟨172, [], true, true, []⟩) (ks := k_spell_own) (gam_cons (V_slices_Clone_Status N (fun _ => rfl)) (gam_cons (V_slices_Clone_int N (fun _ => rfl)) (gam_cons (V_slices_Clone_bool N (fun _ => rfl)) gam_nil))) (c := c_spell_own N) (F := fun ls => t_spell_own (std (env_spell_own N) N) (xOf ls)) (fun ls => rfl) (fun ls => xf_spell_own (std (env_spell_own N) N) (xOf ls)) h
def g_spell_known : Cfg := { gam := [], imm := false, old := false }
theorem xf_spell_known (O : Alg) (x : Ags O) : XF (O := O) Tryz.prog g_spell_known true true [] 211 [] (xr x k_spell_known 0) = t_spell_known O x := by kernel_rfl
theorem V_spell_known {E : Env} {M : Nat} (N : Nat) (h : ∀ ls, E 211 [] ls = c_spell_known N ls) : VV Tryz.prog E M ⟨211, [], true, true, []⟩ :=
  valid_tab mix (E := env_spell_known N) (N := N) (cfg := g_spell_known) (ci := ⟨211, [], true, true, []⟩) (ks := k_spell_known) gam_nil (c := c_spell_known N) (F := fun ls => t_spell_known (std (env_spell_known N) N) (xOf ls)) (fun ls => rfl) (fun ls => xf_spell_known (std (env_spell_known N) N) (xOf ls)) h
def g_spell_Room : Cfg := { gam := [⟨52, [], true, true, []⟩, ⟨211, [], true, true, []⟩], imm := false, old := false }
theorem xf_spell_Room (O : Alg) (x : Ags O) : XF (O := O) Tryz.prog g_spell_Room true true [] 212 [] (xr x k_spell_Room 0) = t_spell_Room O x := by kernel_rfl
theorem V_spell_Room {E : Env} {M : Nat} (N : Nat) (h : ∀ ls, E 212 [] ls = c_spell_Room N ls) : VV Tryz.prog E M ⟨212, [], true, true, []⟩ :=
  valid_tab mix (E := env_spell_Room N) (N := N) (cfg := g_spell_Room) (ci := ⟨212, [], true, true, []⟩) (ks := k_spell_Room) (gam_cons (V_rules_Check N (fun _ => rfl)) (gam_cons (V_spell_known N (fun _ => rfl)) gam_nil)) (c := c_spell_Room N) (F := fun ls => t_spell_Room (std (env_spell_Room N) N) (xOf ls)) (fun ls => rfl) (fun ls => xf_spell_Room (std (env_spell_Room N) N) (xOf ls)) h
def g_spell_May : Cfg := { gam := [⟨52, [], true, true, []⟩, ⟨98, [], true, true, []⟩, ⟨211, [], true, true, []⟩, ⟨212, [], true, true, []⟩], imm := false, old := false }
theorem xf_spell_May (O : Alg) (x : Ags O) : XF (O := O) Tryz.prog g_spell_May true true [] 173 [] (xr x k_spell_May 0) = t_spell_May O x := by kernel_rfl
theorem V_spell_May {E : Env} {M : Nat} (N : Nat) (h : ∀ ls, E 173 [] ls = c_spell_May N ls) : VV Tryz.prog E M ⟨173, [], true, true, []⟩ :=
  valid_tab mix (E := env_spell_May N) (N := N) (cfg := g_spell_May) (ci := ⟨173, [], true, true, []⟩) (ks := k_spell_May) (gam_cons (V_rules_Check N (fun _ => rfl)) (gam_cons (V_slices_Contains_int N (fun _ => rfl)) (gam_cons (V_spell_known N (fun _ => rfl)) (gam_cons (V_spell_Room N (fun _ => rfl)) gam_nil)))) (c := c_spell_May N) (F := fun ls => t_spell_May (std (env_spell_May N) N) (xOf ls)) (fun ls => rfl) (fun ls => xf_spell_May (std (env_spell_May N) N) (xOf ls)) h
def g_spell_Take : Cfg := { gam := [⟨172, [], true, true, []⟩, ⟨173, [], true, true, []⟩], imm := false, old := false }
theorem xf_spell_Take (O : Alg) (x : Ags O) : XF (O := O) Tryz.prog g_spell_Take true true [] 111 [] (xr x k_spell_Take 0) = t_spell_Take O x := by kernel_rfl
theorem V_spell_Take {E : Env} {M : Nat} (N : Nat) (h : ∀ ls, E 111 [] ls = c_spell_Take N ls) : VV Tryz.prog E M ⟨111, [], true, true, []⟩ :=
  valid_tab mix (E := env_spell_Take N) (N := N) (cfg := g_spell_Take) (ci := ⟨111, [], true, true, []⟩) (ks := k_spell_Take) (gam_cons (V_spell_own N (fun _ => rfl)) (gam_cons (V_spell_May N (fun _ => rfl)) gam_nil)) (c := c_spell_Take N) (F := fun ls => t_spell_Take (std (env_spell_Take N) N) (xOf ls)) (fun ls => rfl) (fun ls => xf_spell_Take (std (env_spell_Take N) N) (xOf ls)) h
def g_delivery_Total : Cfg := { gam := [], imm := false, old := false }
theorem xf_delivery_Total (O : Alg) (x : Ags O) : XF (O := O) Tryz.prog g_delivery_Total true true [] 37 [] (xr x k_delivery_Total 0) = t_delivery_Total O x := by kernel_rfl
theorem V_delivery_Total {E : Env} {M : Nat} (N : Nat) (h : ∀ ls, E 37 [] ls = c_delivery_Total N ls) : VV Tryz.prog E M ⟨37, [], true, true, []⟩ :=
  valid_tab mix (E := env_delivery_Total N) (N := N) (cfg := g_delivery_Total) (ci := ⟨37, [], true, true, []⟩) (ks := k_delivery_Total) gam_nil (c := c_delivery_Total N) (F := fun ls => t_delivery_Total (std (env_delivery_Total N) N) (xOf ls)) (fun ls => rfl) (fun ls => xf_delivery_Total (std (env_delivery_Total N) N) (xOf ls)) h
def g_delivery_together : Cfg := { gam := [], imm := false, old := false }
theorem xf_delivery_together (O : Alg) (x : Ags O) : XF (O := O) Tryz.prog g_delivery_together true true [] 223 [] (xr x k_delivery_together 0) = t_delivery_together O x := by kernel_rfl
theorem V_delivery_together {E : Env} {M : Nat} (N : Nat) (h : ∀ ls, E 223 [] ls = c_delivery_together N ls) : VV Tryz.prog E M ⟨223, [], true, true, []⟩ :=
  valid_tab mix (E := env_delivery_together N) (N := N) (cfg := g_delivery_together) (ci := ⟨223, [], true, true, []⟩) (ks := k_delivery_together) gam_nil (c := c_delivery_together N) (F := fun ls => t_delivery_together (std (env_delivery_together N) N) (xOf ls)) (fun ls => rfl) (fun ls => xf_delivery_together (std (env_delivery_together N) N) (xOf ls)) h
def g_delivery_Legal : Cfg := { gam := [⟨223, [], true, true, []⟩], imm := false, old := false }
theorem xf_delivery_Legal (O : Alg) (x : Ags O) : XF (O := O) Tryz.prog g_delivery_Legal true true [] 197 [] (xr x k_delivery_Legal 0) = t_delivery_Legal O x := by kernel_rfl
theorem V_delivery_Legal {E : Env} {M : Nat} (N : Nat) (h : ∀ ls, E 197 [] ls = c_delivery_Legal N ls) : VV Tryz.prog E M ⟨197, [], true, true, []⟩ :=
  valid_tab mix (E := env_delivery_Legal N) (N := N) (cfg := g_delivery_Legal) (ci := ⟨197, [], true, true, []⟩) (ks := k_delivery_Legal) (gam_cons (V_delivery_together N (fun _ => rfl)) gam_nil) (c := c_delivery_Legal N) (F := fun ls => t_delivery_Legal (std (env_delivery_Legal N) N) (xOf ls)) (fun ls => rfl) (fun ls => xf_delivery_Legal (std (env_delivery_Legal N) N) (xOf ls)) h
def g_delivery_Credited : Cfg := { gam := [], imm := false, old := false }
theorem xf_delivery_Credited (O : Alg) (x : Ags O) : XF (O := O) Tryz.prog g_delivery_Credited true true [] 198 [] (xr x k_delivery_Credited 0) = t_delivery_Credited O x := by kernel_rfl
theorem V_delivery_Credited {E : Env} {M : Nat} (N : Nat) (h : ∀ ls, E 198 [] ls = c_delivery_Credited N ls) : VV Tryz.prog E M ⟨198, [], true, true, []⟩ :=
  valid_tab mix (E := env_delivery_Credited N) (N := N) (cfg := g_delivery_Credited) (ci := ⟨198, [], true, true, []⟩) (ks := k_delivery_Credited) gam_nil (c := c_delivery_Credited N) (F := fun ls => t_delivery_Credited (std (env_delivery_Credited N) N) (xOf ls)) (fun ls => rfl) (fun ls => xf_delivery_Credited (std (env_delivery_Credited N) N) (xOf ls)) h
def g_delivery_Credit : Cfg := { gam := [⟨197, [], true, true, []⟩, ⟨198, [], true, true, []⟩], imm := false, old := false }
theorem xf_delivery_Credit (O : Alg) (x : Ags O) : XF (O := O) Tryz.prog g_delivery_Credit true true [] 142 [] (xr x k_delivery_Credit 0) = t_delivery_Credit O x := by kernel_rfl
theorem V_delivery_Credit {E : Env} {M : Nat} (N : Nat) (h : ∀ ls, E 142 [] ls = c_delivery_Credit N ls) : VV Tryz.prog E M ⟨142, [], true, true, []⟩ :=
  valid_tab mix (E := env_delivery_Credit N) (N := N) (cfg := g_delivery_Credit) (ci := ⟨142, [], true, true, []⟩) (ks := k_delivery_Credit) (gam_cons (V_delivery_Legal N (fun _ => rfl)) (gam_cons (V_delivery_Credited N (fun _ => rfl)) gam_nil)) (c := c_delivery_Credit N) (F := fun ls => t_delivery_Credit (std (env_delivery_Credit N) N) (xOf ls)) (fun ls => rfl) (fun ls => xf_delivery_Credit (std (env_delivery_Credit N) N) (xOf ls)) h
def g_field_known : Cfg := { gam := [], imm := false, old := false }
theorem xf_field_known (O : Alg) (x : Ags O) : XF (O := O) Tryz.prog g_field_known true true [] 181 [] (xr x k_field_known 0) = t_field_known O x := by kernel_rfl
theorem V_field_known {E : Env} {M : Nat} (N : Nat) (h : ∀ ls, E 181 [] ls = c_field_known N ls) : VV Tryz.prog E M ⟨181, [], true, true, []⟩ :=
  valid_tab mix (E := env_field_known N) (N := N) (cfg := g_field_known) (ci := ⟨181, [], true, true, []⟩) (ks := k_field_known) gam_nil (c := c_field_known N) (F := fun ls => t_field_known (std (env_field_known N) N) (xOf ls)) (fun ls => rfl) (fun ls => xf_field_known (std (env_field_known N) N) (xOf ls)) h
def g_field_replaced : Cfg := { gam := [⟨181, [], true, true, []⟩], imm := false, old := false }
theorem xf_field_replaced (O : Alg) (x : Ags O) : XF (O := O) Tryz.prog g_field_replaced true true [] 182 [] (xr x k_field_replaced 0) = t_field_replaced O x := by kernel_rfl
theorem V_field_replaced {E : Env} {M : Nat} (N : Nat) (h : ∀ ls, E 182 [] ls = c_field_replaced N ls) : VV Tryz.prog E M ⟨182, [], true, true, []⟩ :=
  valid_tab mix (E := env_field_replaced N) (N := N) (cfg := g_field_replaced) (ci := ⟨182, [], true, true, []⟩) (ks := k_field_replaced) (gam_cons (V_field_known N (fun _ => rfl)) gam_nil) (c := c_field_replaced N) (F := fun ls => t_field_replaced (std (env_field_replaced N) N) (xOf ls)) (fun ls => rfl) (fun ls => xf_field_replaced (std (env_field_replaced N) N) (xOf ls)) h
def g_rules_Allowed : Cfg := { gam := [], imm := false, old := false }
theorem xf_rules_Allowed (O : Alg) (x : Ags O) : XF (O := O) Tryz.prog g_rules_Allowed true true [] 227 [] (xr x k_rules_Allowed 0) = t_rules_Allowed O x := by kernel_rfl
theorem V_rules_Allowed {E : Env} {M : Nat} (N : Nat) (h : ∀ ls, E 227 [] ls = c_rules_Allowed N ls) : VV Tryz.prog E M ⟨227, [], true, true, []⟩ :=
  valid_tab mix (E := env_rules_Allowed N) (N := N) (cfg := g_rules_Allowed) (ci := ⟨227, [], true, true, []⟩) (ks := k_rules_Allowed) gam_nil (c := c_rules_Allowed N) (F := fun ls => t_rules_Allowed (std (env_rules_Allowed N) N) (xOf ls)) (fun ls => rfl) (fun ls => xf_rules_Allowed (std (env_rules_Allowed N) N) (xOf ls)) h
def g_field_Ready : Cfg := { gam := [⟨181, [], true, true, []⟩, ⟨182, [], true, true, []⟩, ⟨227, [], true, true, []⟩], imm := false, old := false }
theorem xf_field_Ready (O : Alg) (x : Ags O) : XF (O := O) Tryz.prog g_field_Ready true true [] 213 [] (xr x k_field_Ready 0) = t_field_Ready O x := by kernel_rfl
theorem V_field_Ready {E : Env} {M : Nat} (N : Nat) (h : ∀ ls, E 213 [] ls = c_field_Ready N ls) : VV Tryz.prog E M ⟨213, [], true, true, []⟩ :=
  valid_tab mix (E := env_field_Ready N) (N := N) (cfg := g_field_Ready) (ci := ⟨213, [], true, true, []⟩) (ks := k_field_Ready) (gam_cons (V_field_known N (fun _ => rfl)) (gam_cons (V_field_replaced N (fun _ => rfl)) (gam_cons (V_rules_Allowed N (fun _ => rfl)) gam_nil))) (c := c_field_Ready N) (F := fun ls => t_field_Ready (std (env_field_Ready N) N) (xOf ls)) (fun ls => rfl) (fun ls => xf_field_Ready (std (env_field_Ready N) N) (xOf ls)) h
def g_dismissal_table : Cfg := { gam := [], imm := false, old := false }
theorem xf_dismissal_table (O : Alg) (x : Ags O) : XF (O := O) Tryz.prog g_dismissal_table true true [] 232 [] (xr x k_dismissal_table 0) = t_dismissal_table O x := by kernel_rfl
theorem V_dismissal_table {E : Env} {M : Nat} (N : Nat) (h : ∀ ls, E 232 [] ls = c_dismissal_table N ls) : VV Tryz.prog E M ⟨232, [], true, true, []⟩ :=
  valid_tab mix (E := env_dismissal_table N) (N := N) (cfg := g_dismissal_table) (ci := ⟨232, [], true, true, []⟩) (ks := k_dismissal_table) gam_nil (c := c_dismissal_table N) (F := fun ls => t_dismissal_table (std (env_dismissal_table N) N) (xOf ls)) (fun ls => rfl) (fun ls => xf_dismissal_table (std (env_dismissal_table N) N) (xOf ls)) h
def g_dismissal_of : Cfg := { gam := [⟨232, [], true, true, []⟩], imm := false, old := false }
theorem xf_dismissal_of (O : Alg) (x : Ags O) : XF (O := O) Tryz.prog g_dismissal_of true true [] 228 [] (xr x k_dismissal_of 0) = t_dismissal_of O x := by kernel_rfl
theorem V_dismissal_of {E : Env} {M : Nat} (N : Nat) (h : ∀ ls, E 228 [] ls = c_dismissal_of N ls) : VV Tryz.prog E M ⟨228, [], true, true, []⟩ :=
  valid_tab mix (E := env_dismissal_of N) (N := N) (cfg := g_dismissal_of) (ci := ⟨228, [], true, true, []⟩) (ks := k_dismissal_of) (gam_cons (V_dismissal_table N (fun _ => rfl)) gam_nil) (c := c_dismissal_of N) (F := fun ls => t_dismissal_of (std (env_dismissal_of N) N) (xOf ls)) (fun ls => rfl) (fun ls => xf_dismissal_of (std (env_dismissal_of N) N) (xOf ls)) h
def g_slices_Index_How : Cfg := { gam := [], imm := false, old := false }
theorem xf_slices_Index_How (O : Alg) (x : Ags O) : XF (O := O) Tryz.prog g_slices_Index_How true true [] 233 [] (xr x k_slices_Index_How 0) = t_slices_Index_How O x := by kernel_rfl
theorem V_slices_Index_How {E : Env} {M : Nat} (N : Nat) (h : ∀ ls, E 233 [] ls = c_slices_Index_How N ls) : VV Tryz.prog E M ⟨233, [], true, true, []⟩ :=
  valid_tab mix (E := env_slices_Index_How N) (N := N) (cfg := g_slices_Index_How) (ci := ⟨233, [], true, true, []⟩) (ks := k_slices_Index_How) gam_nil (c := c_slices_Index_How N) (F := fun ls => t_slices_Index_How (std (env_slices_Index_How N) N) (xOf ls)) (fun ls => rfl) (fun ls => xf_slices_Index_How (std (env_slices_Index_How N) N) (xOf ls)) h
def g_slices_Contains_How : Cfg := { gam := [⟨233, [], true, true, []⟩], imm := false, old := false }
theorem xf_slices_Contains_How (O : Alg) (x : Ags O) : XF (O := O) Tryz.prog g_slices_Contains_How true true [] 229 [] (xr x k_slices_Contains_How 0) = t_slices_Contains_How O x := by kernel_rfl
theorem V_slices_Contains_How {E : Env} {M : Nat} (N : Nat) (h : ∀ ls, E 229 [] ls = c_slices_Contains_How N ls) : VV Tryz.prog E M ⟨229, [], true, true, []⟩ :=
  valid_tab mix (E := env_slices_Contains_How N) (N := N) (cfg := g_slices_Contains_How) (ci := ⟨229, [], true, true, []⟩) (ks := k_slices_Contains_How) (gam_cons (V_slices_Index_How N (fun _ => rfl)) gam_nil) (c := c_slices_Contains_How N) (F := fun ls => t_slices_Contains_How (std (env_slices_Contains_How N) N) (xOf ls)) (fun ls => rfl) (fun ls => xf_slices_Contains_How (std (env_slices_Contains_How N) N) (xOf ls)) h
def g_dismissal_way_on : Cfg := { gam := [], imm := false, old := false }
theorem xf_dismissal_way_on (O : Alg) (x : Ags O) : XF (O := O) Tryz.prog g_dismissal_way_on true true [] 234 [] (xr x k_dismissal_way_on 0) = t_dismissal_way_on O x := by kernel_rfl
theorem V_dismissal_way_on {E : Env} {M : Nat} (N : Nat) (h : ∀ ls, E 234 [] ls = c_dismissal_way_on N ls) : VV Tryz.prog E M ⟨234, [], true, true, []⟩ :=
  valid_tab mix (E := env_dismissal_way_on N) (N := N) (cfg := g_dismissal_way_on) (ci := ⟨234, [], true, true, []⟩) (ks := k_dismissal_way_on) gam_nil (c := c_dismissal_way_on N) (F := fun ls => t_dismissal_way_on (std (env_dismissal_way_on N) N) (xOf ls)) (fun ls => rfl) (fun ls => xf_dismissal_way_on (std (env_dismissal_way_on N) N) (xOf ls)) h
def g_dismissal_Ways : Cfg := { gam := [⟨232, [], true, true, []⟩, ⟨234, [], true, true, []⟩], imm := false, old := false }
theorem xf_dismissal_Ways (O : Alg) (x : Ags O) : XF (O := O) Tryz.prog g_dismissal_Ways true true [] 230 [] (xr x k_dismissal_Ways 0) = t_dismissal_Ways O x := by kernel_rfl
theorem V_dismissal_Ways {E : Env} {M : Nat} (N : Nat) (h : ∀ ls, E 230 [] ls = c_dismissal_Ways N ls) : VV Tryz.prog E M ⟨230, [], true, true, []⟩ :=
  valid_tab mix (E := env_dismissal_Ways N) (N := N) (cfg := g_dismissal_Ways) (ci := ⟨230, [], true, true, []⟩) (ks := k_dismissal_Ways) (gam_cons (V_dismissal_table N (fun _ => rfl)) (gam_cons (V_dismissal_way_on N (fun _ => rfl)) gam_nil)) (c := c_dismissal_Ways N) (F := fun ls => t_dismissal_Ways (std (env_dismissal_Ways N) N) (xOf ls)) (fun ls => rfl) (fun ls => xf_dismissal_Ways (std (env_dismissal_Ways N) N) (xOf ls)) h
def g_dismissal_fielders_1 : Cfg := { gam := [], imm := false, old := false }
theorem xf_dismissal_fielders_1 (O : Alg) (x : Ags O) : XF (O := O) Tryz.prog g_dismissal_fielders_1 true true [] 235 [] (xr x k_dismissal_fielders_1 0) = t_dismissal_fielders_1 O x := by kernel_rfl
theorem V_dismissal_fielders_1 {E : Env} {M : Nat} (N : Nat) (h : ∀ ls, E 235 [] ls = c_dismissal_fielders_1 N ls) : VV Tryz.prog E M ⟨235, [], true, true, []⟩ :=
  valid_tab mix (E := env_dismissal_fielders_1 N) (N := N) (cfg := g_dismissal_fielders_1) (ci := ⟨235, [], true, true, []⟩) (ks := k_dismissal_fielders_1) gam_nil (c := c_dismissal_fielders_1 N) (F := fun ls => t_dismissal_fielders_1 (std (env_dismissal_fielders_1 N) N) (xOf ls)) (fun ls => rfl) (fun ls => xf_dismissal_fielders_1 (std (env_dismissal_fielders_1 N) N) (xOf ls)) h
def g_dismissal_fielders : Cfg := { gam := [⟨235, [], true, true, []⟩], imm := false, old := false }
theorem xf_dismissal_fielders (O : Alg) (x : Ags O) : XF (O := O) Tryz.prog g_dismissal_fielders true true [] 231 [] (xr x k_dismissal_fielders 0) = t_dismissal_fielders O x := by kernel_rfl
theorem V_dismissal_fielders {E : Env} {M : Nat} (N : Nat) (h : ∀ ls, E 231 [] ls = c_dismissal_fielders N ls) : VV Tryz.prog E M ⟨231, [], true, true, []⟩ :=
  valid_tab mix (E := env_dismissal_fielders N) (N := N) (cfg := g_dismissal_fielders) (ci := ⟨231, [], true, true, []⟩) (ks := k_dismissal_fielders) (gam_cons (V_dismissal_fielders_1 N (fun _ => rfl)) gam_nil) (c := c_dismissal_fielders N) (F := fun ls => t_dismissal_fielders (std (env_dismissal_fielders N) N) (xOf ls)) (fun ls => rfl) (fun ls => xf_dismissal_fielders (std (env_dismissal_fielders N) N) (xOf ls)) h
def g_dismissal_Possible : Cfg := { gam := [⟨228, [], true, true, []⟩, ⟨229, [], true, true, []⟩, ⟨230, [], true, true, []⟩, ⟨231, [], true, true, []⟩], imm := false, old := false }
theorem xf_dismissal_Possible (O : Alg) (x : Ags O) : XF (O := O) Tryz.prog g_dismissal_Possible true true [] 214 [] (xr x k_dismissal_Possible 0) = t_dismissal_Possible O x := by kernel_rfl
theorem V_dismissal_Possible {E : Env} {M : Nat} (N : Nat) (h : ∀ ls, E 214 [] ls = c_dismissal_Possible N ls) : VV Tryz.prog E M ⟨214, [], true, true, []⟩ :=
  valid_tab mix (E := env_dismissal_Possible N) (N := N) (cfg := g_dismissal_Possible) (ci := ⟨214, [], true, true, []⟩) (ks := k_dismissal_Possible) (gam_cons (V_dismissal_of N (fun _ => rfl)) (gam_cons (V_slices_Contains_How N (fun _ => rfl)) (gam_cons (V_dismissal_Ways N (fun _ => rfl)) (gam_cons (V_dismissal_fielders N (fun _ => rfl)) gam_nil)))) (c := c_dismissal_Possible N) (F := fun ls => t_dismissal_Possible (std (env_dismissal_Possible N) N) (xOf ls)) (fun ls => rfl) (fun ls => xf_dismissal_Possible (std (env_dismissal_Possible N) N) (xOf ls)) h
def g_field_Named : Cfg := { gam := [⟨181, [], true, true, []⟩, ⟨182, [], true, true, []⟩], imm := false, old := false }
theorem xf_field_Named (O : Alg) (x : Ags O) : XF (O := O) Tryz.prog g_field_Named true true [] 215 [] (xr x k_field_Named 0) = t_field_Named O x := by kernel_rfl
theorem V_field_Named {E : Env} {M : Nat} (N : Nat) (h : ∀ ls, E 215 [] ls = c_field_Named N ls) : VV Tryz.prog E M ⟨215, [], true, true, []⟩ :=
  valid_tab mix (E := env_field_Named N) (N := N) (cfg := g_field_Named) (ci := ⟨215, [], true, true, []⟩) (ks := k_field_Named) (gam_cons (V_field_known N (fun _ => rfl)) (gam_cons (V_field_replaced N (fun _ => rfl)) gam_nil)) (c := c_field_Named N) (F := fun ls => t_field_Named (std (env_field_Named N) N) (xOf ls)) (fun ls => rfl) (fun ls => xf_field_Named (std (env_field_Named N) N) (xOf ls)) h
def g_innings_refused : Cfg := { gam := [⟨61, [], true, true, []⟩, ⟨197, [], true, true, []⟩, ⟨213, [], true, true, []⟩, ⟨214, [], true, true, []⟩, ⟨215, [], true, true, []⟩], imm := false, old := false }
theorem xf_innings_refused (O : Alg) (x : Ags O) : XF (O := O) Tryz.prog g_innings_refused true true [] 174 [] (xr x k_innings_refused 0) = t_innings_refused O x := by kernel_rfl
theorem V_innings_refused {E : Env} {M : Nat} (N : Nat) (h : ∀ ls, E 174 [] ls = c_innings_refused N ls) : VV Tryz.prog E M ⟨174, [], true, true, []⟩ :=
  valid_tab mix (E := env_innings_refused N) (N := N) (cfg := g_innings_refused) (ci := ⟨174, [], true, true, []⟩) (ks := k_innings_refused) (gam_cons (V_crease_Vacant N (fun _ => rfl)) (gam_cons (V_delivery_Legal N (fun _ => rfl)) (gam_cons (V_field_Ready N (fun _ => rfl)) (gam_cons (V_dismissal_Possible N (fun _ => rfl)) (gam_cons (V_field_Named N (fun _ => rfl)) gam_nil))))) (c := c_innings_refused N) (F := fun ls => t_innings_refused (std (env_innings_refused N) N) (xOf ls)) (fun ls => rfl) (fun ls => xf_innings_refused (std (env_innings_refused N) N) (xOf ls)) h
def g_crease_Ran : Cfg := { gam := [⟨170, [], true, true, []⟩, ⟨171, [], true, true, []⟩], imm := false, old := false }
theorem xf_crease_Ran (O : Alg) (x : Ags O) : XF (O := O) Tryz.prog g_crease_Ran true true [] 175 [] (xr x k_crease_Ran 0) = t_crease_Ran O x := by kernel_rfl
theorem V_crease_Ran {E : Env} {M : Nat} (N : Nat) (h : ∀ ls, E 175 [] ls = c_crease_Ran N ls) : VV Tryz.prog E M ⟨175, [], true, true, []⟩ :=
  valid_tab mix (E := env_crease_Ran N) (N := N) (cfg := g_crease_Ran) (ci := ⟨175, [], true, true, []⟩) (ks := k_crease_Ran) (gam_cons (V_crease_own N (fun _ => rfl)) (gam_cons (V_crease_known N (fun _ => rfl)) gam_nil)) (c := c_crease_Ran N) (F := fun ls => t_crease_Ran (std (env_crease_Ran N) N) (xOf ls)) (fun ls => rfl) (fun ls => xf_crease_Ran (std (env_crease_Ran N) N) (xOf ls)) h
def g_spell_Ball : Cfg := { gam := [⟨52, [], true, true, []⟩, ⟨98, [], true, true, []⟩, ⟨172, [], true, true, []⟩, ⟨211, [], true, true, []⟩], imm := false, old := false }
theorem xf_spell_Ball (O : Alg) (x : Ags O) : XF (O := O) Tryz.prog g_spell_Ball true true [] 176 [] (xr x k_spell_Ball 0) = t_spell_Ball O x := by kernel_rfl
theorem V_spell_Ball {E : Env} {M : Nat} (N : Nat) (h : ∀ ls, E 176 [] ls = c_spell_Ball N ls) : VV Tryz.prog E M ⟨176, [], true, true, []⟩ :=
  valid_tab mix (E := env_spell_Ball N) (N := N) (cfg := g_spell_Ball) (ci := ⟨176, [], true, true, []⟩) (ks := k_spell_Ball) (gam_cons (V_rules_Check N (fun _ => rfl)) (gam_cons (V_slices_Contains_int N (fun _ => rfl)) (gam_cons (V_spell_own N (fun _ => rfl)) (gam_cons (V_spell_known N (fun _ => rfl)) gam_nil)))) (c := c_spell_Ball N) (F := fun ls => t_spell_Ball (std (env_spell_Ball N) N) (xOf ls)) (fun ls => rfl) (fun ls => xf_spell_Ball (std (env_spell_Ball N) N) (xOf ls)) h
def g_crease_Change : Cfg := { gam := [⟨170, [], true, true, []⟩], imm := false, old := false }
theorem xf_crease_Change (O : Alg) (x : Ags O) : XF (O := O) Tryz.prog g_crease_Change true true [] 177 [] (xr x k_crease_Change 0) = t_crease_Change O x := by kernel_rfl
theorem V_crease_Change {E : Env} {M : Nat} (N : Nat) (h : ∀ ls, E 177 [] ls = c_crease_Change N ls) : VV Tryz.prog E M ⟨177, [], true, true, []⟩ :=
  valid_tab mix (E := env_crease_Change N) (N := N) (cfg := g_crease_Change) (ci := ⟨177, [], true, true, []⟩) (ks := k_crease_Change) (gam_cons (V_crease_own N (fun _ => rfl)) gam_nil) (c := c_crease_Change N) (F := fun ls => t_crease_Change (std (env_crease_Change N) N) (xOf ls)) (fun ls => rfl) (fun ls => xf_crease_Change (std (env_crease_Change N) N) (xOf ls)) h
def g_innings_ball : Cfg := { gam := [⟨30, [], true, true, []⟩, ⟨37, [], true, true, []⟩, ⟨142, [], true, true, []⟩, ⟨174, [], true, true, []⟩, ⟨175, [], true, true, []⟩, ⟨176, [], true, true, []⟩, ⟨177, [], true, true, []⟩], imm := false, old := false }
theorem xf_innings_ball (O : Alg) (x : Ags O) : XF (O := O) Tryz.prog g_innings_ball true true [] 112 [] (xr x k_innings_ball 0) = t_innings_ball O x := by kernel_rfl
theorem V_innings_ball {E : Env} {M : Nat} (N : Nat) (h : ∀ ls, E 112 [] ls = c_innings_ball N ls) : VV Tryz.prog E M ⟨112, [], true, true, []⟩ :=
  valid_tab mix (E := env_innings_ball N) (N := N) (cfg := g_innings_ball) (ci := ⟨112, [], true, true, []⟩) (ks := k_innings_ball) (gam_cons (V_innings_Clone N (fun _ => rfl)) (gam_cons (V_delivery_Total N (fun _ => rfl)) (gam_cons (V_delivery_Credit N (fun _ => rfl)) (gam_cons (V_innings_refused N (fun _ => rfl)) (gam_cons (V_crease_Ran N (fun _ => rfl)) (gam_cons (V_spell_Ball N (fun _ => rfl)) (gam_cons (V_crease_Change N (fun _ => rfl)) gam_nil))))))) (c := c_innings_ball N) (F := fun ls => t_innings_ball (std (env_innings_ball N) N) (xOf ls)) (fun ls => rfl) (fun ls => xf_innings_ball (std (env_innings_ball N) N) (xOf ls)) h
def g_crease_may : Cfg := { gam := [⟨61, [], true, true, []⟩, ⟨171, [], true, true, []⟩], imm := false, old := false }
theorem xf_crease_may (O : Alg) (x : Ags O) : XF (O := O) Tryz.prog g_crease_may true true [] 178 [] (xr x k_crease_may 0) = t_crease_may O x := by kernel_rfl
theorem V_crease_may {E : Env} {M : Nat} (N : Nat) (h : ∀ ls, E 178 [] ls = c_crease_may N ls) : VV Tryz.prog E M ⟨178, [], true, true, []⟩ :=
  valid_tab mix (E := env_crease_may N) (N := N) (cfg := g_crease_may) (ci := ⟨178, [], true, true, []⟩) (ks := k_crease_may) (gam_cons (V_crease_Vacant N (fun _ => rfl)) (gam_cons (V_crease_known N (fun _ => rfl)) gam_nil)) (c := c_crease_may N) (F := fun ls => t_crease_may (std (env_crease_may N) N) (xOf ls)) (fun ls => rfl) (fun ls => xf_crease_may (std (env_crease_may N) N) (xOf ls)) h
def g_crease_TimeOut : Cfg := { gam := [⟨170, [], true, true, []⟩, ⟨171, [], true, true, []⟩, ⟨178, [], true, true, []⟩], imm := false, old := false }
theorem xf_crease_TimeOut (O : Alg) (x : Ags O) : XF (O := O) Tryz.prog g_crease_TimeOut true true [] 113 [] (xr x k_crease_TimeOut 0) = t_crease_TimeOut O x := by kernel_rfl
theorem V_crease_TimeOut {E : Env} {M : Nat} (N : Nat) (h : ∀ ls, E 113 [] ls = c_crease_TimeOut N ls) : VV Tryz.prog E M ⟨113, [], true, true, []⟩ :=
  valid_tab mix (E := env_crease_TimeOut N) (N := N) (cfg := g_crease_TimeOut) (ci := ⟨113, [], true, true, []⟩) (ks := k_crease_TimeOut) (gam_cons (V_crease_own N (fun _ => rfl)) (gam_cons (V_crease_known N (fun _ => rfl)) (gam_cons (V_crease_may N (fun _ => rfl)) gam_nil))) (c := c_crease_TimeOut N) (F := fun ls => t_crease_TimeOut (std (env_crease_TimeOut N) N) (xOf ls)) (fun ls => rfl) (fun ls => xf_crease_TimeOut (std (env_crease_TimeOut N) N) (xOf ls)) h
def g_crease_Enter : Cfg := { gam := [⟨170, [], true, true, []⟩, ⟨178, [], true, true, []⟩], imm := false, old := false }
theorem xf_crease_Enter (O : Alg) (x : Ags O) : XF (O := O) Tryz.prog g_crease_Enter true true [] 114 [] (xr x k_crease_Enter 0) = t_crease_Enter O x := by kernel_rfl
theorem V_crease_Enter {E : Env} {M : Nat} (N : Nat) (h : ∀ ls, E 114 [] ls = c_crease_Enter N ls) : VV Tryz.prog E M ⟨114, [], true, true, []⟩ :=
  valid_tab mix (E := env_crease_Enter N) (N := N) (cfg := g_crease_Enter) (ci := ⟨114, [], true, true, []⟩) (ks := k_crease_Enter) (gam_cons (V_crease_own N (fun _ => rfl)) (gam_cons (V_crease_may N (fun _ => rfl)) gam_nil)) (c := c_crease_Enter N) (F := fun ls => t_crease_Enter (std (env_crease_Enter N) N) (xOf ls)) (fun ls => rfl) (fun ls => xf_crease_Enter (std (env_crease_Enter N) N) (xOf ls)) h
def g_crease_Retire : Cfg := { gam := [⟨62, [], true, true, []⟩, ⟨170, [], true, true, []⟩, ⟨171, [], true, true, []⟩], imm := false, old := false }
theorem xf_crease_Retire (O : Alg) (x : Ags O) : XF (O := O) Tryz.prog g_crease_Retire true true [] 115 [] (xr x k_crease_Retire 0) = t_crease_Retire O x := by kernel_rfl
theorem V_crease_Retire {E : Env} {M : Nat} (N : Nat) (h : ∀ ls, E 115 [] ls = c_crease_Retire N ls) : VV Tryz.prog E M ⟨115, [], true, true, []⟩ :=
  valid_tab mix (E := env_crease_Retire N) (N := N) (cfg := g_crease_Retire) (ci := ⟨115, [], true, true, []⟩) (ks := k_crease_Retire) (gam_cons (V_crease_Left N (fun _ => rfl)) (gam_cons (V_crease_own N (fun _ => rfl)) (gam_cons (V_crease_known N (fun _ => rfl)) gam_nil))) (c := c_crease_Retire N) (F := fun ls => t_crease_Retire (std (env_crease_Retire N) N) (xOf ls)) (fun ls => rfl) (fun ls => xf_crease_Retire (std (env_crease_Retire N) N) (xOf ls)) h
def g_field_own : Cfg := { gam := [⟨77, [], true, true, []⟩, ⟨78, [], true, true, []⟩, ⟨79, [], true, true, []⟩], imm := false, old := false }
theorem xf_field_own (O : Alg) (x : Ags O) : XF (O := O) Tryz.prog g_field_own true true [] 180 [] (xr x k_field_own 0) = t_field_own O x := by kernel_rfl
theorem V_field_own {E : Env} {M : Nat} (N : Nat) (h : ∀ ls, E 180 [] ls = c_field_own N ls) : VV Tryz.prog E M ⟨180, [], true, true, []⟩ :=
  valid_tab mix (E := env_field_own N) (N := N) (cfg := g_field_own) (ci := ⟨180, [], true, true, []⟩) (ks := k_field_own) (gam_cons (V_slices_Clone_Status N (fun _ => rfl)) (gam_cons (V_slices_Clone_int N (fun _ => rfl)) (gam_cons (V_slices_Clone_bool N (fun _ => rfl)) gam_nil))) (c := c_field_own N) (F := fun ls => t_field_own (std (env_field_own N) N) (xOf ls)) (fun ls => rfl) (fun ls => xf_field_own (std (env_field_own N) N) (xOf ls)) h
def g_field_Outside : Cfg := { gam := [⟨180, [], true, true, []⟩], imm := false, old := false }
theorem xf_field_Outside (O : Alg) (x : Ags O) : XF (O := O) Tryz.prog g_field_Outside true true [] 116 [] (xr x k_field_Outside 0) = t_field_Outside O x := by kernel_rfl
theorem V_field_Outside {E : Env} {M : Nat} (N : Nat) (h : ∀ ls, E 116 [] ls = c_field_Outside N ls) : VV Tryz.prog E M ⟨116, [], true, true, []⟩ :=
  valid_tab mix (E := env_field_Outside N) (N := N) (cfg := g_field_Outside) (ci := ⟨116, [], true, true, []⟩) (ks := k_field_Outside) (gam_cons (V_field_own N (fun _ => rfl)) gam_nil) (c := c_field_Outside N) (F := fun ls => t_field_Outside (std (env_field_Outside N) N) (xOf ls)) (fun ls => rfl) (fun ls => xf_field_Outside (std (env_field_Outside N) N) (xOf ls)) h
def g_field_Keeper : Cfg := { gam := [⟨180, [], true, true, []⟩, ⟨181, [], true, true, []⟩, ⟨182, [], true, true, []⟩], imm := false, old := false }
theorem xf_field_Keeper (O : Alg) (x : Ags O) : XF (O := O) Tryz.prog g_field_Keeper true true [] 117 [] (xr x k_field_Keeper 0) = t_field_Keeper O x := by kernel_rfl
theorem V_field_Keeper {E : Env} {M : Nat} (N : Nat) (h : ∀ ls, E 117 [] ls = c_field_Keeper N ls) : VV Tryz.prog E M ⟨117, [], true, true, []⟩ :=
  valid_tab mix (E := env_field_Keeper N) (N := N) (cfg := g_field_Keeper) (ci := ⟨117, [], true, true, []⟩) (ks := k_field_Keeper) (gam_cons (V_field_own N (fun _ => rfl)) (gam_cons (V_field_known N (fun _ => rfl)) (gam_cons (V_field_replaced N (fun _ => rfl)) gam_nil))) (c := c_field_Keeper N) (F := fun ls => t_field_Keeper (std (env_field_Keeper N) N) (xOf ls)) (fun ls => rfl) (fun ls => xf_field_Keeper (std (env_field_Keeper N) N) (xOf ls)) h
def g_field_Substitute : Cfg := { gam := [⟨180, [], true, true, []⟩, ⟨181, [], true, true, []⟩, ⟨182, [], true, true, []⟩], imm := false, old := false }
theorem xf_field_Substitute (O : Alg) (x : Ags O) : XF (O := O) Tryz.prog g_field_Substitute true true [] 118 [] (xr x k_field_Substitute 0) = t_field_Substitute O x := by kernel_rfl
theorem V_field_Substitute {E : Env} {M : Nat} (N : Nat) (h : ∀ ls, E 118 [] ls = c_field_Substitute N ls) : VV Tryz.prog E M ⟨118, [], true, true, []⟩ :=
  valid_tab mix (E := env_field_Substitute N) (N := N) (cfg := g_field_Substitute) (ci := ⟨118, [], true, true, []⟩) (ks := k_field_Substitute) (gam_cons (V_field_own N (fun _ => rfl)) (gam_cons (V_field_known N (fun _ => rfl)) (gam_cons (V_field_replaced N (fun _ => rfl)) gam_nil))) (c := c_field_Substitute N) (F := fun ls => t_field_Substitute (std (env_field_Substitute N) N) (xOf ls)) (fun ls => rfl) (fun ls => xf_field_Substitute (std (env_field_Substitute N) N) (xOf ls)) h
def g_spell_NewBall : Cfg := { gam := [⟨52, [], true, true, []⟩, ⟨172, [], true, true, []⟩], imm := false, old := false }
theorem xf_spell_NewBall (O : Alg) (x : Ags O) : XF (O := O) Tryz.prog g_spell_NewBall true true [] 119 [] (xr x k_spell_NewBall 0) = t_spell_NewBall O x := by kernel_rfl
theorem V_spell_NewBall {E : Env} {M : Nat} (N : Nat) (h : ∀ ls, E 119 [] ls = c_spell_NewBall N ls) : VV Tryz.prog E M ⟨119, [], true, true, []⟩ :=
  valid_tab mix (E := env_spell_NewBall N) (N := N) (cfg := g_spell_NewBall) (ci := ⟨119, [], true, true, []⟩) (ks := k_spell_NewBall) (gam_cons (V_rules_Check N (fun _ => rfl)) (gam_cons (V_spell_own N (fun _ => rfl)) gam_nil)) (c := c_spell_NewBall N) (F := fun ls => t_spell_NewBall (std (env_spell_NewBall N) N) (xOf ls)) (fun ls => rfl) (fun ls => xf_spell_NewBall (std (env_spell_NewBall N) N) (xOf ls)) h
def g_innings_declare : Cfg := { gam := [⟨30, [], true, true, []⟩], imm := false, old := false }
theorem xf_innings_declare (O : Alg) (x : Ags O) : XF (O := O) Tryz.prog g_innings_declare true true [] 120 [] (xr x k_innings_declare 0) = t_innings_declare O x := by kernel_rfl
theorem V_innings_declare {E : Env} {M : Nat} (N : Nat) (h : ∀ ls, E 120 [] ls = c_innings_declare N ls) : VV Tryz.prog E M ⟨120, [], true, true, []⟩ :=
  valid_tab mix (E := env_innings_declare N) (N := N) (cfg := g_innings_declare) (ci := ⟨120, [], true, true, []⟩) (ks := k_innings_declare) (gam_cons (V_innings_Clone N (fun _ => rfl)) gam_nil) (c := c_innings_declare N) (F := fun ls => t_innings_declare (std (env_innings_declare N) N) (xOf ls)) (fun ls => rfl) (fun ls => xf_innings_declare (std (env_innings_declare N) N) (xOf ls)) h
def g_innings_Penalty : Cfg := { gam := [⟨30, [], true, true, []⟩], imm := false, old := false }
theorem xf_innings_Penalty (O : Alg) (x : Ags O) : XF (O := O) Tryz.prog g_innings_Penalty true true [] 28 [] (xr x k_innings_Penalty 0) = t_innings_Penalty O x := by kernel_rfl
theorem V_innings_Penalty {E : Env} {M : Nat} (N : Nat) (h : ∀ ls, E 28 [] ls = c_innings_Penalty N ls) : VV Tryz.prog E M ⟨28, [], true, true, []⟩ :=
  valid_tab mix (E := env_innings_Penalty N) (N := N) (cfg := g_innings_Penalty) (ci := ⟨28, [], true, true, []⟩) (ks := k_innings_Penalty) (gam_cons (V_innings_Clone N (fun _ => rfl)) gam_nil) (c := c_innings_Penalty N) (F := fun ls => t_innings_Penalty (std (env_innings_Penalty N) N) (xOf ls)) (fun ls => rfl) (fun ls => xf_innings_Penalty (std (env_innings_Penalty N) N) (xOf ls)) h
def g_innings_penalty : Cfg := { gam := [⟨28, [], true, true, []⟩, ⟨30, [], true, true, []⟩], imm := false, old := false }
theorem xf_innings_penalty (O : Alg) (x : Ags O) : XF (O := O) Tryz.prog g_innings_penalty true true [] 121 [] (xr x k_innings_penalty 0) = t_innings_penalty O x := by kernel_rfl
theorem V_innings_penalty {E : Env} {M : Nat} (N : Nat) (h : ∀ ls, E 121 [] ls = c_innings_penalty N ls) : VV Tryz.prog E M ⟨121, [], true, true, []⟩ :=
  valid_tab mix (E := env_innings_penalty N) (N := N) (cfg := g_innings_penalty) (ci := ⟨121, [], true, true, []⟩) (ks := k_innings_penalty) (gam_cons (V_innings_Penalty N (fun _ => rfl)) (gam_cons (V_innings_Clone N (fun _ => rfl)) gam_nil)) (c := c_innings_penalty N) (F := fun ls => t_innings_penalty (std (env_innings_penalty N) N) (xOf ls)) (fun ls => rfl) (fun ls => xf_innings_penalty (std (env_innings_penalty N) N) (xOf ls)) h
def g_innings_review : Cfg := { gam := [⟨30, [], true, true, []⟩], imm := false, old := false }
theorem xf_innings_review (O : Alg) (x : Ags O) : XF (O := O) Tryz.prog g_innings_review true true [] 122 [] (xr x k_innings_review 0) = t_innings_review O x := by kernel_rfl
theorem V_innings_review {E : Env} {M : Nat} (N : Nat) (h : ∀ ls, E 122 [] ls = c_innings_review N ls) : VV Tryz.prog E M ⟨122, [], true, true, []⟩ :=
  valid_tab mix (E := env_innings_review N) (N := N) (cfg := g_innings_review) (ci := ⟨122, [], true, true, []⟩) (ks := k_innings_review) (gam_cons (V_innings_Clone N (fun _ => rfl)) gam_nil) (c := c_innings_review N) (F := fun ls => t_innings_review (std (env_innings_review N) N) (xOf ls)) (fun ls => rfl) (fun ls => xf_innings_review (std (env_innings_review N) N) (xOf ls)) h
def g_innings_revise : Cfg := { gam := [⟨20, [], true, true, []⟩, ⟨30, [], true, true, []⟩], imm := false, old := false }
theorem xf_innings_revise (O : Alg) (x : Ags O) : XF (O := O) Tryz.prog g_innings_revise true true [] 123 [] (xr x k_innings_revise 0) = t_innings_revise O x := by kernel_rfl
theorem V_innings_revise {E : Env} {M : Nat} (N : Nat) (h : ∀ ls, E 123 [] ls = c_innings_revise N ls) : VV Tryz.prog E M ⟨123, [], true, true, []⟩ :=
  valid_tab mix (E := env_innings_revise N) (N := N) (cfg := g_innings_revise) (ci := ⟨123, [], true, true, []⟩) (ks := k_innings_revise) (gam_cons (V_innings_Balls N (fun _ => rfl)) (gam_cons (V_innings_Clone N (fun _ => rfl)) gam_nil)) (c := c_innings_revise N) (F := fun ls => t_innings_revise (std (env_innings_revise N) N) (xOf ls)) (fun ls => rfl) (fun ls => xf_innings_revise (std (env_innings_revise N) N) (xOf ls)) h
def g_innings_perform : Cfg := { gam := [⟨110, [], true, true, []⟩, ⟨111, [], true, true, []⟩, ⟨112, [], true, true, []⟩, ⟨113, [], true, true, []⟩, ⟨114, [], true, true, []⟩, ⟨115, [], true, true, []⟩, ⟨116, [], true, true, []⟩, ⟨117, [], true, true, []⟩, ⟨118, [], true, true, []⟩, ⟨119, [], true, true, []⟩, ⟨120, [], true, true, []⟩, ⟨121, [], true, true, []⟩, ⟨122, [], true, true, []⟩, ⟨123, [], true, true, []⟩], imm := false, old := false }
theorem xf_innings_perform (O : Alg) (x : Ags O) : XF (O := O) Tryz.prog g_innings_perform true true [] 67 [] (xr x k_innings_perform 0) = t_innings_perform O x := by kernel_rfl
theorem V_innings_perform {E : Env} {M : Nat} (N : Nat) (h : ∀ ls, E 67 [] ls = c_innings_perform N ls) : VV Tryz.prog E M ⟨67, [], true, true, []⟩ :=
  valid_tab mix (E := env_innings_perform N) (N := N) (cfg := g_innings_perform) (ci := ⟨67, [], true, true, []⟩) (ks := k_innings_perform) (gam_cons (V_crease_Open N (fun _ => rfl)) (gam_cons (V_spell_Take N (fun _ => rfl)) (gam_cons (V_innings_ball N (fun _ => rfl)) (gam_cons (V_crease_TimeOut N (fun _ => rfl)) (gam_cons (V_crease_Enter N (fun _ => rfl)) (gam_cons (V_crease_Retire N (fun _ => rfl)) (gam_cons (V_field_Outside N (fun _ => rfl)) (gam_cons (V_field_Keeper N (fun _ => rfl)) (gam_cons (V_field_Substitute N (fun _ => rfl)) (gam_cons (V_spell_NewBall N (fun _ => rfl)) (gam_cons (V_innings_declare N (fun _ => rfl)) (gam_cons (V_innings_penalty N (fun _ => rfl)) (gam_cons (V_innings_review N (fun _ => rfl)) (gam_cons (V_innings_revise N (fun _ => rfl)) gam_nil)))))))))))))) (c := c_innings_perform N) (F := fun ls => t_innings_perform (std (env_innings_perform N) N) (xOf ls)) (fun ls => rfl) (fun ls => xf_innings_perform (std (env_innings_perform N) N) (xOf ls)) h
def g_innings_Step : Cfg := { gam := [⟨16, [], true, true, []⟩, ⟨18, [], true, true, []⟩, ⟨30, [], true, true, []⟩, ⟨65, [], true, true, []⟩, ⟨66, [], true, true, []⟩, ⟨67, [], true, true, []⟩], imm := false, old := false }
theorem xf_innings_Step (O : Alg) (x : Ags O) : XF (O := O) Tryz.prog g_innings_Step true true [] 22 [] (xr x k_innings_Step 0) = t_innings_Step O x := by kernel_rfl
theorem V_innings_Step {E : Env} {M : Nat} (N : Nat) (h : ∀ ls, E 22 [] ls = c_innings_Step N ls) : VV Tryz.prog E M ⟨22, [], true, true, []⟩ :=
  valid_tab mix (E := env_innings_Step N) (N := N) (cfg := g_innings_Step) (ci := ⟨22, [], true, true, []⟩) (ks := k_innings_Step) (gam_cons (V_innings_Valid N (fun _ => rfl)) (gam_cons (V_innings_Ending N (fun _ => rfl)) (gam_cons (V_innings_Clone N (fun _ => rfl)) (gam_cons (V_event_Check N (fun _ => rfl)) (gam_cons (V_innings_begun N (fun _ => rfl)) (gam_cons (V_innings_perform N (fun _ => rfl)) gam_nil)))))) (c := c_innings_Step N) (F := fun ls => t_innings_Step (std (env_innings_Step N) N) (xOf ls)) (fun ls => rfl) (fun ls => xf_innings_Step (std (env_innings_Step N) N) (xOf ls)) h
def g_innings_Begin : Cfg := { gam := [⟨52, [], true, true, []⟩, ⟨53, [], true, true, []⟩], imm := false, old := false }
theorem xf_innings_Begin (O : Alg) (x : Ags O) : XF (O := O) Tryz.prog g_innings_Begin true true [] 25 [] (xr x k_innings_Begin 0) = t_innings_Begin O x := by kernel_rfl
theorem V_innings_Begin {E : Env} {M : Nat} (N : Nat) (h : ∀ ls, E 25 [] ls = c_innings_Begin N ls) : VV Tryz.prog E M ⟨25, [], true, true, []⟩ :=
  valid_tab mix (E := env_innings_Begin N) (N := N) (cfg := g_innings_Begin) (ci := ⟨25, [], true, true, []⟩) (ks := k_innings_Begin) (gam_cons (V_rules_Check N (fun _ => rfl)) (gam_cons (V_innings_between N (fun _ => rfl)) gam_nil)) (c := c_innings_Begin N) (F := fun ls => t_innings_Begin (std (env_innings_Begin N) N) (xOf ls)) (fun ls => rfl) (fun ls => xf_innings_Begin (std (env_innings_Begin N) N) (xOf ls)) h
def g_w14_short : Cfg := { gam := [], imm := false, old := false }
theorem xf_w14_short (O : Alg) (x : Ags O) : XF (O := O) Tryz.prog g_w14_short true true [] 50 [] (xr x k_w14_short 0) = t_w14_short O x := by kernel_rfl
theorem V_w14_short {E : Env} {M : Nat} (N : Nat) (h : ∀ ls, E 50 [] ls = c_w14_short N ls) : VV Tryz.prog E M ⟨50, [], true, true, []⟩ :=
  valid_tab mix (E := env_w14_short N) (N := N) (cfg := g_w14_short) (ci := ⟨50, [], true, true, []⟩) (ks := k_w14_short) gam_nil (c := c_w14_short N) (F := fun ls => t_w14_short (std (env_w14_short N) N) (xOf ls)) (fun ls => rfl) (fun ls => xf_w14_short (std (env_w14_short N) N) (xOf ls)) h
def g_w14_ball : Cfg := { gam := [], imm := false, old := false }
theorem xf_w14_ball (O : Alg) (x : Ags O) : XF (O := O) Tryz.prog g_w14_ball true true [] 51 [] (xr x k_w14_ball 0) = t_w14_ball O x := by kernel_rfl
theorem V_w14_ball {E : Env} {M : Nat} (N : Nat) (h : ∀ ls, E 51 [] ls = c_w14_ball N ls) : VV Tryz.prog E M ⟨51, [], true, true, []⟩ :=
  valid_tab mix (E := env_w14_ball N) (N := N) (cfg := g_w14_ball) (ci := ⟨51, [], true, true, []⟩) (ks := k_w14_ball) gam_nil (c := c_w14_ball N) (F := fun ls => t_w14_ball (std (env_w14_ball N) N) (xOf ls)) (fun ls => rfl) (fun ls => xf_w14_ball (std (env_w14_ball N) N) (xOf ls)) h
def g_w14_awake : Cfg := { gam := [⟨20, [], true, true, []⟩, ⟨22, [], true, true, []⟩, ⟨25, [], true, true, []⟩, ⟨50, [], true, true, []⟩, ⟨51, [], true, true, []⟩], imm := false, old := false }
theorem xf_w14_awake (O : Alg) (x : Ags O) : XF (O := O) Tryz.prog g_w14_awake true true [] 13 [] (xr x k_w14_awake 0) = t_w14_awake O x := by kernel_rfl
theorem V_w14_awake {E : Env} {M : Nat} (N : Nat) (h : ∀ ls, E 13 [] ls = c_w14_awake N ls) : VV Tryz.prog E M ⟨13, [], true, true, []⟩ :=
  valid_tab mix (E := env_w14_awake N) (N := N) (cfg := g_w14_awake) (ci := ⟨13, [], true, true, []⟩) (ks := k_w14_awake) (gam_cons (V_innings_Balls N (fun _ => rfl)) (gam_cons (V_innings_Step N (fun _ => rfl)) (gam_cons (V_innings_Begin N (fun _ => rfl)) (gam_cons (V_w14_short N (fun _ => rfl)) (gam_cons (V_w14_ball N (fun _ => rfl)) gam_nil))))) (c := c_w14_awake N) (F := fun ls => t_w14_awake (std (env_w14_awake N) N) (xOf ls)) (fun ls => rfl) (fun ls => xf_w14_awake (std (env_w14_awake N) N) (xOf ls)) h
def g_w14_bounded : Cfg := { gam := [], imm := false, old := false }
theorem xf_w14_bounded (O : Alg) (x : Ags O) : XF (O := O) Tryz.prog g_w14_bounded false false [] 14 [] (xr x k_w14_bounded 0) = t_w14_bounded O x := by kernel_rfl
theorem V_w14_bounded {E : Env} {M : Nat} (N : Nat) (h : ∀ ls, E 14 [] ls = c_w14_bounded N ls) : VV Tryz.prog E M ⟨14, [], false, false, []⟩ :=
  valid_tab mix (E := env_w14_bounded N) (N := N) (cfg := g_w14_bounded) (ci := ⟨14, [], false, false, []⟩) (ks := k_w14_bounded) gam_nil (c := c_w14_bounded N) (F := fun ls => t_w14_bounded (std (env_w14_bounded N) N) (xOf ls)) (fun ls => rfl) (fun ls => xf_w14_bounded (std (env_w14_bounded N) N) (xOf ls)) h
def g_w14_Few : Cfg := { gam := [], imm := false, old := false }
theorem xf_w14_Few (O : Alg) (x : Ags O) : XF (O := O) Tryz.prog g_w14_Few false false [] 15 [] (xr x k_w14_Few 0) = t_w14_Few O x := by kernel_rfl
theorem V_w14_Few {E : Env} {M : Nat} (N : Nat) (h : ∀ ls, E 15 [] ls = c_w14_Few N ls) : VV Tryz.prog E M ⟨15, [], false, false, []⟩ :=
  valid_tab mix (E := env_w14_Few N) (N := N) (cfg := g_w14_Few) (ci := ⟨15, [], false, false, []⟩) (ks := k_w14_Few) gam_nil (c := c_w14_Few N) (F := fun ls => t_w14_Few (std (env_w14_Few N) N) (xOf ls)) (fun ls => rfl) (fun ls => xf_w14_Few (std (env_w14_Few N) N) (xOf ls)) h
def g_slices_Equal_Status : Cfg := { gam := [], imm := false, old := false }
theorem xf_slices_Equal_Status (O : Alg) (x : Ags O) : XF (O := O) Tryz.prog g_slices_Equal_Status true true [] 73 [] (xr x k_slices_Equal_Status 0) = t_slices_Equal_Status O x := by kernel_rfl
theorem V_slices_Equal_Status {E : Env} {M : Nat} (N : Nat) (h : ∀ ls, E 73 [] ls = c_slices_Equal_Status N ls) : VV Tryz.prog E M ⟨73, [], true, true, []⟩ :=
  valid_tab mix (E := env_slices_Equal_Status N) (N := N) (cfg := g_slices_Equal_Status) (ci := ⟨73, [], true, true, []⟩) (ks := k_slices_Equal_Status) gam_nil (c := c_slices_Equal_Status N) (F := fun ls => t_slices_Equal_Status (std (env_slices_Equal_Status N) N) (xOf ls)) (fun ls => rfl) (fun ls => xf_slices_Equal_Status (std (env_slices_Equal_Status N) N) (xOf ls)) h
def g_slices_Equal_int : Cfg := { gam := [], imm := false, old := false }
theorem xf_slices_Equal_int (O : Alg) (x : Ags O) : XF (O := O) Tryz.prog g_slices_Equal_int true true [] 74 [] (xr x k_slices_Equal_int 0) = t_slices_Equal_int O x := by kernel_rfl
theorem V_slices_Equal_int {E : Env} {M : Nat} (N : Nat) (h : ∀ ls, E 74 [] ls = c_slices_Equal_int N ls) : VV Tryz.prog E M ⟨74, [], true, true, []⟩ :=
  valid_tab mix (E := env_slices_Equal_int N) (N := N) (cfg := g_slices_Equal_int) (ci := ⟨74, [], true, true, []⟩) (ks := k_slices_Equal_int) gam_nil (c := c_slices_Equal_int N) (F := fun ls => t_slices_Equal_int (std (env_slices_Equal_int N) N) (xOf ls)) (fun ls => rfl) (fun ls => xf_slices_Equal_int (std (env_slices_Equal_int N) N) (xOf ls)) h
def g_slices_Equal_bool : Cfg := { gam := [], imm := false, old := false }
theorem xf_slices_Equal_bool (O : Alg) (x : Ags O) : XF (O := O) Tryz.prog g_slices_Equal_bool true true [] 75 [] (xr x k_slices_Equal_bool 0) = t_slices_Equal_bool O x := by kernel_rfl
theorem V_slices_Equal_bool {E : Env} {M : Nat} (N : Nat) (h : ∀ ls, E 75 [] ls = c_slices_Equal_bool N ls) : VV Tryz.prog E M ⟨75, [], true, true, []⟩ :=
  valid_tab mix (E := env_slices_Equal_bool N) (N := N) (cfg := g_slices_Equal_bool) (ci := ⟨75, [], true, true, []⟩) (ks := k_slices_Equal_bool) gam_nil (c := c_slices_Equal_bool N) (F := fun ls => t_slices_Equal_bool (std (env_slices_Equal_bool N) N) (xOf ls)) (fun ls => rfl) (fun ls => xf_slices_Equal_bool (std (env_slices_Equal_bool N) N) (xOf ls)) h
def g_innings_Same_1 : Cfg := { gam := [], imm := false, old := false }
theorem xf_innings_Same_1 (O : Alg) (x : Ags O) : XF (O := O) Tryz.prog g_innings_Same_1 true true [] 76 [] (xr x k_innings_Same_1 0) = t_innings_Same_1 O x := by kernel_rfl
theorem V_innings_Same_1 {E : Env} {M : Nat} (N : Nat) (h : ∀ ls, E 76 [] ls = c_innings_Same_1 N ls) : VV Tryz.prog E M ⟨76, [], true, true, []⟩ :=
  valid_tab mix (E := env_innings_Same_1 N) (N := N) (cfg := g_innings_Same_1) (ci := ⟨76, [], true, true, []⟩) (ks := k_innings_Same_1) gam_nil (c := c_innings_Same_1 N) (F := fun ls => t_innings_Same_1 (std (env_innings_Same_1 N) N) (xOf ls)) (fun ls => rfl) (fun ls => xf_innings_Same_1 (std (env_innings_Same_1 N) N) (xOf ls)) h
def g_innings_Same : Cfg := { gam := [⟨73, [], true, true, []⟩, ⟨74, [], true, true, []⟩, ⟨75, [], true, true, []⟩, ⟨76, [], true, true, []⟩], imm := false, old := false }
theorem xf_innings_Same (O : Alg) (x : Ags O) : XF (O := O) Tryz.prog g_innings_Same true true [] 27 [] (xr x k_innings_Same 0) = t_innings_Same O x := by kernel_rfl
theorem V_innings_Same {E : Env} {M : Nat} (N : Nat) (h : ∀ ls, E 27 [] ls = c_innings_Same N ls) : VV Tryz.prog E M ⟨27, [], true, true, []⟩ :=
  valid_tab mix (E := env_innings_Same N) (N := N) (cfg := g_innings_Same) (ci := ⟨27, [], true, true, []⟩) (ks := k_innings_Same) (gam_cons (V_slices_Equal_Status N (fun _ => rfl)) (gam_cons (V_slices_Equal_int N (fun _ => rfl)) (gam_cons (V_slices_Equal_bool N (fun _ => rfl)) (gam_cons (V_innings_Same_1 N (fun _ => rfl)) gam_nil)))) (c := c_innings_Same N) (F := fun ls => t_innings_Same (std (env_innings_Same N) N) (xOf ls)) (fun ls => rfl) (fun ls => xf_innings_Same (std (env_innings_Same N) N) (xOf ls)) h
def g_w14_big : Cfg := { gam := [], imm := false, old := false }
theorem xf_w14_big (O : Alg) (x : Ags O) : XF (O := O) Tryz.prog g_w14_big true true [] 31 [] (xr x k_w14_big 0) = t_w14_big O x := by kernel_rfl
theorem V_w14_big {E : Env} {M : Nat} (N : Nat) (h : ∀ ls, E 31 [] ls = c_w14_big N ls) : VV Tryz.prog E M ⟨31, [], true, true, []⟩ :=
  valid_tab mix (E := env_w14_big N) (N := N) (cfg := g_w14_big) (ci := ⟨31, [], true, true, []⟩) (ks := k_w14_big) gam_nil (c := c_w14_big N) (F := fun ls => t_w14_big (std (env_w14_big N) N) (xOf ls)) (fun ls => rfl) (fun ls => xf_w14_big (std (env_w14_big N) N) (xOf ls)) h
def g_r14_ints : Cfg := { gam := [], imm := false, old := false }
theorem xf_r14_ints (O : Alg) (x : Ags O) : XF (O := O) Tryz.prog g_r14_ints true true [] 72 [] (xr x k_r14_ints 0) = t_r14_ints O x := by kernel_rfl
theorem V_r14_ints {E : Env} {M : Nat} (N : Nat) (h : ∀ ls, E 72 [] ls = c_r14_ints N ls) : VV Tryz.prog E M ⟨72, [], true, true, []⟩ :=
  valid_tab mix (E := env_r14_ints N) (N := N) (cfg := g_r14_ints) (ci := ⟨72, [], true, true, []⟩) (ks := k_r14_ints) gam_nil (c := c_r14_ints N) (F := fun ls => t_r14_ints (std (env_r14_ints N) N) (xOf ls)) (fun ls => rfl) (fun ls => xf_r14_ints (std (env_r14_ints N) N) (xOf ls)) h
def g_r14_Same : Cfg := { gam := [⟨72, [], true, true, []⟩], imm := false, old := false }
theorem xf_r14_Same (O : Alg) (x : Ags O) : XF (O := O) Tryz.prog g_r14_Same true true [] 24 [] (xr x k_r14_Same 0) = t_r14_Same O x := by kernel_rfl
theorem V_r14_Same {E : Env} {M : Nat} (N : Nat) (h : ∀ ls, E 24 [] ls = c_r14_Same N ls) : VV Tryz.prog E M ⟨24, [], true, true, []⟩ :=
  valid_tab mix (E := env_r14_Same N) (N := N) (cfg := g_r14_Same) (ci := ⟨24, [], true, true, []⟩) (ks := k_r14_Same) (gam_cons (V_r14_ints N (fun _ => rfl)) gam_nil) (c := c_r14_Same N) (F := fun ls => t_r14_Same (std (env_r14_Same N) N) (xOf ls)) (fun ls => rfl) (fun ls => xf_r14_Same (std (env_r14_Same N) N) (xOf ls)) h
def g_r11_Clone : Cfg := { gam := [], imm := false, old := false }
theorem xf_r11_Clone (O : Alg) (x : Ags O) : XF (O := O) Tryz.prog g_r11_Clone true true [] 124 [] (xr x k_r11_Clone 0) = t_r11_Clone O x := by kernel_rfl
theorem V_r11_Clone {E : Env} {M : Nat} (N : Nat) (h : ∀ ls, E 124 [] ls = c_r11_Clone N ls) : VV Tryz.prog E M ⟨124, [], true, true, []⟩ :=
  valid_tab mix (E := env_r11_Clone N) (N := N) (cfg := g_r11_Clone) (ci := ⟨124, [], true, true, []⟩) (ks := k_r11_Clone) gam_nil (c := c_r11_Clone N) (F := fun ls => t_r11_Clone (std (env_r11_Clone N) N) (xOf ls)) (fun ls => rfl) (fun ls => xf_r11_Clone (std (env_r11_Clone N) N) (xOf ls)) h
def g_r14_Clone : Cfg := { gam := [⟨124, [], true, true, []⟩], imm := false, old := false }
theorem xf_r14_Clone (O : Alg) (x : Ags O) : XF (O := O) Tryz.prog g_r14_Clone true true [] 68 [] (xr x k_r14_Clone 0) = t_r14_Clone O x := by kernel_rfl
theorem V_r14_Clone {E : Env} {M : Nat} (N : Nat) (h : ∀ ls, E 68 [] ls = c_r14_Clone N ls) : VV Tryz.prog E M ⟨68, [], true, true, []⟩ :=
  valid_tab mix (E := env_r14_Clone N) (N := N) (cfg := g_r14_Clone) (ci := ⟨68, [], true, true, []⟩) (ks := k_r14_Clone) (gam_cons (V_r11_Clone N (fun _ => rfl)) gam_nil) (c := c_r14_Clone N) (F := fun ls => t_r14_Clone (std (env_r14_Clone N) N) (xOf ls)) (fun ls => rfl) (fun ls => xf_r14_Clone (std (env_r14_Clone N) N) (xOf ls)) h
def g_w14_shared : Cfg := { gam := [⟨24, [], true, true, []⟩, ⟨68, [], true, true, []⟩], imm := false, old := false }
theorem xf_w14_shared (O : Alg) (x : Ags O) : XF (O := O) Tryz.prog g_w14_shared true true [false, true] 32 [] (xr x k_w14_shared 0) = t_w14_shared O x := by kernel_rfl
theorem V_w14_shared {E : Env} {M : Nat} (N : Nat) (h : ∀ ls, E 32 [] ls = c_w14_shared N ls) : VV Tryz.prog E M ⟨32, [], true, true, [false, true]⟩ :=
  valid_tab mix (E := env_w14_shared N) (N := N) (cfg := g_w14_shared) (ci := ⟨32, [], true, true, [false, true]⟩) (ks := k_w14_shared) (gam_cons (V_r14_Same N (fun _ => rfl)) (gam_cons (V_r14_Clone N (fun _ => rfl)) gam_nil)) (c := c_w14_shared N) (F := fun ls => t_w14_shared (std (env_w14_shared N) N) (xOf ls)) (fun ls => rfl) (fun ls => xf_w14_shared (std (env_w14_shared N) N) (xOf ls)) h
def g_w14_InningsRefuses : Cfg := { gam := [⟨13, [], true, true, []⟩, ⟨14, [], false, false, []⟩, ⟨15, [], false, false, []⟩, ⟨16, [], true, true, []⟩, ⟨22, [], true, true, []⟩, ⟨27, [], true, true, []⟩, ⟨30, [], true, true, []⟩, ⟨31, [], true, true, []⟩, ⟨32, [], true, true, [false, true]⟩], imm := false, old := false }
theorem xf_w14_InningsRefuses (O : Alg) (x : Ags O) : XF (O := O) Tryz.prog g_w14_InningsRefuses true true [] 6 [] (xr x k_w14_InningsRefuses 0) = t_w14_InningsRefuses O x := by kernel_rfl
theorem V_w14_InningsRefuses {E : Env} {M : Nat} (N : Nat) (h : ∀ ls, E 6 [] ls = c_w14_InningsRefuses N ls) : VV Tryz.prog E M ⟨6, [], true, true, []⟩ :=
  valid_tab mix (E := env_w14_InningsRefuses N) (N := N) (cfg := g_w14_InningsRefuses) (ci := ⟨6, [], true, true, []⟩) (ks := k_w14_InningsRefuses) (gam_cons (V_w14_awake N (fun _ => rfl)) (gam_cons (V_w14_bounded N (fun _ => rfl)) (gam_cons (V_w14_Few N (fun _ => rfl)) (gam_cons (V_innings_Valid N (fun _ => rfl)) (gam_cons (V_innings_Step N (fun _ => rfl)) (gam_cons (V_innings_Same N (fun _ => rfl)) (gam_cons (V_innings_Clone N (fun _ => rfl)) (gam_cons (V_w14_big N (fun _ => rfl)) (gam_cons (V_w14_shared N (fun _ => rfl)) gam_nil))))))))) (c := c_w14_InningsRefuses N) (F := fun ls => t_w14_InningsRefuses (std (env_w14_InningsRefuses N) N) (xOf ls)) (fun ls => rfl) (fun ls => xf_w14_InningsRefuses (std (env_w14_InningsRefuses N) N) (xOf ls)) h
end Go.Px
