/-
The programs of the functions that the statement reaches, and their contracts; written by program, part 3.
-/
import Derived.Test.YtopmcbahdgfleaaGreatPxTab2
import Derived.Test.YtopmcbahdgfleaaGreatProg
import Derived.KernelRfl
import Derived.WalkKit
import Derived.Lib.Walk
import Derived.BigCall
import Derived.BigGuard
import Derived.Test.YtopmcbahdgfleaaGreatPxV2
namespace Go.Px
open Go.Proofs
set_option maxRecDepth 100000
set_option linter.unusedVariables false
def k3 : List Nat := [2, 0, 0, 0, 0, 0, 0, 0, 1, 0, 0, 0, 0, 3, 0, 0, 0, 0, 0, 0, 0, 0, 0, 0, 0, 0, 0, 0, 3, 0, 3, 3, 1, 3, 1, 0, 0, 0, 3, 0, 0, 0]
def g3 : Cfg := { gam := [⟨13, [], true, true, []⟩, ⟨14, [], false, false, []⟩, ⟨15, [], false, false, []⟩, ⟨16, [], true, true, []⟩, ⟨17, [], true, true, []⟩, ⟨18, [], true, true, []⟩, ⟨19, [], true, true, []⟩, ⟨20, [], true, true, []⟩, ⟨21, [], true, true, []⟩], imm := false, old := false }
/-- scorebook/scorebooklaw14.InningsValid -/
def t3 (O : Alg) (x : Ags O) : O.M := (O.bind (O.call 13 [] []) fun c0 => (O.ite (O.bnot (O.cB c0 0)) (O.ret [.bool O.ff]) (O.bind (O.call 14 [] (xr x [2,0,0,0,0,0,0,0,1,0,0,0,0,3] 0)) fun c1 => (O.bind (O.call 15 [] (xr x [0,0,0,0,0,0,0,0,0,0,0,0,0,0,3,0,3,3,1,3,1,0,0,0,3,0,0,0] 14)) fun c2 => (O.bind (O.call 16 [] (cr O c1 [2,0,0,0,0,0,0,0,1,0,0,0,0,3] 0 ++ cr O c2 [0,0,0,0,0,0,0,0,0,0,0,0,0,0,3,0,3,3,1,3,1,0,0,0,3,0,0,0] 0)) fun c3 => (O.bind (O.call 17 [] (cr O c1 [2,0,0,0,0,0,0,0,1,0,0,0,0,3] 0 ++ cr O c2 [0,0,0,0,0,0,0,0,0,0,0,0,0,0,3,0,3,3,1,3,1,0,0,0,3,0,0,0] 0)) fun c4 => (O.bind (O.ite (O.beq (O.cB c3 0) (O.cB c4 0)) (O.call 18 [] (cr O c1 [2,0,0,0,0,0,0,0,1,0,0,0,0,3] 0 ++ cr O c2 [0,0,0,0,0,0,0,0,0,0,0,0,0,0,3,0,3,3,1,3,1,0,0,0,3,0,0,0] 0)) (O.ret [.int (O.lit .u8 0)])) fun c5 => (O.bind (O.ite (O.beq (O.cB c3 0) (O.cB c4 0)) (O.call 19 [] (cr O c1 [2,0,0,0,0,0,0,0,1,0,0,0,0,3] 0 ++ cr O c2 [0,0,0,0,0,0,0,0,0,0,0,0,0,0,3,0,3,3,1,3,1,0,0,0,3,0,0,0] 0)) (O.ret [.int (O.lit .u8 0)])) fun c6 => (O.bind (O.ite (O.iteB (O.beq (O.cB c3 0) (O.cB c4 0)) (O.eqI (O.cI c5 0) (O.cI c6 0)) O.ff) (O.call 20 [] (cr O c1 [2,0,0,0,0,0,0,0,1,0,0,0,0,3] 0 ++ cr O c2 [0,0,0,0,0,0,0,0,0,0,0,0,0,0,3,0,3,3,1,3,1,0,0,0,3,0,0,0] 0)) (O.ret [.int (O.lit .i64 0)])) fun c7 => (O.bind (O.ite (O.iteB (O.beq (O.cB c3 0) (O.cB c4 0)) (O.eqI (O.cI c5 0) (O.cI c6 0)) O.ff) (O.call 21 [] (cr O c1 [2,0,0,0,0,0,0,0,1,0,0,0,0,3] 0 ++ cr O c2 [0,0,0,0,0,0,0,0,0,0,0,0,0,0,3,0,3,3,1,3,1,0,0,0,3,0,0,0] 0)) (O.ret [.int (O.lit .i64 0)])) fun c8 => (O.ret [.bool (O.iteB (O.iteB (O.beq (O.cB c3 0) (O.cB c4 0)) (O.eqI (O.cI c5 0) (O.cI c6 0)) O.ff) (O.eqI (O.cI c7 0) (O.cI c8 0)) O.ff)])))))))))))
def env3 (N : Nat) : Env := fun f fns ls => (cond (Nat.beq f 13 && natListEq fns []) (c13 N ls) (cond (Nat.beq f 14 && natListEq fns []) (c14 N ls) (cond (Nat.beq f 15 && natListEq fns []) (c15 N ls) (cond (Nat.beq f 16 && natListEq fns []) (c16 N ls) (cond (Nat.beq f 17 && natListEq fns []) (c17 N ls) (cond (Nat.beq f 18 && natListEq fns []) (c18 N ls) (cond (Nat.beq f 19 && natListEq fns []) (c19 N ls) (cond (Nat.beq f 20 && natListEq fns []) (c20 N ls) (cond (Nat.beq f 21 && natListEq fns []) (c21 N ls) none)))))))))
def c3 (N : Nat) (ls : List PV) : Option (List PV) := onShape k3 ls (t3 (std (env3 N) N) (xOf ls))
theorem xf3 (O : Alg) (x : Ags O) : XF (O := O) Tryz.prog g3 true true [] 3 [] (xr x k3 0) = t3 O x := by kernel_rfl
theorem V3 {E : Env} {M : Nat} (N : Nat) (h : ∀ ls, E 3 [] ls = c3 N ls) : VV Tryz.prog E M ⟨3, [], true, true, []⟩ :=
  valid_tab mix (E := env3 N) (N := N) (cfg := g3) (ci := ⟨3, [], true, true, []⟩) (ks := k3) (gam_cons (V13 N (fun _ => rfl)) (gam_cons (V14 N (fun _ => rfl)) (gam_cons (V15 N (fun _ => rfl)) (gam_cons (V16 N (fun _ => rfl)) (gam_cons (V17 N (fun _ => rfl)) (gam_cons (V18 N (fun _ => rfl)) (gam_cons (V19 N (fun _ => rfl)) (gam_cons (V20 N (fun _ => rfl)) (gam_cons (V21 N (fun _ => rfl)) gam_nil))))))))) (c := c3 N) (F := fun ls => t3 (std (env3 N) N) (xOf ls)) (fun ls => rfl) (fun ls => xf3 (std (env3 N) N) (xOf ls)) h
end Go.Px
