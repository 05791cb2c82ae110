/- Part 16. -/
import Derived.Test.YtapipgdcgmmkaaaGreatDoorPart15
import Derived.Test.YtapipgdcgmmkaaaGreatDoorPart11
import Derived.Test.YtapipgdcgmmkaaaGreatDoorPart13
import Derived.Test.YtapipgdcgmmkaaaGreatDoorPart14
import Derived.Test.YtapipgdcgmmkaaaGreatDoorRows
import Derived.ProofKit
import Derived.OpenShut
import Derived.JoinedCond
set_option linter.unusedVariables false
set_option linter.unusedSimpArgs false
namespace Go.Proofs.YtapipgdcgmmkaaaGreatDoor
open Go.Px Go.ChangeShapes Go.WideShapes Go.ChangeAt Go.RowKit
set_option maxRecDepth 100000
theorem Y6 {H : Type} (d : DataW H) : 1 ≤ Rows.uptoBulk d := by
 cases d with
 | lit l => cases l <;> simp [Rows.uptoBulk]
 | nil => simp [Rows.uptoBulk]
 | ptr d => simp [Rows.uptoBulk]
 | slice elems spare => simp [Rows.uptoBulk]
 | agg parts => simp [Rows.uptoBulk]
 | iface t d => simp [Rows.uptoBulk]
 | map entries => simp [Rows.uptoBulk]
 | held h => simp [Rows.uptoBulk]
theorem Sz {H : Type} {d : DataW H} {l : List (DataW H)} (h : d ∈ l) : Rows.uptoBulk d ≤ Rows.uptoBulkAll l := by
 induction l with
 | nil => cases h
 | cons x r ih =>
  simp only [Rows.uptoBulkAll]
  cases List.mem_cons.1 h with
  | inl e => subst e; omega
  | inr e => have := ih e; omega
theorem all_append {H : Type} (l r : List (DataW H)) : Rows.uptoBulkAll (l ++ r) = Rows.uptoBulkAll l + Rows.uptoBulkAll r := by
 induction l with
 | nil => simp [Rows.uptoBulkAll]
 | cons x l ih => simp only [List.cons_append, Rows.uptoBulkAll, ih]; omega
theorem Y7 {H : Type} (l : List (DataW H)) : l.length ≤ Rows.uptoBulkAll l := by
 induction l with
 | nil => simp [Rows.uptoBulkAll]
 | cons x r ih => have := Y6 x; simp only [Rows.uptoBulkAll, List.length_cons]; omega
theorem Ya (H : Type) : Bulk (H := H) Rows.uptoBulk where
 str b := by simp [Rows.uptoBulk]
 len e s := by have := Y7 e; simp only [Rows.uptoBulk]; omega
 elem e s d h := by have := Sz h; simp only [Rows.uptoBulk]; omega
 part ps d h := by have := Sz h; simp only [Rows.uptoBulk]; omega
theorem XE {H : Type} {ds gs : List (DataW H)} (hk : Rows.uptoSmall H (ds ++ gs) = true) : ∀ d ∈ ds, Rows.uptoBulk d ≤ 1048576 := fun d hd => by
 have h1 : Rows.uptoBulkAll (ds ++ gs) ≤ 1048576 := by simpa [Rows.uptoSmall] using hk
 rw [all_append] at h1
 have := Sz hd
 omega
theorem own : ownKnob Tryz.prog.godebug = none := by kernel_rfl
theorem YZ : laidOutB Tryz.prog = true := by kernel_rfl
def Wl (P : Program) (l : List TypeId) : Bool := l.all fun t => (B3 P 40 Bc t && (AJ P t).isSome) && (P.readableRec t && Nat.blt t P.types.size)
theorem Vc {l : List TypeId} (h : Wl Tryz.prog l = true) : ∀ t ∈ l, (B3 Tryz.prog 40 Bc t = true ∧ (AJ Tryz.prog t).isSome = true) ∧ (Tryz.prog.readableRec t = true ∧ t < Tryz.prog.types.size) := fun t ht => by
 have := List.all_eq_true.1 h t ht
 simp only [Bool.and_eq_true] at this
 exact ⟨this.1, this.2.1, of_eq_true (Nat.blt_eq ▸ eq_true this.2.2)⟩
def Xe : Env := fun f fns ls => cond (Nat.beq f 6) (CX 4194304 ls) none
theorem Ym : Qc Tryz.prog Tryz.f6.params.toList = some [.s, .i, .i, .i, .i, .i, .i, .i, .b, .i, .i, .i, .i, .r [.i, .i, .i], .u, .i, .b, .r [.i, .i, .i, .i, .i, .i, .i, .i, .i, .i, .i, .i, .i, .i, .r [.u], .i, .r [.i], .r [.i], .b, .r [.i], .b, .i, .i, .i, .r [.b], .i, .i, .u], .i, .i, .u, .i, .i, .i] := by kernel_rfl
theorem ZP : ∀ l ls, EU Tryz.prog Tryz.f6.params.toList = some l → PVoks Tryz.prog 1048576 l ls → Xe 6 [] ls = some [.bool true] := by
 intro l ls hl hp
 have k0 := XG hp
 rw [Wf Ym hl] at k0
 show CX 4194304 ls = _
 obtain ⟨p0, ls, rfl, h0, k1⟩ := Yo k0
 obtain ⟨p1, ls, rfl, r1, k2⟩ := Ag k1
 obtain ⟨p2, ls, rfl, r2, k3⟩ := Ag k2
 obtain ⟨p3, ls, rfl, r3, k4⟩ := Ag k3
 obtain ⟨p4, ls, rfl, r4, k5⟩ := Ag k4
 obtain ⟨p5, ls, rfl, r5, k6⟩ := Ag k5
 obtain ⟨p6, ls, rfl, r6, k7⟩ := Ag k6
 obtain ⟨p7, ls, rfl, r7, k8⟩ := Ag k7
 obtain ⟨p8, ls, rfl, k9⟩ := PK k8
 obtain ⟨p9, ls, rfl, r9, k10⟩ := Ag k9
 obtain ⟨p10, ls, rfl, r10, k11⟩ := Ag k10
 obtain ⟨p11, ls, rfl, r11, k12⟩ := Ag k11
 obtain ⟨p12, ls, rfl, r12, k13⟩ := Ag k12
 obtain ⟨p13, ls, rfl, h13, q13, d13, k14⟩ := HB k13
 obtain ⟨p14, ls, rfl, r14, k15⟩ := WL k14
 obtain ⟨p15, ls, rfl, r15, k16⟩ := Ag k15
 obtain ⟨p16, ls, rfl, k17⟩ := PK k16
 obtain ⟨p17, ls, rfl, h17, q17, d17, k18⟩ := HB k17
 obtain ⟨xs, rfl, fx⟩ := Vv _ d17
 obtain ⟨p18, ls, rfl, r18, k19⟩ := Ag k18
 obtain ⟨p19, ls, rfl, r19, k20⟩ := Ag k19
 obtain ⟨p20, ls, rfl, r20, k21⟩ := WL k20
 obtain ⟨p21, ls, rfl, r21, k22⟩ := Ag k21
 obtain ⟨p22, ls, rfl, r22, k23⟩ := Ag k22
 obtain ⟨p23, ls, rfl, r23, k24⟩ := Ag k23
 obtain rfl := Wy k24
 exact Qp Xt (by omega) h0
theorem W7 (H : Type) (enc : TypeId × Value → H) (W : World) (base : Nat) (args : Array Value) (ds gs : List (DataW H)) (before : List MemPlace)
    (hval : ∀ (j : Nat) t v, Tryz.f6.params[j]? = some t → args[j]? = some v → Value.okWide Tryz.prog W .any base t v)
    (hW : DataW.Whole enc Tryz.prog Tryz.f6.params.toList Rows.matchLooksSpec.vars false W args.toList ds gs before) (hk : Rows.uptoSmall H (ds ++ gs) = true) :
    Calls Tryz.prog 6 args W fun e W' => ∃ v, e = .returned v ∧ Rows.matchLooksSpec.post enc Tryz.prog Tryz.f6 false true false false W args v W' :=
  Xi (ci := ⟨6, [], true, true, []⟩) (E := Xe) (N := 4194304) rfl rfl (vE RB (E := Xe) (M := 4194304) 4194304 fun _ => rfl).1 Tryz.func6 (tb := 4) (by kernel_rfl) (by kernel_rfl) YZ
    (Vc (by kernel_rfl)) rfl (fun ds h => by
      have h : ds.length = 2 := h.trans (by kernel_rfl)
      match ds, h with
      | [d1, d2], _ => rfl) (Ya H) ZP hval hW (XE hk)
end Go.Proofs.YtapipgdcgmmkaaaGreatDoor
