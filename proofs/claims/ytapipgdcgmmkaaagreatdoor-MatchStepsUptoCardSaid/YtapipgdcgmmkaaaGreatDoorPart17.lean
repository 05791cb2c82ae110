/- Part 17. -/
import Derived.Test.YtapipgdcgmmkaaaGreatDoorPart16
import Derived.Test.YtapipgdcgmmkaaaGreatDoorPart13
import Derived.Test.YtapipgdcgmmkaaaGreatDoorPart14
import Derived.Test.YtapipgdcgmmkaaaGreatDoorPart15
import Derived.Test.YtapipgdcgmmkaaaGreatDoorRows
import Derived.ProofKit
import Derived.OpenShut
import Derived.JoinedCond
set_option linter.unusedVariables false
set_option linter.unusedSimpArgs false
namespace Go.Proofs.YtapipgdcgmmkaaaGreatDoor
open Go.Px Go.ChangeShapes Go.WideShapes Go.ChangeAt Go.RowKit
set_option maxRecDepth 100000
theorem tj {H : Type} (d : DataW H) : 1 ≤ Rows.uptoBulk d := by
 cases d with
 | lit l => cases l <;> simp [Rows.uptoBulk]
 | nil => simp [Rows.uptoBulk]
 | ptr d => simp [Rows.uptoBulk]
 | slice elems spare => simp [Rows.uptoBulk]
 | agg parts => simp [Rows.uptoBulk]
 | iface t d => simp [Rows.uptoBulk]
 | map entries => simp [Rows.uptoBulk]
 | held h => simp [Rows.uptoBulk]
theorem gq {H : Type} {d : DataW H} {l : List (DataW H)} (h : d ∈ l) : Rows.uptoBulk d ≤ Rows.uptoBulkAll l := by
 induction l with
 | nil => cases h
 | cons x r ih =>
  simp only [Rows.uptoBulkAll]
  cases List.mem_cons.1 h with
  | inl e => subst e; omega
  | inr e => have := ih e; omega
theorem all_append {H : Type} (l r : List (DataW H)) : Rows.uptoBulkAll (l ++ r) = Rows.uptoBulkAll l + Rows.uptoBulkAll r := by
 induction l with
 | nil => simp [Rows.uptoBulkAll]
 | cons x l ih => simp only [List.cons_append, Rows.uptoBulkAll, ih]; omega
theorem tN {H : Type} (l : List (DataW H)) : l.length ≤ Rows.uptoBulkAll l := by
 induction l with
 | nil => simp [Rows.uptoBulkAll]
 | cons x r ih => have := tj x; simp only [Rows.uptoBulkAll, List.length_cons]; omega
theorem tG (H : Type) : Bulk (H := H) Rows.uptoBulk where
 str b := by simp [Rows.uptoBulk]
 len e s := by have := tN e; simp only [Rows.uptoBulk]; omega
 elem e s d h := by have := gq h; simp only [Rows.uptoBulk]; omega
 part ps d h := by have := gq h; simp only [Rows.uptoBulk]; omega
theorem qt {H : Type} {ds gs : List (DataW H)} (hk : Rows.uptoSmall H (ds ++ gs) = true) : ∀ d ∈ ds, Rows.uptoBulk d ≤ 1048576 := fun d hd => by
 have h1 : Rows.uptoBulkAll (ds ++ gs) ≤ 1048576 := by simpa [Rows.uptoSmall] using hk
 rw [all_append] at h1
 have := gq hd
 omega
theorem own : ownKnob Tryz.prog.godebug = none := by kernel_rfl
theorem tJ : laidOutB Tryz.prog = true := by kernel_rfl
def oX (P : Program) (l : List TypeId) : Bool := l.all fun t => (DW P 40 CR t && (AQ P t).isSome) && (P.readableRec t && Nat.blt t P.types.size)
theorem mT {l : List TypeId} (h : oX Tryz.prog l = true) : ∀ t ∈ l, (DW Tryz.prog 40 CR t = true ∧ (AQ Tryz.prog t).isSome = true) ∧ (Tryz.prog.readableRec t = true ∧ t < Tryz.prog.types.size) := fun t ht => by
 have := List.all_eq_true.1 h t ht
 simp only [Bool.and_eq_true] at this
 exact ⟨this.1, this.2.1, of_eq_true (Nat.blt_eq ▸ eq_true this.2.2)⟩
def rY : Env := fun f fns ls => cond (Nat.beq f 3) (EU 4194304 ls) none
theorem tM : dC Tryz.prog Tryz.f3.params.toList = some [.s, .i, .i, .i, .i, .i, .i, .i, .b, .i, .i, .i, .i, .r [.i, .i, .i], .u, .i, .b, .r [.i, .i, .i, .i, .i, .i, .i, .i, .i, .i, .i, .i, .i, .i, .r [.u], .i, .r [.i], .r [.i], .b, .r [.i], .b, .i, .i, .i, .r [.b], .i, .i, .u], .i, .i, .u, .i, .i, .u, .i, .i, .i, .b, .i, .i, .u, .u, .i, .i, .i, .b, .u, .i, .i, .i, .b, .i] := by kernel_rfl
theorem uL : ∀ l ls, JG Tryz.prog Tryz.f3.params.toList = some l → PVoks Tryz.prog 1048576 l ls → rY 3 [] ls = some [.bool true] := by
 intro l ls hl hp
 have k0 := pj hp
 rw [oK tM hl] at k0
 show EU 4194304 ls = _
 obtain ⟨p0, ls, rfl, h0, k1⟩ := th k0
 obtain ⟨p1, ls, rfl, r1, k2⟩ := Aj k1
 obtain ⟨p2, ls, rfl, r2, k3⟩ := Aj k2
 obtain ⟨p3, ls, rfl, r3, k4⟩ := Aj k3
 obtain ⟨p4, ls, rfl, r4, k5⟩ := Aj k4
 obtain ⟨p5, ls, rfl, r5, k6⟩ := Aj k5
 obtain ⟨p6, ls, rfl, r6, k7⟩ := Aj k6
 obtain ⟨p7, ls, rfl, r7, k8⟩ := Aj k7
 obtain ⟨p8, ls, rfl, k9⟩ := OJ k8
 obtain ⟨p9, ls, rfl, r9, k10⟩ := Aj k9
 obtain ⟨p10, ls, rfl, r10, k11⟩ := Aj k10
 obtain ⟨p11, ls, rfl, r11, k12⟩ := Aj k11
 obtain ⟨p12, ls, rfl, r12, k13⟩ := Aj k12
 obtain ⟨p13, ls, rfl, h13, q13, d13, k14⟩ := OL k13
 obtain ⟨p14, ls, rfl, r14, k15⟩ := Wy k14
 obtain ⟨p15, ls, rfl, r15, k16⟩ := Aj k15
 obtain ⟨p16, ls, rfl, k17⟩ := OJ k16
 obtain ⟨p17, ls, rfl, h17, q17, d17, k18⟩ := OL k17
 obtain ⟨xs, rfl, fx⟩ := nZ _ d17
 obtain ⟨p18, ls, rfl, r18, k19⟩ := Aj k18
 obtain ⟨p19, ls, rfl, r19, k20⟩ := Aj k19
 obtain ⟨p20, ls, rfl, r20, k21⟩ := Wy k20
 obtain ⟨p21, ls, rfl, r21, k22⟩ := Aj k21
 obtain ⟨p22, ls, rfl, r22, k23⟩ := Aj k22
 obtain ⟨p23, ls, rfl, r23, k24⟩ := Wy k23
 obtain ⟨p24, ls, rfl, r24, k25⟩ := Aj k24
 obtain ⟨p25, ls, rfl, r25, k26⟩ := Aj k25
 obtain ⟨p26, ls, rfl, r26, k27⟩ := Aj k26
 obtain ⟨p27, ls, rfl, k28⟩ := OJ k27
 obtain ⟨p28, ls, rfl, r28, k29⟩ := Aj k28
 obtain ⟨p29, ls, rfl, r29, k30⟩ := Aj k29
 obtain ⟨p30, ls, rfl, r30, k31⟩ := Wy k30
 obtain ⟨p31, ls, rfl, r31, k32⟩ := Wy k31
 obtain ⟨p32, ls, rfl, r32, k33⟩ := Aj k32
 obtain ⟨p33, ls, rfl, r33, k34⟩ := Aj k33
 obtain ⟨p34, ls, rfl, r34, k35⟩ := Aj k34
 obtain ⟨p35, ls, rfl, k36⟩ := OJ k35
 obtain ⟨p36, ls, rfl, r36, k37⟩ := Wy k36
 obtain ⟨p37, ls, rfl, r37, k38⟩ := Aj k37
 obtain ⟨p38, ls, rfl, r38, k39⟩ := Aj k38
 obtain ⟨p39, ls, rfl, r39, k40⟩ := Aj k39
 obtain ⟨p40, ls, rfl, k41⟩ := OJ k40
 obtain ⟨p41, ls, rfl, r41, k42⟩ := Aj k41
 obtain rfl := qF k42
 exact cZ rK (by omega) h0
theorem qI (H : Type) (enc : TypeId × Value → H) (W : World) (base : Nat) (args : Array Value) (ds gs : List (DataW H)) (before : List MemPlace)
    (hval : ∀ (j : Nat) t v, Tryz.f3.params[j]? = some t → args[j]? = some v → Value.okWide Tryz.prog W .any base t v)
    (hW : DataW.Whole enc Tryz.prog Tryz.f3.params.toList Rows.matchStepsSpec.vars false W args.toList ds gs before) (hk : Rows.uptoSmall H (ds ++ gs) = true) :
    Calls Tryz.prog 3 args W fun e W' => ∃ v, e = .returned v ∧ Rows.matchStepsSpec.post enc Tryz.prog Tryz.f3 false true false false W args v W' :=
  rm (ci := ⟨3, [], true, true, []⟩) (E := rY) (N := 4194304) rfl rfl (vE de (E := rY) (M := 4194304) 4194304 fun _ => rfl).1 Tryz.func3 (tb := 4) (by kernel_rfl) (by kernel_rfl) tJ
    (mT (by kernel_rfl)) rfl (fun ds h => by
      have h : ds.length = 2 := h.trans (by kernel_rfl)
      match ds, h with
      | [d1, d2], _ => rfl) (tG H) uL hval hW (qt hk)
end Go.Proofs.YtapipgdcgmmkaaaGreatDoor
