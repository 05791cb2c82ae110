/- Part 16. -/
import Derived.Test.YtibhmjjjbblhmaaGreatPart13
import Derived.Test.YtibhmjjjbblhmaaGreatPart14
import Derived.Test.YtibhmjjjbblhmaaGreatPart15
import Derived.Test.YtibhmjjjbblhmaaGreatRows
import Derived.ProofKit
import Derived.OpenShut
import Derived.JoinedCond
set_option linter.unusedVariables false
set_option linter.unusedSimpArgs false
namespace Go.Proofs.YtibhmjjjbblhmaaGreat
open Go.Px Go.ChangeShapes Go.WideShapes Go.ChangeAt Go.RowKit
set_option maxRecDepth 100000
theorem kA {H : Type} (d : DataW H) : 1 ≤ Rows.uptoBulk d := by
 cases d with
 | lit l => cases l <;> simp [Rows.uptoBulk]
 | nil => simp [Rows.uptoBulk]
 | ptr d => simp [Rows.uptoBulk]
 | slice elems spare => simp [Rows.uptoBulk]
 | agg parts => simp [Rows.uptoBulk]
 | iface t d => simp [Rows.uptoBulk]
 | map entries => simp [Rows.uptoBulk]
 | held h => simp [Rows.uptoBulk]
theorem Y0 {H : Type} {d : DataW H} {l : List (DataW H)} (h : d ∈ l) : Rows.uptoBulk d ≤ Rows.uptoBulkAll l := by
 induction l with
 | nil => cases h
 | cons x r ih =>
  simp only [Rows.uptoBulkAll]
  cases List.mem_cons.1 h with
  | inl e => subst e; omega
  | inr e => have := ih e; omega
theorem all_append {H : Type} (l r : List (DataW H)) : Rows.uptoBulkAll (l ++ r) = Rows.uptoBulkAll l + Rows.uptoBulkAll r := by
 induction l with
 | nil => simp [Rows.uptoBulkAll]
 | cons x l ih => simp only [List.cons_append, Rows.uptoBulkAll, ih]; omega
theorem jd {H : Type} (l : List (DataW H)) : l.length ≤ Rows.uptoBulkAll l := by
 induction l with
 | nil => simp [Rows.uptoBulkAll]
 | cons x r ih => have := kA x; simp only [Rows.uptoBulkAll, List.length_cons]; omega
theorem iz (H : Type) : Bulk (H := H) Rows.uptoBulk where
 str b := by simp [Rows.uptoBulk]
 len e s := by have := jd e; simp only [Rows.uptoBulk]; omega
 elem e s d h := by have := Y0 h; simp only [Rows.uptoBulk]; omega
 part ps d h := by have := Y0 h; simp only [Rows.uptoBulk]; omega
theorem fq {H : Type} {ds gs : List (DataW H)} (hk : Rows.uptoSmall H (ds ++ gs) = true) : ∀ d ∈ ds, Rows.uptoBulk d ≤ 1048576 := fun d hd => by
 have h1 : Rows.uptoBulkAll (ds ++ gs) ≤ 1048576 := by simpa [Rows.uptoSmall] using hk
 rw [all_append] at h1
 have := Y0 hd
 omega
theorem own : ownKnob Tryz.prog.godebug = none := by kernel_rfl
theorem im : laidOutB Tryz.prog = true := by kernel_rfl
def eE (P : Program) (l : List TypeId) : Bool := l.all fun t => (DG P 40 CF t && (AK P t).isSome) && (P.readableRec t && Nat.blt t P.types.size)
theorem dF {l : List TypeId} (h : eE Tryz.prog l = true) : ∀ t ∈ l, (DG Tryz.prog 40 CF t = true ∧ (AK Tryz.prog t).isSome = true) ∧ (Tryz.prog.readableRec t = true ∧ t < Tryz.prog.types.size) := fun t ht => by
 have := List.all_eq_true.1 h t ht
 simp only [Bool.and_eq_true] at this
 exact ⟨this.1, this.2.1, of_eq_true (Nat.blt_eq ▸ eq_true this.2.2)⟩
def gw : Env := fun f fns ls => cond (Nat.beq f 7) (Dx 4194304 ls) none
theorem ji : We Tryz.prog Tryz.f7.params.toList = some [.s, .i, .i, .i, .i, .i, .i, .i, .b, .i, .i, .i, .i, .r [.i, .i, .i], .r [.u, .i, .i, .i, .b, .i, .i, .u, .u, .i, .i, .i, .b, .u, .i, .i, .i, .b, .i], .i, .u, .i, .i, .i, .b, .i, .i, .u, .u, .i, .i, .i, .b, .u, .i, .i, .i, .b, .i] := by kernel_rfl
theorem kj : ∀ l ls, Ic Tryz.prog Tryz.f7.params.toList = some l → PVoks Tryz.prog 1048576 l ls → gw 7 [] ls = some [.bool true] := by
 intro l ls hl hp
 have k0 := f8 hp
 rw [eK ji hl] at k0
 show Dx 4194304 ls = _
 obtain ⟨p0, ls, rfl, h0, k1⟩ := jf k0
 obtain ⟨p1, ls, rfl, r1, k2⟩ := Au k1
 obtain ⟨p2, ls, rfl, r2, k3⟩ := Au k2
 obtain ⟨p3, ls, rfl, r3, k4⟩ := Au k3
 obtain ⟨p4, ls, rfl, r4, k5⟩ := Au k4
 obtain ⟨p5, ls, rfl, r5, k6⟩ := Au k5
 obtain ⟨p6, ls, rfl, r6, k7⟩ := Au k6
 obtain ⟨p7, ls, rfl, r7, k8⟩ := Au k7
 obtain ⟨p8, ls, rfl, k9⟩ := MU k8
 obtain ⟨p9, ls, rfl, r9, k10⟩ := Au k9
 obtain ⟨p10, ls, rfl, r10, k11⟩ := Au k10
 obtain ⟨p11, ls, rfl, r11, k12⟩ := Au k11
 obtain ⟨p12, ls, rfl, r12, k13⟩ := Au k12
 obtain ⟨p13, ls, rfl, h13, q13, d13, k14⟩ := di k13
 obtain ⟨p14, ls, rfl, h14, q14, d14, k15⟩ := di k14
 obtain ⟨es, rfl⟩ := fi _ d14
 obtain ⟨p15, ls, rfl, r15, k16⟩ := Au k15
 obtain ⟨p16, ls, rfl, r16, k17⟩ := Q0 k16
 obtain ⟨p17, ls, rfl, r17, k18⟩ := Au k17
 obtain ⟨p18, ls, rfl, r18, k19⟩ := Au k18
 obtain ⟨p19, ls, rfl, r19, k20⟩ := Au k19
 obtain ⟨p20, ls, rfl, k21⟩ := MU k20
 obtain ⟨p21, ls, rfl, r21, k22⟩ := Au k21
 obtain ⟨p22, ls, rfl, r22, k23⟩ := Au k22
 obtain ⟨p23, ls, rfl, r23, k24⟩ := Q0 k23
 obtain ⟨p24, ls, rfl, r24, k25⟩ := Q0 k24
 obtain ⟨p25, ls, rfl, r25, k26⟩ := Au k25
 obtain ⟨p26, ls, rfl, r26, k27⟩ := Au k26
 obtain ⟨p27, ls, rfl, r27, k28⟩ := Au k27
 obtain ⟨p28, ls, rfl, k29⟩ := MU k28
 obtain ⟨p29, ls, rfl, r29, k30⟩ := Q0 k29
 obtain ⟨p30, ls, rfl, r30, k31⟩ := Au k30
 obtain ⟨p31, ls, rfl, r31, k32⟩ := Au k31
 obtain ⟨p32, ls, rfl, r32, k33⟩ := Au k32
 obtain ⟨p33, ls, rfl, k34⟩ := MU k33
 obtain ⟨p34, ls, rfl, r34, k35⟩ := Au k34
 obtain rfl := fG k35
 exact Vb dH (by omega) h0 h13
theorem f5 (H : Type) (enc : TypeId × Value → H) (W : World) (base : Nat) (args : Array Value) (ds gs : List (DataW H)) (before : List MemPlace)
    (hval : ∀ (j : Nat) t v, Tryz.f7.params[j]? = some t → args[j]? = some v → Value.okWide Tryz.prog W .any base t v)
    (hW : DataW.Whole enc Tryz.prog Tryz.f7.params.toList Rows.correctBackSpec.vars false W args.toList ds gs before) (hk : Rows.uptoSmall H (ds ++ gs) = true) :
    Calls Tryz.prog 7 args W fun e W' => ∃ v, e = .returned v ∧ Rows.correctBackSpec.post enc Tryz.prog Tryz.f7 false true false false W args v W' :=
  gd (ci := ⟨7, [], true, true, []⟩) (E := gw) (N := 4194304) rfl rfl (vE Vg (E := gw) (M := 4194304) 4194304 fun _ => rfl).1 Tryz.func7 (tb := 4) (by kernel_rfl) (by kernel_rfl) im
    (dF (by kernel_rfl)) rfl (fun ds h => by
      have h : ds.length = 3 := h.trans (by kernel_rfl)
      match ds, h with
      | [d1, d2, d3], _ => rfl) (iz H) kj hval hW (fq hk)
end Go.Proofs.YtibhmjjjbblhmaaGreat
