/-
The statement SuperoverWins holds of the given program: for all arguments that hold together at most 1048576 values and letters the law returns true and leaves them as they were.
-/
import Derived.Test.YtapipgdcgmmkaaaGreatPart14
import Derived.Test.YtapipgdcgmmkaaaGreatPart11
import Derived.Test.YtapipgdcgmmkaaaGreatPart12
import Derived.Test.YtapipgdcgmmkaaaGreatPart13
import Derived.Test.YtapipgdcgmmkaaaGreatRows
import Derived.ProofKit
import Derived.OpenShut
import Derived.JoinedCond
set_option linter.unusedVariables false
set_option linter.unusedSimpArgs false
namespace Go.Proofs.YtapipgdcgmmkaaaGreat
open Go.Px Go.ChangeShapes Go.WideShapes Go.ChangeAt Go.RowKit
set_option maxRecDepth 100000
theorem one_le {H : Type} (d : DataW H) : 1 ≤ Rows.uptoBulk d := by
 cases d with
 | lit l => cases l <;> simp [Rows.uptoBulk]
 | nil => simp [Rows.uptoBulk]
 | ptr d => simp [Rows.uptoBulk]
 | slice elems spare => simp [Rows.uptoBulk]
 | agg parts => simp [Rows.uptoBulk]
 | iface t d => simp [Rows.uptoBulk]
 | map entries => simp [Rows.uptoBulk]
 | held h => simp [Rows.uptoBulk]
theorem part_le {H : Type} {d : DataW H} {l : List (DataW H)} (h : d ∈ l) : Rows.uptoBulk d ≤ Rows.uptoBulkAll l := by
 induction l with
 | nil => cases h
 | cons x r ih =>
  simp only [Rows.uptoBulkAll]
  cases List.mem_cons.1 h with
  | inl e => subst e; omega
  | inr e => have := ih e; omega
theorem all_append {H : Type} (l r : List (DataW H)) : Rows.uptoBulkAll (l ++ r) = Rows.uptoBulkAll l + Rows.uptoBulkAll r := by
 induction l with
 | nil => simp [Rows.uptoBulkAll]
 | cons x l ih => simp only [List.cons_append, Rows.uptoBulkAll, ih]; omega
theorem len_le {H : Type} (l : List (DataW H)) : l.length ≤ Rows.uptoBulkAll l := by
 induction l with
 | nil => simp [Rows.uptoBulkAll]
 | cons x r ih => have := one_le x; simp only [Rows.uptoBulkAll, List.length_cons]; omega
theorem bulk_ok (H : Type) : Bulk (H := H) Rows.uptoBulk where
 str b := by simp [Rows.uptoBulk]
 len e s := by have := len_le e; simp only [Rows.uptoBulk]; omega
 elem e s d h := by have := part_le h; simp only [Rows.uptoBulk]; omega
 part ps d h := by have := part_le h; simp only [Rows.uptoBulk]; omega
theorem bulk_each {H : Type} {ds gs : List (DataW H)} (hk : Rows.uptoSmall H (ds ++ gs) = true) : ∀ d ∈ ds, Rows.uptoBulk d ≤ 1048576 := fun d hd => by
 have h1 : Rows.uptoBulkAll (ds ++ gs) ≤ 1048576 := by simpa [Rows.uptoSmall] using hk
 rw [all_append] at h1
 have := part_le hd
 omega
theorem own : ownKnob Tryz.prog.godebug = none := by kernel_rfl
theorem laid_ok : laidOutB Tryz.prog = true := by kernel_rfl
def paramsGood (P : Program) (l : List TypeId) : Bool := l.all fun t => (Ct P 40 CB t && (AN P t).isSome) && (P.readableRec t && Nat.blt t P.types.size)
theorem params_good {l : List TypeId} (h : paramsGood Tryz.prog l = true) : ∀ t ∈ l, (Ct Tryz.prog 40 CB t = true ∧ (AN Tryz.prog t).isSome = true) ∧ (Tryz.prog.readableRec t = true ∧ t < Tryz.prog.types.size) := fun t ht => by
 have := List.all_eq_true.1 h t ht
 simp only [Bool.and_eq_true] at this
 exact ⟨this.1, this.2.1, of_eq_true (Nat.blt_eq ▸ eq_true this.2.2)⟩
def envZ : Env := fun f fns ls => cond (Nat.beq f 4) (Dz 4194304 ls) none
theorem kindsK : T0 Tryz.prog Tryz.f4.params.toList = some [.b, .r [.u, .u]] := by kernel_rfl
theorem lawK : ∀ l ls, HP Tryz.prog Tryz.f4.params.toList = some l → PVoks Tryz.prog 1048576 l ls → envZ 4 [] ls = some [.bool true] := by
 intro l ls hl hp
 have k0 := aQ hp
 rw [ZT kindsK hl] at k0
 show Dz 4194304 ls = _
 obtain ⟨p0, ls, rfl, k1⟩ := cE k0
 obtain ⟨p1, ls, rfl, h1, q1, d1, k2⟩ := cj k1
 have hr := aH _ d1
 obtain rfl := dQ k2
 exact Q2 be (by omega) hr
theorem contractK (H : Type) (enc : TypeId × Value → H) (W : World) (base : Nat) (args : Array Value) (ds gs : List (DataW H)) (before : List MemPlace)
    (hval : ∀ (j : Nat) t v, Tryz.f4.params[j]? = some t → args[j]? = some v → Value.okWide Tryz.prog W .any base t v)
    (hW : DataW.Whole enc Tryz.prog Tryz.f4.params.toList Rows.superoverWinsSpec.vars false W args.toList ds gs before) (hk : Rows.uptoSmall H (ds ++ gs) = true) :
    Calls Tryz.prog 4 args W fun e W' => ∃ v, e = .returned v ∧ Rows.superoverWinsSpec.post enc Tryz.prog Tryz.f4 false true false false W args v W' :=
  bE (ci := ⟨4, [], true, true, []⟩) (E := envZ) (N := 4194304) rfl rfl (vE Q6 (E := envZ) (M := 4194304) 4194304 fun _ => rfl).1 Tryz.func4 (tb := 4) (by kernel_rfl) (by kernel_rfl) laid_ok
    (params_good (by kernel_rfl)) rfl (fun ds h => by
      have h : ds.length = 2 := h.trans (by kernel_rfl)
      match ds, h with
      | [d1, d2], _ => rfl) (bulk_ok H) lawK hval hW (bulk_each hk)
def readOk {H : Type} (o : Option (List (DataW H) × List (DataW H) × List MemPlace)) (t : List (DataW H) × List (DataW H) × List MemPlace → Bool) : Bool := match o with
 | some x => t x
 | none => false
theorem read_ok {H : Type} {o : Option (List (DataW H) × List (DataW H) × List MemPlace)} {t u : List (DataW H) × List (DataW H) × List MemPlace → Bool} (h : readOk o (fun x => t x && u x) = true) : ∃ x, o = some x ∧ t x = true ∧ u x = true := by
 cases o with
 | none => cases h
 | some x => exact ⟨x, rfl, (Bool.and_eq_true _ _ ▸ h : _ ∧ _).1, (Bool.and_eq_true _ _ ▸ h : _ ∧ _).2⟩
def argZ0 : Value := .bool false
def argZ1 : Value := .slice none 0 0
theorem liftedK (os : Os) (started : os.Started) (H : Type) (enc : TypeId × Value → H) (F : Stop.Interp) :
    ReturnsInHanded {} Tryz.checked os 4 .any ((Rows.OpenSpec.upto Rows.superoverWinsSpec).pre6 enc Tryz.prog Tryz.f4 Rows.superoverWinsUptoRow.domain false) (((Rows.OpenSpec.upto Rows.superoverWinsSpec).at F).post enc Tryz.prog Tryz.f4 false true false false) := by
  obtain ⟨x, h1, h2, h3⟩ := read_ok (o := DataW.whole enc Tryz.checked.prog (World.plainHolding Tryz.checked.prog os ⟨#[], #[argZ0, argZ1], []⟩).memory Tryz.f4.params.toList (Rows.OpenSpec.upto Rows.superoverWinsSpec).vars false (⟨#[], #[argZ0, argZ1], []⟩ : Input).args.toList 12)
    (t := fun x => Rows.superoverWinsUptoRow.domain.all (PathCond.test Tryz.checked.prog ⟨Tryz.f4.params.toList, x.1, (Rows.OpenSpec.upto Rows.superoverWinsSpec).bare.plain.varTypes Tryz.checked.prog, x.2.1⟩)) (u := fun x => Rows.uptoSmall H (x.1 ++ x.2.1)) (by kernel_rfl)
  refine returnsInHanded_of_cond (C := Tryz.checked) (s := Rows.OpenSpec.upto Rows.superoverWinsSpec) (k := Rows.uptoSmall) rfl own started (by kernel_rfl) Tryz.func4
    (OpenSpec.witness (enc := enc) (C := Tryz.checked) (s := Rows.OpenSpec.upto Rows.superoverWinsSpec) (k := Rows.uptoSmall) rfl false ⟨#[], #[argZ0, argZ1], []⟩ 12 (by kernel_rfl) (by kernel_rfl) (by kernel_rfl)
      (x := x) h1 h2 h3) ?_
  intro W base args ds gs before hval hW _ hk _
  exact contractK H enc W base args ds gs before hval hW hk
theorem overK : Rows.superoverWinsUptoRow.holds Tryz.pinned (Rows.OpenSpec.upto Rows.superoverWinsSpec) :=
  OpenClaim.holds_of_cond 4 Tryz.f4 rfl rfl rfl rfl rfl rfl rfl ⟨rfl, rfl, rfl, rfl, rfl⟩ rfl rfl rfl rfl rfl (by kernel_rfl) Tryz.func4 (by kernel_rfl)
    (of_decide_eq_true (by kernel_rfl)) (by unfold Func.isWrapper; first | (rw [if_pos (by decide +kernel)]; kernel_rfl) | (rw [if_neg (by decide +kernel)]; exact ⟨rfl, rfl⟩))
    (fun os started H enc _ F => liftedK os started H enc F)
theorem superoverWins_holds : Rows.SuperoverWinsUptoSaid := overK
end Go.Proofs.YtapipgdcgmmkaaaGreat
