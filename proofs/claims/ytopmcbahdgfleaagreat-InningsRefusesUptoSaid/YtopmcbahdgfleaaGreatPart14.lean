/-
The statement InningsRefuses holds of the given program: for all arguments that hold together at most 1048576 values and letters the law returns true and leaves them as they were.
-/
import Derived.Test.YtopmcbahdgfleaaGreatPart11
import Derived.Test.YtopmcbahdgfleaaGreatPart12
import Derived.Test.YtopmcbahdgfleaaGreatPart13
import Derived.Test.YtopmcbahdgfleaaGreatRows
import Derived.ProofKit
import Derived.OpenShut
import Derived.JoinedCond
namespace Go.Proofs.YtopmcbahdgfleaaGreat
open Go.Px Go.ChangeShapes Go.WideShapes Go.ChangeAt Go.RowKit
set_option linter.unusedVariables false
set_option maxRecDepth 100000
theorem one_le {H : Type} (d : DataW H) : 1 ≤ Rows.uptoBulk d := by
  cases d with
  | lit l => cases l <;> simp [Rows.uptoBulk]
  | nil => simp [Rows.uptoBulk]
  | ptr d => simp [Rows.uptoBulk]
  | slice elems spare => simp [Rows.uptoBulk]
  | agg parts => simp [Rows.uptoBulk]
  | iface t d => simp [Rows.uptoBulk]
  | map entries => simp [Rows.uptoBulk]
  | held h => simp [Rows.uptoBulk]
theorem part_le {H : Type} {d : DataW H} {l : List (DataW H)} (h : d ∈ l) : Rows.uptoBulk d ≤ Rows.uptoBulkAll l := by
  induction l with
  | nil => cases h
  | cons x r ih =>
    simp only [Rows.uptoBulkAll]
    cases List.mem_cons.1 h with
    | inl e => subst e; omega
    | inr e => have := ih e; omega
theorem all_append {H : Type} (l r : List (DataW H)) : Rows.uptoBulkAll (l ++ r) = Rows.uptoBulkAll l + Rows.uptoBulkAll r := by
  induction l with
  | nil => simp [Rows.uptoBulkAll]
  | cons x l ih => simp only [List.cons_append, Rows.uptoBulkAll, ih]; omega
theorem len_le {H : Type} (l : List (DataW H)) : l.length ≤ Rows.uptoBulkAll l := by
  induction l with
  | nil => simp [Rows.uptoBulkAll]
  | cons x r ih => have := one_le x; simp only [Rows.uptoBulkAll, List.length_cons]; omega
theorem bulk_ok (H : Type) : Bulk (H := H) Rows.uptoBulk where
  str b := by simp [Rows.uptoBulk]
  len e s := by have := len_le e; simp only [Rows.uptoBulk]; omega
  elem e s d h := by have := part_le h; simp only [Rows.uptoBulk]; omega
  part ps d h := by have := part_le h; simp only [Rows.uptoBulk]; omega
theorem bulk_each {H : Type} {ds gs : List (DataW H)} (hk : Rows.uptoSmall H (ds ++ gs) = true) : ∀ d ∈ ds, Rows.uptoBulk d ≤ 1048576 := fun d hd => by
  have h1 : Rows.uptoBulkAll (ds ++ gs) ≤ 1048576 := by simpa [Rows.uptoSmall] using hk
  rw [all_append] at h1
  have := part_le hd
  omega

theorem own : ownKnob Tryz.prog.godebug = none := by kernel_rfl
theorem laid_ok : laidOutB Tryz.prog = true := by kernel_rfl
def paramsGood (P : Program) (l : List TypeId) : Bool := l.all fun t => (tyGood P 40 tyDepth t && (tysOf P t).isSome) && (P.readableRec t && Nat.blt t P.types.size)
theorem params_good {l : List TypeId} (h : paramsGood Tryz.prog l = true) : ∀ t ∈ l, (tyGood Tryz.prog 40 tyDepth t = true ∧ (tysOf Tryz.prog t).isSome = true) ∧ (Tryz.prog.readableRec t = true ∧ t < Tryz.prog.types.size) := fun t ht => by
  have := List.all_eq_true.1 h t ht
  simp only [Bool.and_eq_true] at this
  exact ⟨this.1, this.2.1, of_eq_true (Nat.blt_eq ▸ eq_true this.2.2)⟩


theorem awake_ok : c_w14_awake 4194304 [] = some [.bool true] := by kernel_rfl
def envZ : Env := fun f fns ls => cond (Nat.beq f 6) (c_w14_InningsRefuses 4194304 ls) none
theorem kindsK : kindsAll Tryz.prog Tryz.f6.params.toList = some k_w14_InningsRefuses := by kernel_rfl
theorem lawK : ∀ l ls, tysAll Tryz.prog Tryz.f6.params.toList = some l → PVoks Tryz.prog 1048576 l ls → envZ 6 [] ls = some [.bool true] := by
  intro l ls hl hp
  have k0 := kinded hp
  rw [kinds_some kindsK hl] at k0
  show c_w14_InningsRefuses 4194304 ls = _
  obtain ⟨p0, ls, rfl, h0, k1⟩ := kd_str k0
  obtain ⟨p1, ls, rfl, r1, k2⟩ := kd_int k1
  obtain ⟨p2, ls, rfl, r2, k3⟩ := kd_int k2
  obtain ⟨p3, ls, rfl, r3, k4⟩ := kd_int k3
  obtain ⟨p4, ls, rfl, r4, k5⟩ := kd_int k4
  obtain ⟨p5, ls, rfl, r5, k6⟩ := kd_int k5
  obtain ⟨p6, ls, rfl, r6, k7⟩ := kd_int k6
  obtain ⟨p7, ls, rfl, r7, k8⟩ := kd_int k7
  obtain ⟨p8, ls, rfl, k9⟩ := kd_bool k8
  obtain ⟨p9, ls, rfl, r9, k10⟩ := kd_int k9
  obtain ⟨p10, ls, rfl, r10, k11⟩ := kd_int k10
  obtain ⟨p11, ls, rfl, r11, k12⟩ := kd_int k11
  obtain ⟨p12, ls, rfl, r12, k13⟩ := kd_int k12
  obtain ⟨p13, ls, rfl, h13, q13, k14⟩ := kd_rows k13
  obtain ⟨p14, ls, rfl, r14, k15⟩ := kd_int k14
  obtain ⟨p15, ls, rfl, r15, k16⟩ := kd_int k15
  obtain ⟨p16, ls, rfl, r16, k17⟩ := kd_int k16
  obtain ⟨p17, ls, rfl, r17, k18⟩ := kd_int k17
  obtain ⟨p18, ls, rfl, r18, k19⟩ := kd_int k18
  obtain ⟨p19, ls, rfl, r19, k20⟩ := kd_int k19
  obtain ⟨p20, ls, rfl, r20, k21⟩ := kd_int k20
  obtain ⟨p21, ls, rfl, r21, k22⟩ := kd_int k21
  obtain ⟨p22, ls, rfl, r22, k23⟩ := kd_int k22
  obtain ⟨p23, ls, rfl, r23, k24⟩ := kd_int k23
  obtain ⟨p24, ls, rfl, r24, k25⟩ := kd_int k24
  obtain ⟨p25, ls, rfl, r25, k26⟩ := kd_int k25
  obtain ⟨p26, ls, rfl, r26, k27⟩ := kd_int k26
  obtain ⟨p27, ls, rfl, r27, k28⟩ := kd_int k27
  obtain ⟨p28, ls, rfl, h28, q28, k29⟩ := kd_rows k28
  obtain ⟨p29, ls, rfl, r29, k30⟩ := kd_int k29
  obtain ⟨p30, ls, rfl, h30, q30, k31⟩ := kd_rows k30
  obtain ⟨p31, ls, rfl, h31, q31, k32⟩ := kd_rows k31
  obtain ⟨p32, ls, rfl, k33⟩ := kd_bool k32
  obtain ⟨p33, ls, rfl, h33, q33, k34⟩ := kd_rows k33
  obtain ⟨p34, ls, rfl, k35⟩ := kd_bool k34
  obtain ⟨p35, ls, rfl, r35, k36⟩ := kd_int k35
  obtain ⟨p36, ls, rfl, r36, k37⟩ := kd_int k36
  obtain ⟨p37, ls, rfl, r37, k38⟩ := kd_int k37
  obtain ⟨p38, ls, rfl, h38, q38, k39⟩ := kd_rows k38
  obtain ⟨p39, ls, rfl, r39, k40⟩ := kd_int k39
  obtain ⟨p40, ls, rfl, r40, k41⟩ := kd_int k40
  obtain ⟨p41, ls, rfl, r41, k42⟩ := kd_int k41
  obtain ⟨p42, ls, rfl, r42, k43⟩ := kd_int k42
  obtain ⟨p43, ls, rfl, r43, k44⟩ := kd_int k43
  obtain ⟨p44, ls, rfl, r44, k45⟩ := kd_int k44
  obtain ⟨p45, ls, rfl, r45, k46⟩ := kd_int k45
  obtain ⟨p46, ls, rfl, k47⟩ := kd_bool k46
  obtain ⟨p47, ls, rfl, r47, k48⟩ := kd_int k47
  obtain ⟨p48, ls, rfl, r48, k49⟩ := kd_int k48
  obtain ⟨p49, ls, rfl, r49, k50⟩ := kd_int k49
  obtain ⟨p50, ls, rfl, r50, k51⟩ := kd_int k50
  obtain ⟨p51, ls, rfl, r51, k52⟩ := kd_int k51
  obtain ⟨p52, ls, rfl, r52, k53⟩ := kd_int k52
  obtain ⟨p53, ls, rfl, r53, k54⟩ := kd_int k53
  obtain ⟨p54, ls, rfl, k55⟩ := kd_bool k54
  obtain ⟨p55, ls, rfl, r55, k56⟩ := kd_int k55
  obtain ⟨p56, ls, rfl, r56, k57⟩ := kd_int k56
  obtain ⟨p57, ls, rfl, r57, k58⟩ := kd_int k57
  obtain ⟨p58, ls, rfl, r58, k59⟩ := kd_int k58
  obtain ⟨p59, ls, rfl, k60⟩ := kd_bool k59
  obtain ⟨p60, ls, rfl, r60, k61⟩ := kd_int k60
  obtain rfl := kd_nil k61
  exact L_w14_InningsRefuses awake_ok (by omega) h0 q28
theorem contractK (H : Type) (enc : TypeId × Value → H) (W : World) (base : Nat) (args : Array Value) (ds gs : List (DataW H)) (before : List MemPlace)
    (hval : ∀ (j : Nat) t v, Tryz.f6.params[j]? = some t → args[j]? = some v → Value.okWide Tryz.prog W .any base t v)
    (hW : DataW.Whole enc Tryz.prog Tryz.f6.params.toList Rows.inningsRefusesSpec.vars false W args.toList ds gs before) (hk : Rows.uptoSmall H (ds ++ gs) = true) :
    Calls Tryz.prog 6 args W fun e W' => ∃ v, e = .returned v ∧ Rows.inningsRefusesSpec.post enc Tryz.prog Tryz.f6 false true false false W args v W' :=
  law_post (ci := ⟨6, [], true, true, []⟩) (E := envZ) (N := 4194304) rfl rfl (V_w14_InningsRefuses (E := envZ) (M := 4194304) 4194304 fun _ => rfl).1 Tryz.func6 (tb := 4) (by kernel_rfl) (by kernel_rfl) laid_ok
    (params_good (by kernel_rfl)) rfl (fun ds h => by
      have h : ds.length = 3 := h.trans (by kernel_rfl)
      match ds, h with
      | [d1, d2, d3], _ => rfl) (bulk_ok H) lawK hval hW (bulk_each hk)

/-- A reading that the row asks for, found by a run. -/
def readOk {H : Type} (o : Option (List (DataW H) × List (DataW H) × List MemPlace)) (t : List (DataW H) × List (DataW H) × List MemPlace → Bool) : Bool := match o with
  | some x => t x
  | none => false
theorem read_ok {H : Type} {o : Option (List (DataW H) × List (DataW H) × List MemPlace)} {t u : List (DataW H) × List (DataW H) × List MemPlace → Bool} (h : readOk o (fun x => t x && u x) = true) : ∃ x, o = some x ∧ t x = true ∧ u x = true := by
  cases o with
  | none => cases h
  | some x => exact ⟨x, rfl, (Bool.and_eq_true _ _ ▸ h : _ ∧ _).1, (Bool.and_eq_true _ _ ▸ h : _ ∧ _).2⟩

def argZ0 : Value := .agg #[.string ⟨#[]⟩, .int .i64 0, .int .i64 0, .int .i64 0, .int .i64 0, .int .i64 0, .int .i64 0, .int .i64 0, .bool false, .int .i64 0, .int .i64 0, .int .i64 0, .int .i64 0, .slice none 0 0]
def argZ1 : Value := .agg #[.int .i64 0, .int .i64 0, .int .i64 0, .int .i64 0, .int .i64 0, .int .i64 0, .int .i64 0, .int .i64 0, .int .i64 0, .int .i64 0, .int .i64 0, .int .i64 0, .int .i64 0, .int .i64 0, .slice none 0 0, .int .i64 0, .slice none 0 0, .slice none 0 0, .bool false, .slice none 0 0, .bool false, .int .i64 0, .int .i64 0, .int .i64 0, .slice none 0 0, .int .i64 0, .int .i64 0, .int .u8 0]
def argZ2 : Value := .agg #[.int .u8 0, .int .i64 0, .int .i64 0, .int .i64 0, .bool false, .int .i64 0, .int .i64 0, .int .u8 0, .int .u8 0, .int .i64 0, .int .i64 0, .int .i64 0, .bool false, .int .u8 0, .int .i64 0, .int .i64 0, .int .i64 0, .bool false, .int .i64 0]

theorem liftedK (os : Os) (started : os.Started) (H : Type) (enc : TypeId × Value → H) (F : Stop.Interp) :
    ReturnsInHanded {} Tryz.checked os 6 .any ((Rows.OpenSpec.upto Rows.inningsRefusesSpec).pre6 enc Tryz.prog Tryz.f6 Rows.inningsRefusesUptoRow.domain false) (((Rows.OpenSpec.upto Rows.inningsRefusesSpec).at F).post enc Tryz.prog Tryz.f6 false true false false) := by
  obtain ⟨x, h1, h2, h3⟩ := read_ok (o := DataW.whole enc Tryz.checked.prog (World.plainHolding Tryz.checked.prog os ⟨#[], #[argZ0, argZ1, argZ2], []⟩).memory Tryz.f6.params.toList (Rows.OpenSpec.upto Rows.inningsRefusesSpec).vars false (⟨#[], #[argZ0, argZ1, argZ2], []⟩ : Input).args.toList 12)
    (t := fun x => Rows.inningsRefusesUptoRow.domain.all (PathCond.test Tryz.checked.prog ⟨Tryz.f6.params.toList, x.1, (Rows.OpenSpec.upto Rows.inningsRefusesSpec).bare.plain.varTypes Tryz.checked.prog, x.2.1⟩)) (u := fun x => Rows.uptoSmall H (x.1 ++ x.2.1)) (by kernel_rfl)
  refine returnsInHanded_of_cond (C := Tryz.checked) (s := Rows.OpenSpec.upto Rows.inningsRefusesSpec) (k := Rows.uptoSmall) rfl own started (by kernel_rfl) Tryz.func6
    (OpenSpec.witness (enc := enc) (C := Tryz.checked) (s := Rows.OpenSpec.upto Rows.inningsRefusesSpec) (k := Rows.uptoSmall) rfl false ⟨#[], #[argZ0, argZ1, argZ2], []⟩ 12 (by kernel_rfl) (by kernel_rfl) (by kernel_rfl)
      (x := x) h1 h2 h3) ?_
  intro W base args ds gs before hval hW _ hk _
  exact contractK H enc W base args ds gs before hval hW hk

theorem overK : Rows.inningsRefusesUptoRow.holds Tryz.pinned (Rows.OpenSpec.upto Rows.inningsRefusesSpec) :=
  OpenClaim.holds_of_cond 6 Tryz.f6 rfl rfl rfl rfl rfl rfl rfl ⟨rfl, rfl, rfl, rfl, rfl⟩ rfl rfl rfl rfl rfl (by kernel_rfl) Tryz.func6 (by kernel_rfl)
    (of_decide_eq_true (by kernel_rfl)) (by unfold Func.isWrapper; first | (rw [if_pos (by decide +kernel)]; kernel_rfl) | (rw [if_neg (by decide +kernel)]; exact ⟨rfl, rfl⟩))
    (fun os started H enc _ F => liftedK os started H enc F)

theorem inningsRefuses_holds : Rows.InningsRefusesUptoSaid := overK
end Go.Proofs.YtopmcbahdgfleaaGreat
