/-
From the statement's data to lists of leaves.
-/
import Derived.Test.YtopmcbahdgfleaaGreatPxBridge2
import Derived.Test.YtopmcbahdgfleaaGreatPxTab2
namespace Go.Px
set_option linter.unusedVariables false
variable {P : Program} {B : Nat}

/-- What kind a leaf is of. -/
def kOf (P : Program) (t : TypeId) : Nat := match lkOf P t with
  | .int .u64 => 9
  | .int _ => 0
  | .bool => 1
  | .str => 2
  | .sl _ => 3
  | _ => 9
def kindsAll (P : Program) (ts : List TypeId) : Option (List Nat) := match tysAll P ts with
  | some l => some (l.map (kOf P))
  | none => none
theorem kinds_some {ts l : List TypeId} {ks : List Nat} (h : kindsAll P ts = some ks) (hl : tysAll P ts = some l) : l.map (kOf P) = ks := by
  unfold kindsAll at h
  rw [hl] at h
  exact Option.some.inj h
/-- Leaves of such kinds. -/
inductive Kinded (B : Nat) : List Nat → List PV → Prop
  | nil : Kinded B [] []
  | int {ks ls} (n : Int) (h : -9223372036854775808 ≤ n ∧ n ≤ 9223372036854775807) (t : Kinded B ks ls) : Kinded B (0 :: ks) (.int n :: ls)
  | bool {ks ls} (b : Bool) (t : Kinded B ks ls) : Kinded B (1 :: ks) (.bool b :: ls)
  | str {ks ls} (s : ByteArray) (h : s.size ≤ B) (t : Kinded B ks ls) : Kinded B (2 :: ks) (.str s :: ls)
  | rows {ks ls} (l : Rows) (h : l.length ≤ B) (t : Kinded B ks ls) : Kinded B (3 :: ks) (.rows l :: ls)
  | other {ks ls p} (t : Kinded B ks ls) : Kinded B (9 :: ks) (p :: ls)
theorem kinded : ∀ {l : List TypeId} {ls : List PV}, PVoks P B l ls → Kinded B (l.map (kOf P)) ls
  | [], [], _ => .nil
  | t :: ts, p :: ps, h => by
    have ih := kinded h.2
    have h1 := h.1
    rw [List.map_cons]
    cases h1 with
    | @int _ k n hk hw =>
      unfold kOf
      rw [hk]
      cases k <;> first | exact .other ih | exact .int n (by simp [Lit.wf, IntKind.min, IntKind.max, IntKind.signed, IntKind.bits] at hw; omega) ih
    | bool hk => unfold kOf; rw [hk]; exact .bool _ ih
    | str hk hs => unfold kOf; rw [hk]; exact .str _ hs ih
    | sl hk _ hl _ _ => unfold kOf; rw [hk]; exact .rows _ hl ih
  | [], _ :: _, h => h.elim
  | _ :: _, [], h => h.elim
theorem kd_nil {ls : List PV} (h : Kinded B [] ls) : ls = [] := by cases h; rfl
theorem kd_int {ks : List Nat} {ls : List PV} (h : Kinded B (0 :: ks) ls) : ∃ n r, ls = .int n :: r ∧ (-9223372036854775808 ≤ n ∧ n ≤ 9223372036854775807) ∧ Kinded B ks r := by cases h; exact ⟨_, _, rfl, ‹_›, ‹_›⟩
theorem kd_bool {ks : List Nat} {ls : List PV} (h : Kinded B (1 :: ks) ls) : ∃ b r, ls = .bool b :: r ∧ Kinded B ks r := by cases h; exact ⟨_, _, rfl, ‹_›⟩
theorem kd_str {ks : List Nat} {ls : List PV} (h : Kinded B (2 :: ks) ls) : ∃ s r, ls = .str s :: r ∧ s.size ≤ B ∧ Kinded B ks r := by cases h; exact ⟨_, _, rfl, ‹_›, ‹_›⟩
theorem kd_rows {ks : List Nat} {ls : List PV} (h : Kinded B (3 :: ks) ls) : ∃ l r, ls = .rows l :: r ∧ l.length ≤ B ∧ Kinded B ks r := by cases h; exact ⟨_, _, rfl, ‹_›, ‹_›⟩
end Go.Px
