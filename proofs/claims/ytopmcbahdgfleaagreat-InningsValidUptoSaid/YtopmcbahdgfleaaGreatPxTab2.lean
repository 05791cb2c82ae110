/-
Px: the library's search for a byte in a string, by hand: it has no body in Go.
-/
import Derived.Test.YtopmcbahdgfleaaGreatPxTab
import Derived.Lib.Bytealg
import Derived.Lib.Strings
namespace Go.Px
open Go.RowKit
set_option linter.unusedVariables false
set_option linter.unusedSimpArgs false

/-- The search for a byte, as a function on data. -/
def indexC (ls : List PV) : Option (List PV) := match ls with
  | [.str s, .int c] => some [.int (Lib.indexByte s.data.toList c.toNat.toUInt8)]
  | _ => none

theorem valid_index {P : Program} {f : FuncId} {T5 T9 T3 : TypeId} {fn : Func} (hfn : P.funcs[f]? = some fn) (hp : fn.params = #[T9, T5]) (hr : fn.resultTypes = #[T3]) (h9 : P.underlying T9 = some .string) (h5 : P.underlying T5 = some (.int .u8)) (h3 : P.underlying T3 = some (.int .i64)) (h3t : tysOf P T3 = some [T3])
    (hc : ∀ (s : ByteArray) (c : Int) (w : World), Calls P f #[.string s, .int .u8 c] w fun e w' => e = .returned (.int .i64 (Lib.indexByte s.data.toList c.toNat.toUInt8)) ∧ w' = w)
    {E' : Env} {N' : Nat} (h : ∀ ls, E' f [] ls = indexC ls) : VV P E' N' ⟨f, [], true, true, []⟩ := by
  have l9 : lkOf P T9 = .str := by simp [lkOf, h9]
  have l5 : lkOf P T5 = .int .u8 := by simp [lkOf, h5]
  have l3 : lkOf P T3 = .int .i64 := by simp [lkOf, h3]
  have a3 : isAggT P T3 = false := by simp [isAggT, h3]
  have a5 : isAggT P T5 = false := by simp [isAggT, h5]
  have a9 : isAggT P T9 = false := by simp [isAggT, h9]
  have ty : ∀ {T : TypeId} {x : List TypeId} {d : TypeDesc}, P.underlying T = some d → (∀ k, cellTys P (k + 1) T = some [T]) → tysOf P T = some x → x = [T] := fun {T x d} _ hk hx => by
    unfold tysOf at hx
    rw [show tyDepth = 19 + 1 from rfl, hk] at hx
    simp only at hx
    split at hx
    · cases hx; rfl
    · cases hx
  have main : ∀ own', ∀ (ls rs : List PV), E' f [] ls = some rs → ∀ fn', P.funcs[f]? = some fn' → ∀ (vs : List (AV (std E' N'))) (hs : List (Nat × HEnt (std E' N'))), argVals (O := std E' N') P [] 1 fn'.params.toList [] (ls.map PV.leaf) = some (vs, hs) →
      ∀ (n0 : Nz) (σ : Nat → Option (Nat × Nat)) (w : World) (args : List Value), n0.n = w.heap.size → Mem P n0 noB σ (hpSt hs) w → RelArgs P n0 noB σ (hpSt hs) w vs args → Calls P f args.toArray w (Ret (E := E') (N := N') P ⟨f, [], own', true, []⟩ n0 σ (hpSt hs) w fn' rs) :=
    fun own' ls rs he fn' hfn' vs hs hv n0 σ w args hn0 m hra => by
      rw [hfn] at hfn'; cases hfn'
      rw [h] at he
      unfold indexC at he
      split at he
      case h_2 => cases he
      rename_i s c
      cases he
      rw [hp] at hv
      have hT9 : tysOf P T9 = none ∨ tysOf P T9 = some [T9] := by
        cases hx : tysOf P T9 with
        | none => exact .inl rfl
        | some x => exact .inr (by rw [ty h9 (fun k => by simp [cellTys, h9]) hx])
      have hT5 : tysOf P T5 = none ∨ tysOf P T5 = some [T5] := by
        cases hx : tysOf P T5 with
        | none => exact .inl rfl
        | some x => exact .inr (by rw [ty h5 (fun k => by simp [cellTys, h5]) hx])
      unfold argVals at hv
      simp only [l9] at hv
      rcases hT9 with hT9 | hT9
      · simp [hT9] at hv
      simp only [hT9, List.map_cons, List.map_nil, PV.leaf, argCells, l9, Option.map_some] at hv
      unfold argVals at hv
      simp only [l5] at hv
      rcases hT5 with hT5 | hT5
      · simp [hT5] at hv
      simp [hT5, argCells, l5, argVals, a9, a5] at hv
      obtain ⟨rfl, rfl⟩ := hv
      obtain ⟨v1, v2, rfl⟩ : ∃ v1 v2, args = [v1, v2] := by
        have := hra.len
        match args, this with
        | [v1, v2], _ => exact ⟨v1, v2, rfl⟩
      obtain ⟨q1, q2, _⟩ := hra
      have q1 : RelVal P n0 noB σ (hpSt []) w (⟨false, [.str s]⟩ : Val (std E' N')) v1 := q1
      have q2 : RelVal P n0 noB σ (hpSt []) w (⟨false, [.int .u8 c]⟩ : Val (std E' N')) v2 := q2
      obtain ⟨g1, g2⟩ := q1
      have g2 : v1.oneCell' = true := g2
      rw [cells_one g2] at g1
      have e1 : v1 = .string s := g1.1
      obtain ⟨k1, k2⟩ := q2
      have k2 : v2.oneCell' = true := k2
      rw [cells_one k2] at k1
      have e2 : v2 = .int .u8 c := k1.1
      subst e1; subst e2
      refine Calls.mono (hc s c w) (fun e w' hp2 => ?_)
      obtain ⟨rfl, rfl⟩ := hp2
      refine ⟨rfl, rfl, rfl, Nat.le_refl _, fun _ _ _ => rfl, fun q => ⟨fun _ => none, [⟨false, [.int .i64 _]⟩], [], ?_, ⟨fun _ _ h => (by cases h), fun _ _ h => (by cases h), fun _ _ _ _ _ h => (by cases h), fun _ _ _ _ _ _ _ h => (by cases h), fun _ _ _ _ _ _ h => (by cases h)⟩, ⟨⟨rfl, trivial⟩, rfl⟩, fun b hb => ?_⟩⟩
      · rw [hr]
        simp [boundVals, h3t, boundCells, l3, a3]
        rfl
      · rcases hb with ⟨_, _, hx, _⟩ | ⟨_, _, _, hx, _⟩
        · cases hx
        · cases hx
  exact ⟨valid_of (ci := ⟨f, [], true, true, []⟩) (main true), valid_of (ci := ⟨f, [], false, true, []⟩) (main false)⟩

end Go.Px
