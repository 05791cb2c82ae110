/-
Px: the operations that make memory, all of them.
-/
import Derived.Test.YtopmcbahdgfleaaGreatPxMem3
namespace Go.Px
set_option linter.unusedVariables false
set_option linter.unusedSimpArgs false

section
variable {E : Env} {N : Nat} {P : Program} {n0 : Nz} {nt : Nat} {β : Nat → Option Nat} {σ : Nat → Option (Nat × Nat)} {s s' : St0 E N} {a : Act} {w w' : World}

theorem bytes_made (hs : Sim P n0 nt β σ s a w) {ctx : List (Nat × Bool)} (hf : Facts a ctx) {id : Nat} (hid : Fresh a s id) {o : Oper} {src dst : TypeId} {x : Operand}
    (hop : o.op = .convert src dst x) {as : List Bool} {r : AC0 E N} {wr : Wr (std E N)} {m m' : Nat} (h : RM.run s (opMem P ctx id (.convert src dst x)) m = .ok ((as, r, wr), m')) :
    MadeOK P n0 β σ s a w o id r wr := by
  simp only [opMem] at h
  obtain ⟨c, m1, h1, h2⟩ := RM.bind_ok h
  obtain ⟨hc, _, _⟩ := evC_ok hs hf h1
  split at h2
  case h_2 => exact (RM.fail_ok h2).elim
  rename_i e str hus hdst _
  split at h2
  case h_2 => exact (RM.fail_ok h2).elim
  rename_i t he hts
  split at h2
  case h_2 => exact (RM.fail_ok h2).elim
  rename_i ht
  have hr := RM.ret_ok h2
  simp only [Prod.mk.injEq] at hr
  obtain ⟨rfl, rfl, rfl⟩ := hr
  have hs1 := lkOf_str hus
  have hd1 := lkOf_sl.1 hdst
  have he1 := lkOf_int he
  have hrun := run_bytes_of_string (P := P) w src dst e str hs1 hd1 he1
  have hge := grownCap_ge w str.size 0 e
  generalize hcap : grownCap w str.size 0 e = cap at hrun hge
  have g : Grow w (w.drew.alloc (.cells (bytesRow str cap) e ((bytesRow str cap).size, (bytesRow str cap).size + 1))) := (Grow.drew w).trans (Grow.alloc _ _)
  have gB := fun n => State.getB_apply0 s ({} : Wr (std E N)) rfl n
  have gH := fun n => State.getH_apply0 s ({} : Wr (std E N)) rfl n
  have sub : Sub s (s.apply ({} : Wr (std E N))) := Sub.of_same gB gH
  have hnew : (w.drew.alloc (.cells (bytesRow str cap) e ((bytesRow str cap).size, (bytesRow str cap).size + 1))).heap[w.heap.size]? = some (.cells (bytesRow str cap) e ((bytesRow str cap).size, (bytesRow str cap).size + 1)) := heap_alloc_at w.drew _
  refine ⟨_, β, σ, _, exec_m (x := convert src dst (a.eval x)) (by simp [execOp, hop]) (by rw [show a.eval x = .string str from hc]; exact hrun), sub.mem (hs.M.grow g), ?_, ⟨fun n hf _ => ?_, fun n b hb _ => by rw [gB] at hb; exact hb, fun n b hb _ => by rw [gH] at hb; exact hb⟩, ?_, fun n _ _ => by simp [AC.names], rfl⟩
  · exact ((g.ext P (· = id) β σ s).trans (sub.ext P (· = id) β σ _)).weaken (fun n h => h.elim (fun h => h) (fun h => h))
  · exact ⟨fun k tv hk => by rw [State.getT_apply0 s _ rfl] at hk; exact hf.t k tv hk, fun k b hb => by rw [gB] at hb; exact hf.b k b hb, fun k b hb => by rw [gH] at hb; exact hf.h k b hb⟩
  · refine ⟨dst, hdst, .sl (fun i _ => .int .u8 ((str.data.toList.getD i 0).toNat : Int)) hdst hts (by simp [bytesOfStr]) (fun r hr => ?_) hge (.inr ⟨w.heap.size, 0, rfl, ⟨fun hm => ?_, Old.new hs.n0le⟩, lt_of_heap hnew, fun i j hi hj => ?_⟩) (fun i j t' hi hj => ?_)⟩
    · obtain ⟨b, _, rfl⟩ := List.mem_map.1 hr; rfl
    · rcases hm with ⟨b, e1, he1, hb⟩ | ⟨i, h1, cap1, hh, _, hb⟩
      · rw [gB] at he1; have := hs.M.ltB he1 hb; omega
      · rw [gH] at hh; have := hs.M.ltH hh hb; omega
    · rw [cell_of_heap hnew]
      have hj0 : j = 0 := by simp at hj; exact hj
      subst hj0
      have hi' : i < str.data.size := hi
      have hi2 : i < (str.data.map (fun b => Value.int .u8 b.toNat)).size := by simpa using hi'
      simp only [Nat.zero_add, List.length_singleton, Nat.mul_one, Nat.add_zero, bytesRow]
      rw [Array.getElem?_append_left hi2]
      simp [List.getD, Array.getElem?_eq_getElem hi']
    · have hj0 : j = 0 := by have := (List.getElem?_eq_some_iff.1 hj).1; simp at this; exact this
      subst hj0
      simp at hj; subst hj
      have hi' : i < str.data.size := hi
      have : pvAt (bytesOfStr str) i 0 = .int ((str.data.toList.getD i 0).toNat : Int) := by
        have hi3 : i < str.data.toList.length := by simpa using hi'
        simp only [pvAt, rowAt, cellAt, bytesOfStr, List.getD, List.getElem?_map, List.getElem?_eq_getElem hi3]
        rfl
      rw [this]
      exact .int ht

theorem opMem_ok (hs : Sim P n0 nt β σ s a w) {ctx : List (Nat × Bool)} (hf : Facts a ctx) {id : Nat} (hid : Fresh a s id) {o : Oper} {as : List Bool} {r : AC0 E N} {wr : Wr (std E N)} {m m' : Nat}
    (h : RM.run s (opMem P ctx id o.op) m = .ok ((as, r, wr), m')) (has : ∀ b ∈ as, b = true) : MadeOK P n0 β σ s a w o id r wr := by
  cases hop : o.op with
  | alloc T =>
    rw [hop] at h
    simp only [opMem] at h
    split at h
    · rename_i z hz
      obtain ⟨_, m1, h1, h2⟩ := RM.bind_ok h
      have hr := RM.ret_ok h2
      simp only [Prod.mk.injEq] at hr
      obtain ⟨rfl, rfl, rfl⟩ := hr
      obtain ⟨ti, v, hi, hiz, hzv, hrz, hnz, hoz⟩ := zeroV_spec (n0 := n0) (β := β) (σ := σ) (s := s) (w := w) hz
      refine box_made hs hid (T := T) hrz.1 (fun n _ => by rw [hnz]; simp) ?_
      refine exec_m (x := Instr.alloc T true (.tuple #[])) (by simp [execOp, hop]) ?_
      simp [Instr.alloc, hzv, newVar, newRow]
    · exact (RM.fail_ok h).elim
  | box T x =>
    rw [hop] at h
    simp only [opMem] at h
    obtain ⟨v, m1, h1, h2⟩ := RM.bind_ok h
    have hr := RM.ret_ok h2
    simp only [Prod.mk.injEq] at hr
    obtain ⟨rfl, rfl, rfl⟩ := hr
    obtain ⟨hv, hn⟩ := evV_ok hs hf h1
    refine box_made hs hid (T := T) hv.1 hn ?_
    refine exec_m (x := Instr.box T (a.eval x)) (by simp [execOp, hop]) ?_
    simp [Instr.box, newVar, newRow]
  | buildSlice T len parts => rw [hop] at h; exact buildSlice_made hs hf hid hop h
  | makeSlice T len cap => rw [hop] at h; exact makeSlice_made hs hf hid hop h has
  | convert src dst x => rw [hop] at h; exact bytes_made hs hf hid hop h
  | call c =>
    rw [hop] at h
    have hb : c.callee = .builtin .append := by
      simp only [opMem] at h
      split at h
      · rename_i hc _ _; exact hc
      · exact (RM.fail_ok h).elim
    exact append_made hs hf hid hop hb h has
  | _ => rw [hop] at h; exact (RM.fail_ok h).elim

end
end Go.Px
