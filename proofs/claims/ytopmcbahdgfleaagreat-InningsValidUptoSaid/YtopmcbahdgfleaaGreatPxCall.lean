/-
Px: calls by contract: the arguments.
-/
import Derived.Test.YtopmcbahdgfleaaGreatPxStore
namespace Go.Px
set_option linter.unusedVariables false
set_option linter.unusedSimpArgs false

def RelArgs {E : Env} {N : Nat} (P : Program) (n0 : Nz) (β : Nat → Option Nat) (σ : Nat → Option (Nat × Nat)) (s : St0 E N) (w : World) : List (AV (std E N)) → List Value → Prop
  | [], [] => True
  | x :: xs, v :: vs => RelAV P n0 β σ s w x v ∧ RelArgs P n0 β σ s w xs vs
  | _, _ => False

def noB : Nat → Option Nat := fun _ => none

/-- A state of owned slices alone. -/
def hpSt {E : Env} {N : Nat} (hs : List (Nat × HEnt (std E N))) : St0 E N := ⟨.e, [], hs, 0⟩

/-- What a call by contract comes to. -/
def Ret {E : Env} {N : Nat} (P : Program) (ci : CI) (n0 : Nz) (σ : Nat → Option (Nat × Nat)) (s0 : St0 E N) (w : World) (fn : Func) (rs : List PV) : Ending → World → Prop
  | .returned v, w' => w'.os = w.os ∧ w'.tape = w.tape ∧ w'.output = w.output ∧ w.heap.size ≤ w'.heap.size ∧ (∀ b, b < w.heap.size → ¬ InM noB σ s0 b → w'.heap[b]? = w.heap[b]?) ∧
      ∀ q, ∃ (σ' : Nat → Option (Nat × Nat)) (vs : List (Val (std E N))) (hs : List (Nat × HEnt (std E N))), boundVals (O := std E N) P ci.own ci.nw rs 0 q fn.resultTypes.toList = some (vs, hs) ∧
        Mem P n0 noB σ' (hpSt hs) w' ∧ RelAV P n0 noB σ' (hpSt hs) w' (avOf vs) v ∧ ∀ b, InM noB σ' (hpSt hs) b → InM noB σ s0 b ∨ w.heap.size ≤ b
  | _, _ => False

/-- A contract holds. -/
def Valid (P : Program) (E : Env) (N : Nat) (ci : CI) : Prop :=
  ∀ fn, P.funcs[ci.f]? = some fn → ∀ (ls rs : List PV), E ci.f ci.fns ls = some rs → ∀ (vs : List (AV (std E N))) (hs : List (Nat × HEnt (std E N))),
    argVals (O := std E N) P ci.gives 1 fn.params.toList ci.fns (ls.map PV.leaf) = some (vs, hs) → ∀ (n0 : Nz) (σ : Nat → Option (Nat × Nat)) (w : World) (args : List Value), n0.n = w.heap.size →
    Mem P n0 noB σ (hpSt hs) w → RelArgs P n0 noB σ (hpSt hs) w vs args → Calls P ci.f args.toArray w (Ret (E := E) (N := N) P ci n0 σ (hpSt hs) w fn rs)

section
variable {E : Env} {N : Nat} {P : Program} {n0 n0' : Nz} {nt : Nat} {β β' : Nat → Option Nat} {σ σ' : Nat → Option (Nat × Nat)} {s s' : St0 E N} {a : Act} {w w' : World}

/-- An owned slice seen from elsewhere. -/
theorem RelH.view {id q : Nat} {h0 h1 : HEnt (std E N)} (h : RelH P n0 β σ s w id h0) (he : h1.e = h0.e) (hl : h1.l = h0.l) (hs : σ' q = σ id)
    (ho : ∀ blk cap, σ id = some (blk, cap) → Old n0 h0.nw blk → Old n0' h1.nw blk) (hst : ∀ b, StB n0 β σ s h0.nw b → StB n0' β' σ' s' h1.nw b) : RelH P n0' β' σ' s' w q h1 := by
  obtain ⟨t, ts, ht, hts, hrl, hm⟩ := h
  refine ⟨t, ts, by rw [he]; exact ht, by rw [he]; exact hts, by rw [hl]; exact hrl, ?_⟩
  rcases hm with ⟨h1, h2⟩ | ⟨blk, cap, cells, el, ha, hheap, hel, hc, hd, hnw, v, hv, hrep⟩
  · exact .inl ⟨by rw [hs]; exact h1, by rw [hl]; exact h2⟩
  · refine .inr ⟨blk, cap, cells, el, by rw [hs]; exact ha, hheap, by rw [he]; exact hel, hc, by rw [hl]; exact hd, ho blk cap ha hnw, v, by rw [hl]; exact hv, fun i j t' hi hj => ?_⟩
    rw [hl] at hi ⊢
    exact (hrep i j t' hi hj).st hst

/-- Where an owned slice comes from: no slice, or one of the state. -/
def Gent (P : Program) (s : St0 E N) (h' : HEnt (std E N)) : Option Nat → Prop
  | none => h'.l = [] ∧ ∃ t ts, lkOf P t = .sl h'.e ∧ tysOf P h'.e = some ts
  | some id => ∃ h, s.getH id = some h ∧ h'.e = h.e ∧ h'.l = h.l ∧ h.frozen = false ∧ (h'.nw = true → h.nw = true)

def Ents (P : Program) (s : St0 E N) : Nat → List (Option Nat) → List (Nat × HEnt (std E N)) → Prop
  | _, [], [] => True
  | q, o :: os, (k, h') :: r => k = q ∧ h'.frozen = false ∧ Gent P s h' o ∧ Ents P s (q + 1) os r
  | _, _, _ => False

def Wired (σ σc : Nat → Option (Nat × Nat)) (s0 : St0 E N) : Nat → List (Option Nat) → List (Nat × HEnt (std E N)) → Prop
  | q, o :: os, (_, h') :: r => σc q = o.bind σ ∧ s0.getH q = some h' ∧ Wired σ σc s0 (q + 1) os r
  | _, _, _ => True

theorem Ents.len : ∀ {q : Nat} {os : List (Option Nat)} {r : List (Nat × HEnt (std E N))}, Ents P s q os r → os.length = r.length
  | _, [], [], _ => rfl
  | _, _ :: _, (_, _) :: _, h => by simp [Ents.len h.2.2.2]
  | _, [], _ :: _, h => h.elim
  | _, _ :: _, [], h => h.elim

theorem Ents.append : ∀ {q : Nat} {os os' : List (Option Nat)} {r r' : List (Nat × HEnt (std E N))}, Ents P s q os r → Ents P s (q + r.length) os' r' → Ents P s q (os ++ os') (r ++ r')
  | _, [], _, [], _, _, h => by simpa using h
  | q, o :: os, _, (k, h') :: r, _, h, h2 => ⟨h.1, h.2.1, h.2.2.1, Ents.append h.2.2.2 (by simpa [Nat.add_assoc, Nat.add_comm 1] using h2)⟩
  | _, [], _, _ :: _, _, h, _ => h.elim
  | _, _ :: _, _, [], _, h, _ => h.elim

theorem Wired.left {σc : Nat → Option (Nat × Nat)} {s0 : St0 E N} : ∀ {q : Nat} {os os' : List (Option Nat)} {r r' : List (Nat × HEnt (std E N))}, os.length = r.length → Wired σ σc s0 q (os ++ os') (r ++ r') → Wired σ σc s0 q os r
  | _, [], _, [], _, _, _ => trivial
  | q, o :: os, _, (k, h') :: r, _, hl, h => ⟨h.1, h.2.1, Wired.left (by simpa using hl) h.2.2⟩
  | _, [], _, _ :: _, _, hl, _ => by simp at hl
  | _, _ :: _, _, [], _, hl, _ => by simp at hl

theorem Wired.right {σc : Nat → Option (Nat × Nat)} {s0 : St0 E N} : ∀ {q : Nat} {os os' : List (Option Nat)} {r r' : List (Nat × HEnt (std E N))}, os.length = r.length → Wired σ σc s0 q (os ++ os') (r ++ r') → Wired σ σc s0 (q + r.length) os' r'
  | _, [], _, [], _, _, h => by simpa using h
  | q, o :: os, _, (k, h') :: r, _, hl, h => by
    have := Wired.right (by simpa using hl) h.2.2
    simpa [Nat.add_assoc, Nat.add_comm 1] using this
  | _, [], _, _ :: _, _, hl, _ => by simp at hl
  | _, _ :: _, _, [], _, hl, _ => by simp at hl

/-- The header of an owned slice, under its new name. -/
theorem own_wired {σc : Nat → Option (Nat × Nat)} {s0 : St0 E N} {q id : Nat} {e : TypeId} {v : Value} {h h' : HEnt (std E N)} (hc : RelC P n0 β σ s w (.own e id) v) (hh : s.getH id = some h) (he : h'.e = h.e) (hl : h'.l = h.l)
    (hs : σc q = σ id) (hg : s0.getH q = some h') : RelC P n0' β' σc s0 w' (.own e q) v := by
  obtain ⟨h1, h2⟩ := hc
  obtain ⟨e1, o1⟩ := h2 h hh
  refine ⟨h1, fun h3 hh3 => ?_⟩
  rw [hg] at hh3; cases hh3
  refine ⟨he.trans e1, ?_⟩
  unfold OwnV at o1 ⊢
  rw [hs, hl]; exact o1

theorem give_made (m : Mem P n0 β σ s w) : ∀ {ts : List TypeId} {cs : List (AC0 E N)} {vals : List Value} {used u : List Nat} {ls : List SLeaf} {k k' : Nat}, RelCs P n0 β σ s w cs vals → rowKind1 P ts cs = true →
    RM.run s (giveLfs (O := std E N) used cs) k = .ok ((ls, u), k') → ∀ (q : Nat) (rest : List SLeaf), ∃ (cs' : List (AC0 E N)) (nh : List (Nat × HEnt (std E N))) (ids : List (Option Nat)),
      argCells (O := std E N) P true q ts (ls ++ rest) = some (cs', nh, rest) ∧ Ents P s q ids nh ∧ (∀ n ∈ u, n ∈ used ∨ some n ∈ ids) ∧ (∀ n ∈ used, n ∈ u) ∧ (∀ n, some n ∈ ids → n ∈ u ∧ n ∉ used) ∧ (ids.filterMap id).Nodup ∧ (∀ p ∈ nh, p.2.nw = false) ∧
      ∀ (n0c : Nz) (σc : Nat → Option (Nat × Nat)) (s0 : St0 E N), Wired σ σc s0 q ids nh → RelCs P n0c noB σc s0 w cs' vals
  | [], [], [], used, u, ls, k, k', _, _, h => by
    cases RM.ret_ok h
    intro q rest
    exact ⟨[], [], [], rfl, trivial, fun n hn => .inl hn, fun n hn => hn, fun n hn => by simp at hn, List.nodup_nil, fun p hp => by simp at hp, fun _ _ _ _ => trivial⟩
  | t :: ts, c :: cs, v :: vals, used, u, ls, k, k', hc, hk, h => by
    simp only [rowKind1] at hk
    split at hk
    case h_2 => cases hk
    rename_i hk1
    intro q rest
    cases c with
    | int kk i =>
      obtain ⟨⟨l, fr, nw⟩, k1, h1, h2⟩ := RM.bind_ok h
      obtain ⟨⟨ls2, u2⟩, k2, h3, h4⟩ := RM.bind_ok h2
      cases RM.ret_ok h1; cases RM.ret_ok h4
      obtain ⟨cs', nh, ids, a1, a2, a3, a4, a5, a6, a8, a7⟩ := give_made m hc.2 hk h3 q rest
      cases hl : lkOf P t <;> rw [hl] at hk1 <;> simp [rowKind] at hk1
      have hkk := ikEq_iff.1 hk1
      rw [hkk] at hl
      refine ⟨.int kk i :: cs', nh, ids, by simp [argCells, hl, a1], a2, a3, a4, a5, a6, a8, fun n0c σc s0 hw => ⟨?_, a7 n0c σc s0 hw⟩⟩
      have hv : v = .int kk i := hc.1
      exact hv
    | bool b =>
      obtain ⟨⟨l, fr, nw⟩, k1, h1, h2⟩ := RM.bind_ok h
      obtain ⟨⟨ls2, u2⟩, k2, h3, h4⟩ := RM.bind_ok h2
      cases RM.ret_ok h1; cases RM.ret_ok h4
      obtain ⟨cs', nh, ids, a1, a2, a3, a4, a5, a6, a8, a7⟩ := give_made m hc.2 hk h3 q rest
      cases hl : lkOf P t <;> rw [hl] at hk1 <;> simp [rowKind] at hk1
      refine ⟨.bool b :: cs', nh, ids, by simp [argCells, hl, a1], a2, a3, a4, a5, a6, a8, fun n0c σc s0 hw => ⟨?_, a7 n0c σc s0 hw⟩⟩
      have hv : v = .bool b := hc.1
      exact hv
    | str x =>
      obtain ⟨⟨l, fr, nw⟩, k1, h1, h2⟩ := RM.bind_ok h
      obtain ⟨⟨ls2, u2⟩, k2, h3, h4⟩ := RM.bind_ok h2
      cases RM.ret_ok h1; cases RM.ret_ok h4
      obtain ⟨cs', nh, ids, a1, a2, a3, a4, a5, a6, a8, a7⟩ := give_made m hc.2 hk h3 q rest
      cases hl : lkOf P t <;> rw [hl] at hk1 <;> simp [rowKind] at hk1
      refine ⟨.str x :: cs', nh, ids, by simp [argCells, hl, a1], a2, a3, a4, a5, a6, a8, fun n0c σc s0 hw => ⟨?_, a7 n0c σc s0 hw⟩⟩
      have hv : v = .string x := hc.1
      exact hv
    | nil e =>
      obtain ⟨⟨l, fr, nw⟩, k1, h1, h2⟩ := RM.bind_ok h
      obtain ⟨⟨ls2, u2⟩, k2, h3, h4⟩ := RM.bind_ok h2
      cases RM.ret_ok h1; cases RM.ret_ok h4
      obtain ⟨cs', nh, ids, a1, a2, a3, a4, a5, a6, a8, a7⟩ := give_made m hc.2 hk h3 (q + 1) rest
      cases hl : lkOf P t <;> rw [hl] at hk1 <;> simp [rowKind] at hk1
      rename_i e2
      subst hk1
      obtain ⟨t0, ts0, ht0, hts0, av, hv⟩ := hc.1
      refine ⟨.own e2 q :: cs', (q, { e := e2, frozen := false, nw := false, l := [], dirty := true }) :: nh, none :: ids, by simp [argCells, hl, a1], ⟨rfl, rfl, ⟨rfl, t0, ts0, ht0, hts0⟩, a2⟩, fun n hn => ?_, a4, fun n hn => ?_, by simpa using a6,
        fun p hp => ?_, fun n0c σc s0 hw => ⟨⟨⟨_, _, _, hv⟩, fun h3 hh3 => ?_⟩, a7 n0c σc s0 hw.2.2⟩⟩
      · exact (a3 n hn).imp (fun h => h) (fun h => List.mem_cons_of_mem _ h)
      · simp at hn; exact a5 n hn
      · rcases List.mem_cons.1 hp with rfl | hp
        · rfl
        · exact a8 p hp
      · rw [hw.2.1] at hh3; cases hh3
        exact ⟨rfl, .inr ⟨hw.1, rfl, av, hv⟩⟩
    | own e id =>
      obtain ⟨k1, h1⟩ := RM.h_ok h
      cases hh : s.getH id with
      | none => rw [hh] at h1; exact (RM.fail_ok h1).elim
      | some en =>
        rw [hh] at h1
        simp only at h1
        split at h1
        case h_2 => exact (RM.fail_ok h1).elim
        rename_i hg
        simp only [Bool.and_eq_true, Bool.not_eq_true'] at hg
        obtain ⟨⟨ls2, u2⟩, k2, h3, h4⟩ := RM.bind_ok h1
        cases RM.ret_ok h4
        obtain ⟨cs', nh, ids, a1, a2, a3, a4, a5, a6, a8, a7⟩ := give_made m hc.2 hk h3 (q + 1) rest
        cases hl : lkOf P t <;> rw [hl] at hk1 <;> simp [rowKind] at hk1
        rename_i e2
        subst hk1
        have hnu : id ∉ used := fun hm => by have := memN_iff.2 hm; rw [this] at hg; cases hg.2
        obtain ⟨hc1, hc2⟩ := hc.1
        have he := (hc2 en hh).1
        refine ⟨.own e2 q :: cs', (q, { e := e2, frozen := false, nw := false, l := en.l, dirty := true }) :: nh, some id :: ids, by simp [argCells, hl, a1], ⟨rfl, rfl, ⟨en, hh, he.symm, rfl, hg.1, fun h => by cases h⟩, a2⟩, fun n hn => ?_, fun n hn => a4 n (List.mem_cons_of_mem _ hn), fun n hn => ?_, ?_,
          fun p hp => ?_, fun n0c σc s0 hw => ⟨own_wired (h' := { e := e2, frozen := false, nw := false, l := en.l, dirty := true }) hc.1 hh he.symm rfl hw.1 hw.2.1, a7 n0c σc s0 hw.2.2⟩⟩
        · rcases a3 n hn with h | h
          · rcases List.mem_cons.1 h with rfl | h
            · exact .inr List.mem_cons_self
            · exact .inl h
          · exact .inr (List.mem_cons_of_mem _ h)
        · rcases List.mem_cons.1 hn with h | h
          · cases h; exact ⟨a4 id List.mem_cons_self, hnu⟩
          · exact ⟨(a5 n h).1, fun hm => (a5 n h).2 (List.mem_cons_of_mem _ hm)⟩
        · show (id :: ids.filterMap _root_.id).Nodup
          refine List.nodup_cons.2 ⟨fun hm => ?_, a6⟩
          have : some id ∈ ids := by simpa using hm
          exact (a5 id this).2 List.mem_cons_self
        · rcases List.mem_cons.1 hp with rfl | hp
          · rfl
          · exact a8 p hp
    | imm e nw l => exact (RM.fail_ok h).elim
    | _ =>
      obtain ⟨⟨l, fr, nw⟩, k1, h1, h2⟩ := RM.bind_ok h
      exact (RM.fail_ok h1).elim
  | [], _ :: _, _, _, _, _, _, _, _, hk, _ => by simp [rowKind1] at hk
  | _ :: _, [], _, _, _, _, _, _, _, hk, _ => by simp [rowKind1] at hk
  | _, [], _ :: _, _, _, _, _, _, hc, _, _ => hc.elim
  | _, _ :: _, [], _, _, _, _, _, hc, _, _ => hc.elim

/-- Cells that are not handed over. -/
theorem keep_made (m : Mem P n0 β σ s w) : ∀ {ts : List TypeId} {cs : List (AC0 E N)} {vals : List Value} {ls : List SLeaf} {fr : List (Nat × Option (HEnt (std E N)))} {nw : Bool} {k k' : Nat}, RelCs P n0 β σ s w cs vals → rowKind1 P ts cs = true →
    RM.run s (toLfs (O := std E N) cs) k = .ok ((ls, fr, nw), k') → ∀ (q : Nat) (rest : List SLeaf), FrOK s fr ∧ (∀ x ∈ fr, x.1 ∈ namesCs cs) ∧ ∃ (cs' : List (AC0 E N)),
      argCells (O := std E N) P false q ts (ls ++ rest) = some (cs', [], rest) ∧
      ∀ (s1 : St0 E N) (n0c : Nz) (σc : Nat → Option (Nat × Nat)) (s0 : St0 E N), Sub s s1 → Frz s1 fr → (∀ b, StB n0 β σ s1 false b → StB n0c noB σc s0 false b) → RelCs P n0c noB σc s0 w cs' vals
  | [], [], [], ls, fr, nw, k, k', _, _, h => by
    cases RM.ret_ok h
    intro q rest
    exact ⟨fun _ _ hm => by simp at hm, fun _ hm => by simp at hm, [], rfl, fun _ _ _ _ _ _ _ => trivial⟩
  | t :: ts, c :: cs, v :: vals, ls, fr, nw, k, k', hc, hk, h => by
    simp only [rowKind1] at hk
    split at hk
    case h_2 => cases hk
    rename_i hk1
    intro q rest
    obtain ⟨⟨l, f1, n1⟩, k1, h1, h2⟩ := RM.bind_ok h
    obtain ⟨⟨ls2, f2, n2⟩, k2, h3, h4⟩ := RM.bind_ok h2
    have hr := RM.ret_ok h4
    simp only [Prod.mk.injEq] at hr
    obtain ⟨rfl, rfl, rfl⟩ := hr
    obtain ⟨a1, a2, a3⟩ := toLf_ok m hc.1 h1
    obtain ⟨b1, b2, cs', b3, b4⟩ := keep_made m hc.2 hk h3 q rest
    refine ⟨a1.append b1, fun x hx => ?_, ?_⟩
    · rcases List.mem_append.1 hx with h | h
      · simp [namesCs, a2 x h]
      · simp [namesCs, b2 x h]
    · have rep : ∀ (s1 : St0 E N), Sub s s1 → Frz s1 (f1 ++ f2) → Rep P w (StB n0 β σ s1 false) t v l.pv := fun s1 hs hf =>
        a3 t s1 hk1 hs (fun x hx h hh => by obtain ⟨h', e1, e2⟩ := hf.left x hx; rw [e1] at hh; cases hh; exact e2)
          (fun x hx => by obtain ⟨h', e1, _⟩ := hf.left x hx; exact ⟨h', e1⟩) false (fun e => by cases e)
      have sl : ∀ (e : TypeId) (r : Rows), lkOf P t = .sl e → l = .rows r → ∃ (cs' : List (AC0 E N)),
          argCells (O := std E N) P false q (t :: ts) (l :: ls2 ++ rest) = some (cs', [], rest) ∧
          ∀ (s1 : St0 E N) (n0c : Nz) (σc : Nat → Option (Nat × Nat)) (s0 : St0 E N), Sub s s1 → Frz s1 (f1 ++ f2) → (∀ b, StB n0 β σ s1 false b → StB n0c noB σc s0 false b) → RelCs P n0c noB σc s0 w cs' (v :: vals) := fun e r hl hlr => by
        subst hlr
        exact ⟨.imm e false r :: cs', by simp [argCells, hl, b3], fun s1 n0c σc s0 hs hf hst => ⟨⟨t, hl, (rep s1 hs hf).st hst⟩, b4 s1 n0c σc s0 hs hf.right hst⟩⟩
      cases c with
      | int kk i =>
        cases RM.ret_ok h1
        cases hl : lkOf P t <;> rw [hl] at hk1 <;> simp [rowKind] at hk1
        have hkk := ikEq_iff.1 hk1
        rw [hkk] at hl
        have hv : v = .int kk i := hc.1
        exact ⟨.int kk i :: cs', by simp [argCells, hl, b3], fun s1 n0c σc s0 hs hf hst => ⟨hv, b4 s1 n0c σc s0 hs hf.right hst⟩⟩
      | bool b =>
        cases RM.ret_ok h1
        cases hl : lkOf P t <;> rw [hl] at hk1 <;> simp [rowKind] at hk1
        have hv : v = .bool b := hc.1
        exact ⟨.bool b :: cs', by simp [argCells, hl, b3], fun s1 n0c σc s0 hs hf hst => ⟨hv, b4 s1 n0c σc s0 hs hf.right hst⟩⟩
      | str x =>
        cases RM.ret_ok h1
        cases hl : lkOf P t <;> rw [hl] at hk1 <;> simp [rowKind] at hk1
        have hv : v = .string x := hc.1
        exact ⟨.str x :: cs', by simp [argCells, hl, b3], fun s1 n0c σc s0 hs hf hst => ⟨hv, b4 s1 n0c σc s0 hs hf.right hst⟩⟩
      | nil e =>
        cases RM.ret_ok h1
        cases hl : lkOf P t <;> rw [hl] at hk1 <;> simp [rowKind] at hk1
        exact sl _ _ hl rfl
      | imm e nw l =>
        cases RM.ret_ok h1
        cases hl : lkOf P t <;> rw [hl] at hk1 <;> simp [rowKind] at hk1
        exact sl _ _ hl rfl
      | own e id =>
        obtain ⟨k1, h1⟩ := RM.h_ok h1
        cases hh : s.getH id with
        | none => rw [hh] at h1; exact (RM.fail_ok h1).elim
        | some en =>
          rw [hh] at h1
          cases RM.ret_ok h1
          cases hl : lkOf P t <;> rw [hl] at hk1 <;> simp [rowKind] at hk1
          exact sl _ _ hl rfl
      | _ => exact (RM.fail_ok h1).elim
  | [], _ :: _, _, _, _, _, _, _, _, hk, _ => by simp [rowKind1] at hk
  | _ :: _, [], _, _, _, _, _, _, _, hk, _ => by simp [rowKind1] at hk
  | _, [], _ :: _, _, _, _, _, _, hc, _, _ => hc.elim
  | _, _ :: _, [], _, _, _, _, _, hc, _, _ => hc.elim

def fnV (v : Val (std E N)) : Option Nat := match v with
  | ⟨false, [.fn f []]⟩ => some f
  | _ => none

theorem fnV_some {v : Val (std E N)} {f : Nat} (h : fnV v = some f) : v = ⟨false, [.fn f []]⟩ := by
  unfold fnV at h
  split at h
  · cases h; rfl
  · cases h

theorem argLf_val {gv : List Bool} {used : List Nat} {v : Val (std E N)} {r : List (AV (std E N))} (h : fnV v = none) : argLf gv used (.val v :: r) = match gv.headD false with
    | true => (giveLfs used v.cs).bind fun (ls, u) => (argLf gv.tail u r).bind fun (ls', fr, u') => .ret (ls ++ ls', fr, u')
    | false => (toLfs v.cs).bind fun (ls, fr, _) => (argLf gv.tail used r).bind fun (ls', fr', u') => .ret (ls ++ ls', fr ++ fr', u') := by
  rcases v with ⟨_ | _, _ | ⟨c, _ | ⟨d, l⟩⟩⟩ <;> try rfl
  · cases c with
    | fn f caps => cases caps with
      | nil => cases h
      | cons => rfl
    | _ => rfl
  · cases c with
    | fn f caps => cases caps <;> rfl
    | _ => rfl

theorem argFns_val {v : Val (std E N)} {r : List (AV (std E N))} (h : fnV v = none) : argFns (.val v :: r) = match v.cs.all isData with
    | true => argFns r
    | false => none := by
  rcases v with ⟨_ | _, _ | ⟨c, _ | ⟨d, l⟩⟩⟩ <;> try rfl
  · cases c with
    | fn f caps => cases caps with
      | nil => cases h
      | cons => rfl
    | _ => rfl
  · cases c with
    | fn f caps => cases caps <;> rfl
    | _ => rfl

theorem argsOk_val {t : TypeId} {ts : List TypeId} {v : Val (std E N)} {r : List (AV (std E N))} (h : fnV v = none) (ha : argsOk P (t :: ts) (.val v :: r) = true) :
    lkOf P t ≠ .fn ∧ ∃ l, tysOf P t = some l ∧ v.agg = isAggT P t ∧ rowKind1 P l v.cs = true ∧ argsOk P ts r = true := by
  simp only [argsOk, Bool.and_eq_true] at ha
  obtain ⟨ha, hr⟩ := ha
  have key : lkOf P t ≠ .fn ∧ (match tysOf P t with
      | some l => v.agg == isAggT P t && rowKind1 P l v.cs
      | none => false) = true := by
    rcases v with ⟨_ | _, _ | ⟨c, _ | ⟨d, l⟩⟩⟩
    · cases hl : lkOf P t <;> rw [hl] at ha <;> first | exact ⟨by simp, ha⟩ | cases ha
    · cases c with
      | fn f caps => cases caps with
        | nil => cases h
        | cons => cases hl : lkOf P t <;> rw [hl] at ha <;> first | exact ⟨by simp, ha⟩ | cases ha
      | _ => cases hl : lkOf P t <;> rw [hl] at ha <;> first | exact ⟨by simp, ha⟩ | cases ha
    · cases c with
      | fn f caps => cases caps <;> cases hl : lkOf P t <;> rw [hl] at ha <;> first | exact ⟨by simp, ha⟩ | cases ha
      | _ => cases hl : lkOf P t <;> rw [hl] at ha <;> first | exact ⟨by simp, ha⟩ | cases ha
    all_goals (cases hl : lkOf P t <;> rw [hl] at ha <;> first | exact ⟨by simp, ha⟩ | cases ha)
  refine ⟨key.1, ?_⟩
  have k2 := key.2
  split at k2
  · rename_i l htl
    simp only [Bool.and_eq_true, beq_iff_eq] at k2
    exact ⟨l, htl, k2.1, k2.2, hr⟩
  · cases k2

theorem argsOk_fn {t : TypeId} {ts : List TypeId} {f : Nat} {r : List (AV (std E N))} (ha : argsOk P (t :: ts) (.val ⟨false, [.fn f []]⟩ :: r) = true) : lkOf P t = .fn ∧ argsOk P ts r = true := by
  simp only [argsOk, Bool.and_eq_true] at ha
  obtain ⟨ha, hr⟩ := ha
  refine ⟨?_, hr⟩
  cases hl : lkOf P t <;> rw [hl] at ha <;> first | rfl | (simp at ha)

/-- All arguments. -/
theorem args_made (m : Mem P n0 β σ s w) : ∀ {params : List TypeId} {args : List (AV (std E N))} {vals : List Value} {gives : List Bool} {fns : List Nat} {used u : List Nat} {ls : List SLeaf} {fr : List (Nat × Option (HEnt (std E N)))} {k k' : Nat},
    RelArgs P n0 β σ s w args vals → argsOk P params args = true → argFns args = some fns → RM.run s (argLf (O := std E N) gives used args) k = .ok ((ls, fr, u), k') →
    ∀ (q : Nat), FrOK s fr ∧ ∃ (vs : List (AV (std E N))) (nh : List (Nat × HEnt (std E N))) (ids : List (Option Nat)),
      argVals (O := std E N) P gives q params fns ls = some (vs, nh) ∧ Ents P s q ids nh ∧ (∀ n ∈ u, n ∈ used ∨ some n ∈ ids) ∧ (∀ n ∈ used, n ∈ u) ∧ (∀ n, some n ∈ ids → n ∈ u ∧ n ∉ used) ∧ (ids.filterMap id).Nodup ∧ (∀ p ∈ nh, p.2.nw = false) ∧
      ∀ (s1 : St0 E N) (n0c : Nz) (σc : Nat → Option (Nat × Nat)) (s0 : St0 E N), Sub s s1 → Frz s1 fr → (∀ b, StB n0 β σ s1 false b → StB n0c noB σc s0 false b) → Wired σ σc s0 q ids nh → RelArgs P n0c noB σc s0 w vs vals
  | [], [], [], gives, fns, used, u, ls, fr, k, k', _, _, hf, h => by
    cases RM.ret_ok h
    simp only [argFns] at hf; cases hf
    intro q
    exact ⟨fun _ _ hm => by simp at hm, [], [], [], rfl, trivial, fun n hn => .inl hn, fun n hn => hn, fun n hn => by simp at hn, List.nodup_nil, fun p hp => by simp at hp, fun _ _ _ _ _ _ _ _ => trivial⟩
  | t :: params, .tup y :: args, v :: vals, gives, fns, used, u, ls, fr, k, k', hr, ha, hf, h => by simp [argFns] at hf
  | t :: params, .val y :: args, v :: vals, gives, fns, used, u, ls, fr, k, k', hr, ha, hf, h => by
    intro q
    cases hy : fnV y with
    | some f =>
      have := fnV_some hy; subst this
      obtain ⟨hl, ha2⟩ := argsOk_fn ha
      simp only [argFns, Option.map_eq_some_iff] at hf
      obtain ⟨fns2, hf2, rfl⟩ := hf
      obtain ⟨b0, vs, nh, ids, b1, b2, b3, b4, b5, b6, b7, b8⟩ := args_made m hr.2 ha2 hf2 (gives := gives.tail) h q
      refine ⟨b0, one (.fn f []) :: vs, nh, ids, by simp [argVals, hl, b1], b2, b3, b4, b5, b6, b7, fun s1 n0c σc s0 hs hfz hst hw => ⟨?_, b8 s1 n0c σc s0 hs hfz hst hw⟩⟩
      refine ⟨?_, hr.1.2⟩
      have h1 := hr.1.1
      revert h1
      generalize v.cells.toList = L
      intro h1
      match L, h1 with
      | [z], h1 =>
        obtain ⟨vs2, e1, e2, _⟩ := h1.1
        exact ⟨⟨vs2, e1, e2, fun i b o hc => by simp at hc⟩, trivial⟩
    | none =>
      obtain ⟨hl, l, htl, hag, hk, ha2⟩ := argsOk_val hy ha
      have hf2 : argFns args = some fns := by
        rw [argFns_val hy] at hf
        split at hf
        · exact hf
        · cases hf
      rw [argLf_val hy] at h
      split at h
      · rename_i hg
        obtain ⟨⟨ls1, u1⟩, k1, h1, h2⟩ := RM.bind_ok h
        obtain ⟨⟨ls2, fr2, u2⟩, k2, h3, h4⟩ := RM.bind_ok h2
        cases RM.ret_ok h4
        obtain ⟨cs', nh1, ids1, a1, a2, a3, a4, a5, a6, a8, a7⟩ := give_made m hr.1.1 hk h1 q ls2
        obtain ⟨b0, vs, nh2, ids2, b1, b2, b3, b4, b5, b6, b7, b8⟩ := args_made m hr.2 ha2 hf2 h3 (q + nh1.length)
        have hlen := a2.len
        refine ⟨b0, .val { agg := isAggT P t, cs := cs' } :: vs, nh1 ++ nh2, ids1 ++ ids2, ?_, a2.append b2, fun n hn => ?_, fun n hn => b4 n (a4 n hn), fun n hn => ?_, ?_, fun p hp => (List.mem_append.1 hp).elim (a8 p) (b7 p), fun s1 n0c σc s0 hs hfz hst hw => ⟨⟨a7 n0c σc s0 (hw.left hlen), ?_⟩, b8 s1 n0c σc s0 hs hfz hst (hw.right hlen)⟩⟩
        · have hg' : gives.headD false = true := hg
          cases hl2 : lkOf P t <;> first | (exact absurd hl2 hl) | (simp only [argVals, hl2, htl, hg', a1, b1]; rfl)
        · rcases b3 n hn with h | h
          · rcases a3 n h with h | h
            · exact .inl h
            · exact .inr (List.mem_append_left _ h)
          · exact .inr (List.mem_append_right _ h)
        · rcases List.mem_append.1 hn with h | h
          · exact ⟨b4 n (a5 n h).1, (a5 n h).2⟩
          · exact ⟨(b5 n h).1, fun hm => (b5 n h).2 (a4 n hm)⟩
        · rw [List.filterMap_append]
          refine List.nodup_append.2 ⟨a6, b6, fun x hx y hy hxy => ?_⟩
          have hx2 : some x ∈ ids1 := by simpa using hx
          have hy2 : some y ∈ ids2 := by simpa using hy
          exact (b5 y hy2).2 (hxy ▸ (a5 x hx2).1)
        · rw [← hag]; exact hr.1.2
      · rename_i hg
        obtain ⟨⟨ls1, f1, nw1⟩, k1, h1, h2⟩ := RM.bind_ok h
        obtain ⟨⟨ls2, fr2, u2⟩, k2, h3, h4⟩ := RM.bind_ok h2
        cases RM.ret_ok h4
        obtain ⟨a1, a2, cs', a3, a4⟩ := keep_made m hr.1.1 hk h1 q ls2
        obtain ⟨b0, vs, nh2, ids2, b1, b2, b3, b4, b5, b6, b7, b8⟩ := args_made m hr.2 ha2 hf2 h3 q
        refine ⟨a1.append b0, .val { agg := isAggT P t, cs := cs' } :: vs, nh2, ids2, ?_, b2, b3, b4, b5, b6, b7, fun s1 n0c σc s0 hs hfz hst hw => ⟨⟨a4 s1 n0c σc s0 hs hfz.left hst, ?_⟩, b8 s1 n0c σc s0 hs hfz.right hst hw⟩⟩
        · have hg' : gives.headD false = false := hg
          cases hl2 : lkOf P t <;> first | (exact absurd hl2 hl) | (simp only [argVals, hl2, htl, hg', a3, List.length_nil, Nat.add_zero, b1]; rfl)
        · rw [← hag]; exact hr.1.2
  | [], _ :: _, _, _, _, _, _, _, _, _, _, _, ha, _, _ => by simp [argsOk] at ha
  | _ :: _, [], _, _, _, _, _, _, _, _, _, _, ha, _, _ => by simp [argsOk] at ha
  | _, [], _ :: _, _, _, _, _, _, _, _, _, hr, _, _, _ => hr.elim
  | _, _ :: _, [], _, _, _, _, _, _, _, _, hr, _, _, _ => hr.elim

end
end Go.Px
