/- Part 4. -/
import Derived.Test.YtibhmjjjbblhmaaGreatPart03
set_option linter.unusedVariables false
set_option linter.unusedSimpArgs false
section
namespace Go.Px
def RelArgs {E : Env} {N : Nat} (P : Program) (n0 : Nz) (β : Nat → Option Nat) (σ : Nat → Option (Nat × Nat)) (s : St0 E N) (w : World) : List (AV (std E N)) → List Value → Prop
 | [], [] => True
 | x :: xs, v :: vs => RelAV P n0 β σ s w x v ∧ RelArgs P n0 β σ s w xs vs
 | _, _ => False
def noB : Nat → Option Nat := fun _ => none
def AP {E : Env} {N : Nat} (hs : List (Nat × HEnt (std E N))) : St0 E N := ⟨.e, [], hs, 0⟩
def Ret {E : Env} {N : Nat} (P : Program) (ci : CI) (n0 : Nz) (σ : Nat → Option (Nat × Nat)) (s0 : St0 E N) (w : World) (fn : Func) (rs : List PV) : Ending → World → Prop
  | .returned v, w' => w'.os = w.os ∧ w'.tape = w.tape ∧ w'.output = w.output ∧ w.heap.size ≤ w'.heap.size ∧ (∀ b, b < w.heap.size → ¬ InM noB σ s0 b → w'.heap[b]? = w.heap[b]?) ∧
      ∀ q, ∃ (σ' : Nat → Option (Nat × Nat)) (vs : List (Val (std E N))) (hs : List (Nat × HEnt (std E N))), A3 (O := std E N) P ci.own ci.nw rs 0 q fn.resultTypes.toList = some (vs, hs) ∧
        Mem P n0 noB σ' (AP hs) w' ∧ RelAV P n0 noB σ' (AP hs) w' (Ie vs) v ∧ ∀ b, InM noB σ' (AP hs) b → InM noB σ s0 b ∨ w.heap.size ≤ b
  | _, _ => False
def BT (P : Program) (E : Env) (N : Nat) (ci : CI) : Prop :=
 ∀ fn, P.funcs[ci.f]? = some fn → ∀ (ls rs : List PV), E ci.f ci.fns ls = some rs → ∀ (vs : List (AV (std E N))) (hs : List (Nat × HEnt (std E N))),
  As (O := std E N) P ci.gives 1 fn.params.toList ci.fns (ls.map PV.leaf) = some (vs, hs) → ∀ (n0 : Nz) (σ : Nat → Option (Nat × Nat)) (w : World) (args : List Value), n0.n = w.heap.size →
  Mem P n0 noB σ (AP hs) w → RelArgs P n0 noB σ (AP hs) w vs args → (U6 ci.gives = true → ∀ q, σ q = none) → Calls P ci.f args.toArray w (Ret (E := E) (N := N) P ci n0 σ (AP hs) w fn rs)
section
variable {E : Env} {N : Nat} {P : Program} {n0 n0' : Nz} {nt : Nat} {β β' : Nat → Option Nat} {σ σ' : Nat → Option (Nat × Nat)} {s s' : St0 E N} {a : Act} {w w' : World}
theorem RelH.view {id q : Nat} {h0 h1 : HEnt (std E N)} (h : RelH P n0 β σ s w id h0) (he : h1.e = h0.e) (hl : h1.l = h0.l) (hs : σ' q = σ id)
    (ho : ∀ blk cap, σ id = some (blk, cap) → Old n0 h0.nw blk → Old n0' h1.nw blk) (hst : ∀ b, StB n0 β σ s h0.nw b → StB n0' β' σ' s' h1.nw b) : RelH P n0' β' σ' s' w q h1 := by
  obtain ⟨t, ts, ht, hts, hrl, hm⟩ := h
  refine ⟨t, ts, by rw [he]; exact ht, by rw [he]; exact hts, by rw [hl]; exact hrl, ?_⟩
  rcases hm with ⟨h1, h2⟩ | ⟨blk, cap, cells, el, ha, hheap, hel, hc, hd, hnw, v, hv, hrep⟩
  · exact .inl ⟨by rw [hs]; exact h1, by rw [hl]; exact h2⟩
  · refine .inr ⟨blk, cap, cells, el, by rw [hs]; exact ha, hheap, by rw [he]; exact hel, hc, by rw [hl]; exact hd, ho blk cap ha hnw, v, by rw [hl]; exact hv, fun i j t' hi hj => ?_⟩
    rw [hl] at hi ⊢
    exact (hrep i j t' hi hj).st hst
def ed (P : Program) (s : St0 E N) (h' : HEnt (std E N)) : Option Nat → Prop
 | none => h'.l = [] ∧ ∃ t ts, AG P t = .sl h'.e ∧ AK P h'.e = some ts
 | some id => ∃ h, s.getH id = some h ∧ h'.e = h.e ∧ h'.l = h.l ∧ h.frozen = false ∧ (h'.nw = true → h.nw = true)
def Ents (P : Program) (s : St0 E N) : Nat → List (Option Nat) → List (Nat × HEnt (std E N)) → Prop
 | _, [], [] => True
 | q, o :: os, (k, h') :: r => k = q ∧ h'.frozen = false ∧ ed P s h' o ∧ Ents P s (q + 1) os r
 | _, _, _ => False
def Wired (σ σc : Nat → Option (Nat × Nat)) (s0 : St0 E N) : Nat → List (Option Nat) → List (Nat × HEnt (std E N)) → Prop
 | q, o :: os, (_, h') :: r => σc q = o.bind σ ∧ s0.getH q = some h' ∧ Wired σ σc s0 (q + 1) os r
 | _, _, _ => True
theorem Ents.len : ∀ {q : Nat} {os : List (Option Nat)} {r : List (Nat × HEnt (std E N))}, Ents P s q os r → os.length = r.length
 | _, [], [], _ => rfl
 | _, _ :: _, (_, _) :: _, h => by simp [Ents.len h.2.2.2]
 | _, [], _ :: _, h => h.elim
 | _, _ :: _, [], h => h.elim
theorem Ents.append : ∀ {q : Nat} {os os' : List (Option Nat)} {r r' : List (Nat × HEnt (std E N))}, Ents P s q os r → Ents P s (q + r.length) os' r' → Ents P s q (os ++ os') (r ++ r')
 | _, [], _, [], _, _, h => by simpa using h
 | q, o :: os, _, (k, h') :: r, _, h, h2 => ⟨h.1, h.2.1, h.2.2.1, Ents.append h.2.2.2 (by simpa [Nat.add_assoc, Nat.add_comm 1] using h2)⟩
 | _, [], _, _ :: _, _, h, _ => h.elim
 | _, _ :: _, _, [], _, h, _ => h.elim
theorem Wired.left {σc : Nat → Option (Nat × Nat)} {s0 : St0 E N} : ∀ {q : Nat} {os os' : List (Option Nat)} {r r' : List (Nat × HEnt (std E N))}, os.length = r.length → Wired σ σc s0 q (os ++ os') (r ++ r') → Wired σ σc s0 q os r
 | _, [], _, [], _, _, _ => trivial
 | q, o :: os, _, (k, h') :: r, _, hl, h => ⟨h.1, h.2.1, Wired.left (by simpa using hl) h.2.2⟩
 | _, [], _, _ :: _, _, hl, _ => by simp at hl
 | _, _ :: _, _, [], _, hl, _ => by simp at hl
theorem Wired.right {σc : Nat → Option (Nat × Nat)} {s0 : St0 E N} : ∀ {q : Nat} {os os' : List (Option Nat)} {r r' : List (Nat × HEnt (std E N))}, os.length = r.length → Wired σ σc s0 q (os ++ os') (r ++ r') → Wired σ σc s0 (q + r.length) os' r'
 | _, [], _, [], _, _, h => by simpa using h
 | q, o :: os, _, (k, h') :: r, _, hl, h => by
  have := Wired.right (by simpa using hl) h.2.2
  simpa [Nat.add_assoc, Nat.add_comm 1] using this
 | _, [], _, _ :: _, _, hl, _ => by simp at hl
 | _, _ :: _, _, [], _, hl, _ => by simp at hl
theorem Zo {σc : Nat → Option (Nat × Nat)} {s0 : St0 E N} {q id : Nat} {e : TypeId} {v : Value} {h h' : HEnt (std E N)} (hc : RelC P n0 β σ s w (.own e id) v) (hh : s.getH id = some h) (he : h'.e = h.e) (hl : h'.l = h.l)
    (hs : σc q = σ id) (hg : s0.getH q = some h') : RelC P n0' β' σc s0 w' (.own e q) v := by
  obtain ⟨h1, h2⟩ := hc
  obtain ⟨e1, o1⟩ := h2 h hh
  refine ⟨h1, fun h3 hh3 => ?_⟩
  rw [hg] at hh3; cases hh3
  refine ⟨he.trans e1, ?_⟩
  unfold bk at o1 ⊢
  rw [hs, hl]; exact o1
theorem Kj (m : Mem P n0 β σ s w) : ∀ {ts : List TypeId} {cs : List (AC0 E N)} {vals : List Value} {used u : List Nat} {ls : List Ab} {k k' : Nat}, RelCs P n0 β σ s w cs vals → AS P ts cs = true →
    RM.run s (Rt (O := std E N) used cs) k = .ok ((ls, u), k') → ∀ (q : Nat) (rest : List Ab), ∃ (cs' : List (AC0 E N)) (nh : List (Nat × HEnt (std E N))) (ids : List (Option Nat)),
      Ac (O := std E N) P true q ts (ls ++ rest) = some (cs', nh, rest) ∧ Ents P s q ids nh ∧ (∀ n ∈ u, n ∈ used ∨ some n ∈ ids) ∧ (∀ n ∈ used, n ∈ u) ∧ (∀ n, some n ∈ ids → n ∈ u ∧ n ∉ used) ∧ (ids.filterMap id).Nodup ∧ (∀ p ∈ nh, p.2.nw = false) ∧
      ∀ (n0c : Nz) (σc : Nat → Option (Nat × Nat)) (s0 : St0 E N), Wired σ σc s0 q ids nh → RelCs P n0c noB σc s0 w cs' vals
  | [], [], [], used, u, ls, k, k', _, _, h => by
    cases RM.ret_ok h
    intro q rest
    exact ⟨[], [], [], rfl, trivial, fun n hn => .inl hn, fun n hn => hn, fun n hn => by simp at hn, List.nodup_nil, fun p hp => by simp at hp, fun _ _ _ _ => trivial⟩
  | t :: ts, c :: cs, v :: vals, used, u, ls, k, k', hc, hk, h => by
    simp only [AS] at hk
    split at hk
    case h_2 => cases hk
    rename_i hk1
    intro q rest
    cases c with
    | int kk i =>
      obtain ⟨⟨l, fr, nw⟩, k1, h1, h2⟩ := RM.bind_ok h
      obtain ⟨⟨ls2, u2⟩, k2, h3, h4⟩ := RM.bind_ok h2
      cases RM.ret_ok h1; cases RM.ret_ok h4
      obtain ⟨cs', nh, ids, a1, a2, a3, a4, a5, a6, a8, a7⟩ := Kj m hc.2 hk h3 q rest
      cases hl : AG P t <;> rw [hl] at hk1 <;> simp [A7] at hk1
      have hkk := G0.1 hk1
      rw [hkk] at hl
      refine ⟨.int kk i :: cs', nh, ids, by simp [Ac, hl, a1], a2, a3, a4, a5, a6, a8, fun n0c σc s0 hw => ⟨?_, a7 n0c σc s0 hw⟩⟩
      have hv : v = .int kk i := hc.1
      exact hv
    | bool b =>
      obtain ⟨⟨l, fr, nw⟩, k1, h1, h2⟩ := RM.bind_ok h
      obtain ⟨⟨ls2, u2⟩, k2, h3, h4⟩ := RM.bind_ok h2
      cases RM.ret_ok h1; cases RM.ret_ok h4
      obtain ⟨cs', nh, ids, a1, a2, a3, a4, a5, a6, a8, a7⟩ := Kj m hc.2 hk h3 q rest
      cases hl : AG P t <;> rw [hl] at hk1 <;> simp [A7] at hk1
      refine ⟨.bool b :: cs', nh, ids, by simp [Ac, hl, a1], a2, a3, a4, a5, a6, a8, fun n0c σc s0 hw => ⟨?_, a7 n0c σc s0 hw⟩⟩
      have hv : v = .bool b := hc.1
      exact hv
    | str x =>
      obtain ⟨⟨l, fr, nw⟩, k1, h1, h2⟩ := RM.bind_ok h
      obtain ⟨⟨ls2, u2⟩, k2, h3, h4⟩ := RM.bind_ok h2
      cases RM.ret_ok h1; cases RM.ret_ok h4
      obtain ⟨cs', nh, ids, a1, a2, a3, a4, a5, a6, a8, a7⟩ := Kj m hc.2 hk h3 q rest
      cases hl : AG P t <;> rw [hl] at hk1 <;> simp [A7] at hk1
      refine ⟨.str x :: cs', nh, ids, by simp [Ac, hl, a1], a2, a3, a4, a5, a6, a8, fun n0c σc s0 hw => ⟨?_, a7 n0c σc s0 hw⟩⟩
      have hv : v = .string x := hc.1
      exact hv
    | nil e =>
      obtain ⟨⟨l, fr, nw⟩, k1, h1, h2⟩ := RM.bind_ok h
      obtain ⟨⟨ls2, u2⟩, k2, h3, h4⟩ := RM.bind_ok h2
      cases RM.ret_ok h1; cases RM.ret_ok h4
      obtain ⟨cs', nh, ids, a1, a2, a3, a4, a5, a6, a8, a7⟩ := Kj m hc.2 hk h3 (q + 1) rest
      cases hl : AG P t <;> rw [hl] at hk1 <;> simp [A7] at hk1
      rename_i e2
      subst hk1
      obtain ⟨t0, ts0, ht0, hts0, av, hv⟩ := hc.1
      refine ⟨.own e2 q :: cs', (q, { e := e2, frozen := false, nw := false, l := [], dirty := true }) :: nh, none :: ids, by simp [Ac, hl, a1], ⟨rfl, rfl, ⟨rfl, t0, ts0, ht0, hts0⟩, a2⟩, fun n hn => ?_, a4, fun n hn => ?_, by simpa using a6,
        fun p hp => ?_, fun n0c σc s0 hw => ⟨⟨⟨_, _, _, hv⟩, fun h3 hh3 => ?_⟩, a7 n0c σc s0 hw.2.2⟩⟩
      · exact (a3 n hn).imp (fun h => h) (fun h => List.mem_cons_of_mem _ h)
      · simp at hn; exact a5 n hn
      · rcases List.mem_cons.1 hp with rfl | hp
        · rfl
        · exact a8 p hp
      · rw [hw.2.1] at hh3; cases hh3
        exact ⟨rfl, .inr ⟨hw.1, rfl, av, hv⟩⟩
    | own e id =>
      obtain ⟨k1, h1⟩ := RM.h_ok h
      cases hh : s.getH id with
      | none => rw [hh] at h1; exact (RM.fail_ok h1).elim
      | some en =>
        rw [hh] at h1
        simp only at h1
        split at h1
        case h_2 => exact (RM.fail_ok h1).elim
        rename_i hg
        simp only [Bool.and_eq_true, Bool.not_eq_true'] at hg
        obtain ⟨⟨ls2, u2⟩, k2, h3, h4⟩ := RM.bind_ok h1
        cases RM.ret_ok h4
        obtain ⟨cs', nh, ids, a1, a2, a3, a4, a5, a6, a8, a7⟩ := Kj m hc.2 hk h3 (q + 1) rest
        cases hl : AG P t <;> rw [hl] at hk1 <;> simp [A7] at hk1
        rename_i e2
        subst hk1
        have hnu : id ∉ used := fun hm => by have := CT.2 hm; rw [this] at hg; cases hg.2
        obtain ⟨hc1, hc2⟩ := hc.1
        have he := (hc2 en hh).1
        refine ⟨.own e2 q :: cs', (q, { e := e2, frozen := false, nw := false, l := en.l, dirty := true }) :: nh, some id :: ids, by simp [Ac, hl, a1], ⟨rfl, rfl, ⟨en, hh, he.symm, rfl, hg.1, fun h => by cases h⟩, a2⟩, fun n hn => ?_, fun n hn => a4 n (List.mem_cons_of_mem _ hn), fun n hn => ?_, ?_,
          fun p hp => ?_, fun n0c σc s0 hw => ⟨Zo (h' := { e := e2, frozen := false, nw := false, l := en.l, dirty := true }) hc.1 hh he.symm rfl hw.1 hw.2.1, a7 n0c σc s0 hw.2.2⟩⟩
        · rcases a3 n hn with h | h
          · rcases List.mem_cons.1 h with rfl | h
            · exact .inr List.mem_cons_self
            · exact .inl h
          · exact .inr (List.mem_cons_of_mem _ h)
        · rcases List.mem_cons.1 hn with h | h
          · cases h; exact ⟨a4 id List.mem_cons_self, hnu⟩
          · exact ⟨(a5 n h).1, fun hm => (a5 n h).2 (List.mem_cons_of_mem _ hm)⟩
        · show (id :: ids.filterMap _root_.id).Nodup
          refine List.nodup_cons.2 ⟨fun hm => ?_, a6⟩
          have : some id ∈ ids := by simpa using hm
          exact (a5 id this).2 List.mem_cons_self
        · rcases List.mem_cons.1 hp with rfl | hp
          · rfl
          · exact a8 p hp
    | imm e nw l => exact (RM.fail_ok h).elim
    | _ =>
      obtain ⟨⟨l, fr, nw⟩, k1, h1, h2⟩ := RM.bind_ok h
      exact (RM.fail_ok h1).elim
  | [], _ :: _, _, _, _, _, _, _, _, hk, _ => by simp [AS] at hk
  | _ :: _, [], _, _, _, _, _, _, _, hk, _ => by simp [AS] at hk
  | _, [], _ :: _, _, _, _, _, _, hc, _, _ => hc.elim
  | _, _ :: _, [], _, _, _, _, _, hc, _, _ => hc.elim
theorem ZN (m : Mem P n0 β σ s w) : ∀ {ts : List TypeId} {cs : List (AC0 E N)} {vals : List Value} {ls : List Ab} {fr : List (Nat × Option (HEnt (std E N)))} {nw : Bool} {k k' : Nat}, RelCs P n0 β σ s w cs vals → AS P ts cs = true →
    RM.run s (M7 (O := std E N) cs) k = .ok ((ls, fr, nw), k') → ∀ (q : Nat) (rest : List Ab), FrOK s fr ∧ (∀ x ∈ fr, x.1 ∈ AB cs) ∧ ∃ (cs' : List (AC0 E N)),
      Ac (O := std E N) P false q ts (ls ++ rest) = some (cs', [], rest) ∧
      ∀ (s1 : St0 E N) (n0c : Nz) (σc : Nat → Option (Nat × Nat)) (s0 : St0 E N), Sub s s1 → Frz s1 fr → (∀ b, StB n0 β σ s1 false b → StB n0c noB σc s0 false b) → RelCs P n0c noB σc s0 w cs' vals
  | [], [], [], ls, fr, nw, k, k', _, _, h => by
    cases RM.ret_ok h
    intro q rest
    exact ⟨fun _ _ hm => by simp at hm, fun _ hm => by simp at hm, [], rfl, fun _ _ _ _ _ _ _ => trivial⟩
  | t :: ts, c :: cs, v :: vals, ls, fr, nw, k, k', hc, hk, h => by
    simp only [AS] at hk
    split at hk
    case h_2 => cases hk
    rename_i hk1
    intro q rest
    obtain ⟨⟨l, f1, n1⟩, k1, h1, h2⟩ := RM.bind_ok h
    obtain ⟨⟨ls2, f2, n2⟩, k2, h3, h4⟩ := RM.bind_ok h2
    have hr := RM.ret_ok h4
    simp only [Prod.mk.injEq] at hr
    obtain ⟨rfl, rfl, rfl⟩ := hr
    obtain ⟨a1, a2, a3⟩ := Y8 m hc.1 h1
    obtain ⟨b1, b2, cs', b3, b4⟩ := ZN m hc.2 hk h3 q rest
    refine ⟨a1.append b1, fun x hx => ?_, ?_⟩
    · rcases List.mem_append.1 hx with h | h
      · simp [AB, a2 x h]
      · simp [AB, b2 x h]
    · have rep : ∀ (s1 : St0 E N), Sub s s1 → Frz s1 (f1 ++ f2) → Rep P w (StB n0 β σ s1 false) t v l.pv := fun s1 hs hf =>
        a3 t s1 hk1 hs (fun x hx h hh => by obtain ⟨h', e1, e2⟩ := hf.left x hx; rw [e1] at hh; cases hh; exact e2)
          (fun x hx => by obtain ⟨h', e1, _⟩ := hf.left x hx; exact ⟨h', e1⟩) false (fun e => by cases e)
      have sl : ∀ (e : TypeId) (r : Rows), AG P t = .sl e → l = .rows r → ∃ (cs' : List (AC0 E N)),
          Ac (O := std E N) P false q (t :: ts) (l :: ls2 ++ rest) = some (cs', [], rest) ∧
          ∀ (s1 : St0 E N) (n0c : Nz) (σc : Nat → Option (Nat × Nat)) (s0 : St0 E N), Sub s s1 → Frz s1 (f1 ++ f2) → (∀ b, StB n0 β σ s1 false b → StB n0c noB σc s0 false b) → RelCs P n0c noB σc s0 w cs' (v :: vals) := fun e r hl hlr => by
        subst hlr
        exact ⟨.imm e false r :: cs', by simp [Ac, hl, b3], fun s1 n0c σc s0 hs hf hst => ⟨⟨t, hl, (rep s1 hs hf).st hst⟩, b4 s1 n0c σc s0 hs hf.right hst⟩⟩
      cases c with
      | int kk i =>
        cases RM.ret_ok h1
        cases hl : AG P t <;> rw [hl] at hk1 <;> simp [A7] at hk1
        have hkk := G0.1 hk1
        rw [hkk] at hl
        have hv : v = .int kk i := hc.1
        exact ⟨.int kk i :: cs', by simp [Ac, hl, b3], fun s1 n0c σc s0 hs hf hst => ⟨hv, b4 s1 n0c σc s0 hs hf.right hst⟩⟩
      | bool b =>
        cases RM.ret_ok h1
        cases hl : AG P t <;> rw [hl] at hk1 <;> simp [A7] at hk1
        have hv : v = .bool b := hc.1
        exact ⟨.bool b :: cs', by simp [Ac, hl, b3], fun s1 n0c σc s0 hs hf hst => ⟨hv, b4 s1 n0c σc s0 hs hf.right hst⟩⟩
      | str x =>
        cases RM.ret_ok h1
        cases hl : AG P t <;> rw [hl] at hk1 <;> simp [A7] at hk1
        have hv : v = .string x := hc.1
        exact ⟨.str x :: cs', by simp [Ac, hl, b3], fun s1 n0c σc s0 hs hf hst => ⟨hv, b4 s1 n0c σc s0 hs hf.right hst⟩⟩
      | nil e =>
        cases RM.ret_ok h1
        cases hl : AG P t <;> rw [hl] at hk1 <;> simp [A7] at hk1
        exact sl _ _ hl rfl
      | imm e nw l =>
        cases RM.ret_ok h1
        cases hl : AG P t <;> rw [hl] at hk1 <;> simp [A7] at hk1
        exact sl _ _ hl rfl
      | own e id =>
        obtain ⟨k1, h1⟩ := RM.h_ok h1
        cases hh : s.getH id with
        | none => rw [hh] at h1; exact (RM.fail_ok h1).elim
        | some en =>
          rw [hh] at h1
          cases RM.ret_ok h1
          cases hl : AG P t <;> rw [hl] at hk1 <;> simp [A7] at hk1
          exact sl _ _ hl rfl
      | _ => exact (RM.fail_ok h1).elim
  | [], _ :: _, _, _, _, _, _, _, _, hk, _ => by simp [AS] at hk
  | _ :: _, [], _, _, _, _, _, _, _, hk, _ => by simp [AS] at hk
  | _, [], _ :: _, _, _, _, _, _, hc, _, _ => hc.elim
  | _, _ :: _, [], _, _, _, _, _, hc, _, _ => hc.elim
def fnV (v : Val (std E N)) : Option Nat := match v with
 | ⟨false, [.fn f []]⟩ => some f
 | _ => none
theorem am {v : Val (std E N)} {f : Nat} (h : fnV v = some f) : v = ⟨false, [.fn f []]⟩ := by
 unfold fnV at h
 split at h
 ·cases h; rfl
 ·cases h
theorem Zb {gv : List Bool} {used : List Nat} {v : Val (std E N)} {r : List (AV (std E N))} (h : fnV v = none) : J4 gv used (.val v :: r) = match gv.headD false with
    | true => (Rt used v.cs).bind fun (ls, u) => (J4 gv.tail u r).bind fun (ls', fr, u') => .ret (ls ++ ls', fr, u')
    | false => (M7 v.cs).bind fun (ls, fr, _) => (J4 gv.tail used r).bind fun (ls', fr', u') => .ret (ls ++ ls', fr ++ fr', u') := by
  rcases v with ⟨_ | _, _ | ⟨c, _ | ⟨d, l⟩⟩⟩ <;> try rfl
  · cases c with
    | fn f caps => cases caps with
      | nil => cases h
      | cons => rfl
    | _ => rfl
  · cases c with
    | fn f caps => cases caps <;> rfl
    | _ => rfl
theorem ec {v : Val (std E N)} {r : List (AV (std E N))} (h : fnV v = none) : G5 (.val v :: r) = match v.cs.all fK with
    | true => G5 r
    | false => none := by
  rcases v with ⟨_ | _, _ | ⟨c, _ | ⟨d, l⟩⟩⟩ <;> try rfl
  · cases c with
    | fn f caps => cases caps with
      | nil => cases h
      | cons => rfl
    | _ => rfl
  · cases c with
    | fn f caps => cases caps <;> rfl
    | _ => rfl
theorem eJ {t : TypeId} {ts : List TypeId} {v : Val (std E N)} {r : List (AV (std E N))} (h : fnV v = none) (ha : GG P (t :: ts) (.val v :: r) = true) :
    AG P t ≠ .fn ∧ ∃ l, AK P t = some l ∧ v.agg = AQ P t ∧ AS P l v.cs = true ∧ GG P ts r = true := by
  simp only [GG, Bool.and_eq_true] at ha
  obtain ⟨ha, hr⟩ := ha
  have key : AG P t ≠ .fn ∧ (match AK P t with
      | some l => v.agg == AQ P t && AS P l v.cs
      | none => false) = true := by
    rcases v with ⟨_ | _, _ | ⟨c, _ | ⟨d, l⟩⟩⟩
    · cases hl : AG P t <;> rw [hl] at ha <;> first | exact ⟨by simp, ha⟩ | cases ha
    · cases c with
      | fn f caps => cases caps with
        | nil => cases h
        | cons => cases hl : AG P t <;> rw [hl] at ha <;> first | exact ⟨by simp, ha⟩ | cases ha
      | _ => cases hl : AG P t <;> rw [hl] at ha <;> first | exact ⟨by simp, ha⟩ | cases ha
    · cases c with
      | fn f caps => cases caps <;> cases hl : AG P t <;> rw [hl] at ha <;> first | exact ⟨by simp, ha⟩ | cases ha
      | _ => cases hl : AG P t <;> rw [hl] at ha <;> first | exact ⟨by simp, ha⟩ | cases ha
    all_goals (cases hl : AG P t <;> rw [hl] at ha <;> first | exact ⟨by simp, ha⟩ | cases ha)
  refine ⟨key.1, ?_⟩
  have k2 := key.2
  split at k2
  · rename_i l htl
    simp only [Bool.and_eq_true, beq_iff_eq] at k2
    exact ⟨l, htl, k2.1, k2.2, hr⟩
  · cases k2
theorem gK {t : TypeId} {ts : List TypeId} {f : Nat} {r : List (AV (std E N))} (ha : GG P (t :: ts) (.val ⟨false, [.fn f []]⟩ :: r) = true) : AG P t = .fn ∧ GG P ts r = true := by
 simp only [GG, Bool.and_eq_true] at ha
 obtain ⟨ha, hr⟩ := ha
 refine ⟨?_, hr⟩
 cases hl : AG P t <;> rw [hl] at ha <;> first | rfl | (simp at ha)
theorem Ql (m : Mem P n0 β σ s w) : ∀ {params : List TypeId} {args : List (AV (std E N))} {vals : List Value} {gives : List Bool} {fns : List Nat} {used u : List Nat} {ls : List Ab} {fr : List (Nat × Option (HEnt (std E N)))} {k k' : Nat},
    RelArgs P n0 β σ s w args vals → GG P params args = true → G5 args = some fns → RM.run s (J4 (O := std E N) gives used args) k = .ok ((ls, fr, u), k') →
    ∀ (q : Nat), FrOK s fr ∧ ∃ (vs : List (AV (std E N))) (nh : List (Nat × HEnt (std E N))) (ids : List (Option Nat)),
      As (O := std E N) P gives q params fns ls = some (vs, nh) ∧ Ents P s q ids nh ∧ (∀ n ∈ u, n ∈ used ∨ some n ∈ ids) ∧ (∀ n ∈ used, n ∈ u) ∧ (∀ n, some n ∈ ids → n ∈ u ∧ n ∉ used) ∧ (ids.filterMap id).Nodup ∧ (∀ p ∈ nh, p.2.nw = false) ∧
      ∀ (s1 : St0 E N) (n0c : Nz) (σc : Nat → Option (Nat × Nat)) (s0 : St0 E N), Sub s s1 → Frz s1 fr → (∀ b, StB n0 β σ s1 false b → StB n0c noB σc s0 false b) → Wired σ σc s0 q ids nh → RelArgs P n0c noB σc s0 w vs vals
  | [], [], [], gives, fns, used, u, ls, fr, k, k', _, _, hf, h => by
    cases RM.ret_ok h
    simp only [G5] at hf; cases hf
    intro q
    exact ⟨fun _ _ hm => by simp at hm, [], [], [], rfl, trivial, fun n hn => .inl hn, fun n hn => hn, fun n hn => by simp at hn, List.nodup_nil, fun p hp => by simp at hp, fun _ _ _ _ _ _ _ _ => trivial⟩
  | t :: params, .tup y :: args, v :: vals, gives, fns, used, u, ls, fr, k, k', hr, ha, hf, h => by simp [G5] at hf
  | t :: params, .val y :: args, v :: vals, gives, fns, used, u, ls, fr, k, k', hr, ha, hf, h => by
    intro q
    cases hy : fnV y with
    | some f =>
      have := am hy; subst this
      obtain ⟨hl, ha2⟩ := gK ha
      simp only [G5, Option.map_eq_some_iff] at hf
      obtain ⟨fns2, hf2, rfl⟩ := hf
      obtain ⟨b0, vs, nh, ids, b1, b2, b3, b4, b5, b6, b7, b8⟩ := Ql m hr.2 ha2 hf2 (gives := gives.tail) h q
      refine ⟨b0, one (.fn f []) :: vs, nh, ids, by simp [As, hl, b1], b2, b3, b4, b5, b6, b7, fun s1 n0c σc s0 hs hfz hst hw => ⟨?_, b8 s1 n0c σc s0 hs hfz hst hw⟩⟩
      refine ⟨?_, hr.1.2⟩
      have h1 := hr.1.1
      revert h1
      generalize v.cells.toList = L
      intro h1
      match L, h1 with
      | [z], h1 =>
        obtain ⟨vs2, e1, e2, _⟩ := h1.1
        exact ⟨⟨vs2, e1, e2, fun i b o hc => by simp at hc⟩, trivial⟩
    | none =>
      obtain ⟨hl, l, htl, hag, hk, ha2⟩ := eJ hy ha
      have hf2 : G5 args = some fns := by
        rw [ec hy] at hf
        split at hf
        · exact hf
        · cases hf
      rw [Zb hy] at h
      split at h
      · rename_i hg
        obtain ⟨⟨ls1, u1⟩, k1, h1, h2⟩ := RM.bind_ok h
        obtain ⟨⟨ls2, fr2, u2⟩, k2, h3, h4⟩ := RM.bind_ok h2
        cases RM.ret_ok h4
        obtain ⟨cs', nh1, ids1, a1, a2, a3, a4, a5, a6, a8, a7⟩ := Kj m hr.1.1 hk h1 q ls2
        obtain ⟨b0, vs, nh2, ids2, b1, b2, b3, b4, b5, b6, b7, b8⟩ := Ql m hr.2 ha2 hf2 h3 (q + nh1.length)
        have hlen := a2.len
        refine ⟨b0, .val { agg := AQ P t, cs := cs' } :: vs, nh1 ++ nh2, ids1 ++ ids2, ?_, a2.append b2, fun n hn => ?_, fun n hn => b4 n (a4 n hn), fun n hn => ?_, ?_, fun p hp => (List.mem_append.1 hp).elim (a8 p) (b7 p), fun s1 n0c σc s0 hs hfz hst hw => ⟨⟨a7 n0c σc s0 (hw.left hlen), ?_⟩, b8 s1 n0c σc s0 hs hfz hst (hw.right hlen)⟩⟩
        · have hg' : gives.headD false = true := hg
          cases hl2 : AG P t <;> first | (exact absurd hl2 hl) | (simp only [As, hl2, htl, hg', a1, b1]; rfl)
        · rcases b3 n hn with h | h
          · rcases a3 n h with h | h
            · exact .inl h
            · exact .inr (List.mem_append_left _ h)
          · exact .inr (List.mem_append_right _ h)
        · rcases List.mem_append.1 hn with h | h
          · exact ⟨b4 n (a5 n h).1, (a5 n h).2⟩
          · exact ⟨(b5 n h).1, fun hm => (b5 n h).2 (a4 n hm)⟩
        · rw [List.filterMap_append]
          refine List.nodup_append.2 ⟨a6, b6, fun x hx y hy hxy => ?_⟩
          have hx2 : some x ∈ ids1 := by simpa using hx
          have hy2 : some y ∈ ids2 := by simpa using hy
          exact (b5 y hy2).2 (hxy ▸ (a5 x hx2).1)
        · rw [← hag]; exact hr.1.2
      · rename_i hg
        obtain ⟨⟨ls1, f1, nw1⟩, k1, h1, h2⟩ := RM.bind_ok h
        obtain ⟨⟨ls2, fr2, u2⟩, k2, h3, h4⟩ := RM.bind_ok h2
        cases RM.ret_ok h4
        obtain ⟨a1, a2, cs', a3, a4⟩ := ZN m hr.1.1 hk h1 q ls2
        obtain ⟨b0, vs, nh2, ids2, b1, b2, b3, b4, b5, b6, b7, b8⟩ := Ql m hr.2 ha2 hf2 h3 q
        refine ⟨a1.append b0, .val { agg := AQ P t, cs := cs' } :: vs, nh2, ids2, ?_, b2, b3, b4, b5, b6, b7, fun s1 n0c σc s0 hs hfz hst hw => ⟨⟨a4 s1 n0c σc s0 hs hfz.left hst, ?_⟩, b8 s1 n0c σc s0 hs hfz.right hst hw⟩⟩
        · have hg' : gives.headD false = false := hg
          cases hl2 : AG P t <;> first | (exact absurd hl2 hl) | (simp only [As, hl2, htl, hg', a3, List.length_nil, Nat.add_zero, b1]; rfl)
        · rw [← hag]; exact hr.1.2
  | [], _ :: _, _, _, _, _, _, _, _, _, _, _, ha, _, _ => by simp [GG] at ha
  | _ :: _, [], _, _, _, _, _, _, _, _, _, _, ha, _, _ => by simp [GG] at ha
  | _, [], _ :: _, _, _, _, _, _, _, _, _, hr, _, _, _ => hr.elim
  | _, _ :: _, [], _, _, _, _, _, _, _, _, hr, _, _, _ => hr.elim
end
end Go.Px
end
section
namespace Go.Px
section
variable {E : Env} {N : Nat} {P : Program} {n0 n0' : Nz} {nt : Nat} {β β' : Nat → Option Nat} {σ σ' : Nat → Option (Nat × Nat)} {s s' : St0 E N} {a : Act} {w w' : World}
def Row : Nat → List (Nat × HEnt (std E N)) → Prop
 | _, [] => True
 | q, (k, h) :: r => k = q ∧ Row (q + 1) r
theorem Row.append : ∀ {q : Nat} {r r' : List (Nat × HEnt (std E N))}, Row q r → Row (q + r.length) r' → Row q (r ++ r')
 | _, [], _, _, h => by simpa using h
 | q, (k, h') :: r, _, h, h2 => ⟨h.1, Row.append h.2 (by simpa [Nat.add_assoc, Nat.add_comm 1] using h2)⟩
theorem Row.mem : ∀ {q : Nat} {r : List (Nat × HEnt (std E N))}, Row q r → ∀ p ∈ r, q ≤ p.1 ∧ p.1 < q + r.length
 | q, (k, h') :: r, h, p, hp => by
  rcases List.mem_cons.1 hp with rfl | hp
  ·have := h.1; subst this; simp
  ·have := Row.mem h.2 p hp; simp; omega
theorem Row.get : ∀ {q : Nat} {r : List (Nat × HEnt (std E N))}, Row q r → ∀ {n : Nat} {h : HEnt (std E N)}, AE r n = some h → (n, h) ∈ r
 | q, (k, h') :: r, hr, n, h, hg => by
  simp only [AE] at hg
  split at hg
  ·rename_i e; have := AA.1 e; subst this; cases hg; exact List.mem_cons_self
  ·exact List.mem_cons_of_mem _ (Row.get hr.2 hg)
theorem Row.has : ∀ {q : Nat} {r : List (Nat × HEnt (std E N))}, Row q r → ∀ {n : Nat} {h : HEnt (std E N)}, (n, h) ∈ r → AE r n = some h
 | q, (k, h') :: r, hr, n, h, hg => by
  simp only [AE]
  rcases List.mem_cons.1 hg with e | hg
  ·cases e; rw [AA.2 rfl]
  ·have h1 := Row.mem hr.2 _ hg
   have h2 := hr.1
   have : Nat.beq k n = false := by
    cases hb : Nat.beq k n with
    | false => rfl
    | true => have := AA.1 hb; simp at h1; omega
   rw [this]; exact Row.has hr.2 hg
theorem Row.at : ∀ {q : Nat} {r : List (Nat × HEnt (std E N))}, Row q r → ∀ {n : Nat}, q ≤ n → n < q + r.length → ∃ h, (n, h) ∈ r
 | q, [], _, n, h1, h2 => by simp at h2; omega
 | q, (k, h') :: r, hr, n, h1, h2 => by
  by_cases h : n = q
  ·exact ⟨h', by rw [h, ← hr.1]; exact List.mem_cons_self⟩
  ·obtain ⟨h3, h4⟩ := Row.at hr.2 (n := n) (by omega) (by simp at h2; omega)
   exact ⟨h3, List.mem_cons_of_mem _ h4⟩
theorem Ents.row : ∀ {q : Nat} {os : List (Option Nat)} {r : List (Nat × HEnt (std E N))}, Ents P s q os r → Row q r
 | _, [], [], _ => trivial
 | _, _ :: _, (_, _) :: _, h => ⟨h.1, Ents.row h.2.2.2⟩
 | _, [], _ :: _, h => h.elim
 | _, _ :: _, [], h => h.elim
theorem Ents.find : ∀ {q : Nat} {os : List (Option Nat)} {r : List (Nat × HEnt (std E N))}, Ents P s q os r → ∀ {n : Nat} {h : HEnt (std E N)}, (n, h) ∈ r → ∃ i o, n = q + i ∧ os[i]? = some o ∧ ed P s h o ∧ h.frozen = false
 | q, o :: os, (k, h') :: r, he, n, h, hm => by
  rcases List.mem_cons.1 hm with e | hm
  ·cases e; exact ⟨0, o, he.1, rfl, he.2.2.1, he.2.1⟩
  ·obtain ⟨i, o', h1, h2, h3⟩ := Ents.find he.2.2.2 hm
   exact ⟨i + 1, o', by omega, h2, h3⟩
 | _, [], _ :: _, h, _, _, _ => h.elim
theorem SW {σc : Nat → Option (Nat × Nat)} {s0 : St0 E N} : ∀ {q : Nat} {os : List (Option Nat)} {r : List (Nat × HEnt (std E N))},
    (∀ i o p, os[i]? = some o → r[i]? = some p → σc (q + i) = o.bind σ ∧ s0.getH (q + i) = some p.2) → Wired σ σc s0 q os r
  | q, o :: os, (k, h') :: r, h => ⟨(h 0 o _ rfl rfl).1, (h 0 o _ rfl rfl).2, SW (fun i o' p h1 h2 => by
      have := h (i + 1) o' p (by simpa using h1) (by simpa using h2)
      rw [show q + 1 + i = q + (i + 1) by omega]; exact this)⟩
  | _, [], _, _ => by unfold Wired; trivial
  | _, _ :: _, [], _ => by unfold Wired; trivial
theorem Row.idx : ∀ {q : Nat} {r : List (Nat × HEnt (std E N))}, Row q r → ∀ {i : Nat} {p : Nat × HEnt (std E N)}, r[i]? = some p → p.1 = q + i
 | q, (k, h') :: r, hr, 0, p, h => by simp at h; subst h; exact hr.1
 | q, (k, h') :: r, hr, i + 1, p, h => by have := Row.idx hr.2 (i := i) (by simpa using h); omega
theorem Qi : ∀ {os : List (Option Nat)} {i j x : Nat}, (os.filterMap id).Nodup → os[i]? = some (some x) → os[j]? = some (some x) → i = j
 | o :: os, i, j, x, hn, hi, hj => by
  have mem : ∀ {k : Nat}, os[k]? = some (some x) → x ∈ os.filterMap id := fun {k} h => by
   simp only [List.mem_filterMap]
   exact ⟨some x, List.mem_of_getElem? h, rfl⟩
  cases o with
  | none =>
   have hn' : (os.filterMap id).Nodup := by simpa using hn
   cases i with
   | zero => simp at hi
   | succ i => cases j with
    | zero => simp at hj
    | succ j => rw [Qi hn' (i := i) (j := j) (by simpa using hi) (by simpa using hj)]
  | some y =>
   have hn' : (y :: os.filterMap id).Nodup := by simpa using hn
   obtain ⟨h1, h2⟩ := List.nodup_cons.1 hn'
   cases i with
   | zero => cases j with
    | zero => rfl
    | succ j => simp at hi hj; subst hi; exact (h1 (mem hj)).elim
   | succ i => cases j with
    | zero => simp at hi hj; subst hj; exact (h1 (mem hi)).elim
    | succ j => rw [Qi h2 (i := i) (j := j) (by simpa using hi) (by simpa using hj)]
def OkC (q len : Nat) (nw : Bool) : AC0 E N → Prop
 | .int _ _ | .bool _ | .str _ => True
 | .imm _ n _ => n = nw
 | .own _ k => q ≤ k ∧ k < q + len
 | _ => False
theorem OkC.wide {q len q' len' : Nat} {nw : Bool} {c : AC0 E N} (h : OkC q len nw c) (h1 : q' ≤ q) (h2 : q + len ≤ q' + len') : OkC q' len' nw c := by
 cases c <;> first | exact h | (obtain ⟨a, b⟩ := h; exact ⟨by omega, by omega⟩)
def OkH (nw : Bool) (hs : List (Nat × HEnt (std E N))) : Prop := ∀ p ∈ hs, p.2.nw = nw ∧ p.2.frozen = false ∧ p.2.dirty = true
theorem N3 {own nw : Bool} {c : List PV} : ∀ {ts : List TypeId} {j q : Nat} {cs : List (AC0 E N)} {hs : List (Nat × HEnt (std E N))}, Ae (O := std E N) P own nw c j q ts = some (cs, hs) →
    Row q hs ∧ OkH nw hs ∧ ∀ x ∈ cs, OkC q hs.length nw x
  | [], j, q, cs, hs, h => by
    simp only [Ae] at h; cases h
    exact ⟨trivial, fun p hp => by simp at hp, fun x hx => by simp at hx⟩
  | t :: ts, j, q, cs, hs, h => by
    have plain : ∀ (x : AC0 E N), (∀ len, OkC q len nw x) → (Ae (O := std E N) P own nw c (j + 1) q ts).map (fun p => (x :: p.1, p.2)) = some (cs, hs) → Row q hs ∧ OkH nw hs ∧ ∀ x ∈ cs, OkC q hs.length nw x := fun x hx h => by
      obtain ⟨⟨r, hh⟩, h1, h2⟩ := Option.map_eq_some_iff.1 h
      cases h2
      obtain ⟨a1, a2, a3⟩ := N3 h1
      exact ⟨a1, a2, fun y hy => (List.mem_cons.1 hy).elim (fun e => e ▸ hx _) (a3 y)⟩
    simp only [Ae] at h
    split at h
    · exact plain (.int _ _) (fun _ => trivial) h
    · exact plain (.bool _) (fun _ => trivial) h
    · exact plain (.str _) (fun _ => trivial) h
    · split at h
      · obtain ⟨⟨r, hh⟩, h1, h2⟩ := Option.map_eq_some_iff.1 h
        cases h2
        obtain ⟨a1, a2, a3⟩ := N3 h1
        refine ⟨⟨rfl, a1⟩, fun p hp => ?_, fun y hy => ?_⟩
        · rcases List.mem_cons.1 hp with rfl | hp
          · exact ⟨rfl, rfl, rfl⟩
          · exact a2 p hp
        · rcases List.mem_cons.1 hy with rfl | hy
          · exact ⟨Nat.le_refl _, by simp⟩
          · exact (a3 y hy).wide (by omega) (by simp; omega)
      · exact plain (.imm _ nw _) (fun _ => rfl) h
    · cases h
theorem QD {own nw : Bool} {c : List PV} : ∀ {ts : List TypeId} {j q : Nat} {vs : List (Val (std E N))} {hs : List (Nat × HEnt (std E N))}, A3 (O := std E N) P own nw c j q ts = some (vs, hs) →
    Row q hs ∧ OkH nw hs ∧ ∀ v ∈ vs, ∀ x ∈ v.cs, OkC q hs.length nw x
  | [], j, q, vs, hs, h => by
    simp only [A3] at h; cases h
    exact ⟨trivial, fun p hp => by simp at hp, fun x hx => by simp at hx⟩
  | t :: ts, j, q, vs, hs, h => by
    simp only [A3] at h
    split at h
    · cases h
    · split at h
      · cases h
      · rename_i cs h1 hc
        split at h
        · cases h
        · rename_i vs2 h2 hv
          cases h
          obtain ⟨a1, a2, a3⟩ := N3 hc
          obtain ⟨b1, b2, b3⟩ := QD hv
          refine ⟨a1.append b1, fun p hp => (List.mem_append.1 hp).elim (a2 p) (b2 p), fun v hv x hx => ?_⟩
          rcases List.mem_cons.1 hv with rfl | hv
          · exact (a3 x hx).wide (Nat.le_refl _) (by simp)
          · exact (b3 v hv x hx).wide (by omega) (by simp; omega)
theorem WL {u : List Nat} : ∀ {fr : List (Nat × Option (HEnt (std E N)))}, X1 u fr = true → ∀ x ∈ fr, x.1 ∉ u
 | [], _, x, hx => by simp at hx
 | (n, v) :: r, h, x, hx => by
  simp only [X1, Bool.and_eq_true, Bool.not_eq_true'] at h
  rcases List.mem_cons.1 hx with rfl | hx
  ·intro hm; have := CT.2 hm; rw [this] at h; cases h.1
  ·exact WL h.2 x hx
end
end Go.Px
end
section
namespace Go.Px
section
variable {E : Env} {N : Nat} {P : Program} {n0 n0' : Nz} {nt : Nat} {β β' : Nat → Option Nat} {σ σ' : Nat → Option (Nat × Nat)} {s s' : St0 E N} {a : Act} {w w' : World}
theorem RelC.moved {n0c : Nz} {σ1 : Nat → Option (Nat × Nat)} {s1 s2 : St0 E N} {q len : Nat} {nw : Bool} {c : AC0 E N} {v : Value} (hc : OkC q len nw c) (h : RelC P n0c noB σ1 s1 w c v)
    (hσ : ∀ n, q ≤ n → n < q + len → σ' n = σ1 n ∧ s2.getH n = s1.getH n) (hst : ∀ b, StB n0c noB σ1 s1 nw b → StB n0 β σ' s2 nw b) : RelC P n0 β σ' s2 w c v := by
  cases c with
  | int k i => exact h
  | bool b => exact h
  | str x => exact h
  | imm e n l =>
    have : n = nw := hc
    subst this
    obtain ⟨t, ht, hr⟩ := h
    exact ⟨t, ht, hr.st hst⟩
  | own e id =>
    obtain ⟨h1, h2⟩ := h
    obtain ⟨e1, e2⟩ := hσ id hc.1 hc.2
    refine ⟨h1, fun h3 hh3 => ?_⟩
    rw [e2] at hh3
    obtain ⟨a1, a2⟩ := h2 h3 hh3
    refine ⟨a1, ?_⟩
    unfold bk at a2 ⊢
    rw [e1]; exact a2
  | _ => exact hc.elim
theorem RelCs.moved {n0c : Nz} {σ1 : Nat → Option (Nat × Nat)} {s1 s2 : St0 E N} {q len : Nat} {nw : Bool} (hσ : ∀ n, q ≤ n → n < q + len → σ' n = σ1 n ∧ s2.getH n = s1.getH n) (hst : ∀ b, StB n0c noB σ1 s1 nw b → StB n0 β σ' s2 nw b) :
    ∀ {cs : List (AC0 E N)} {vs : List Value}, (∀ x ∈ cs, OkC q len nw x) → RelCs P n0c noB σ1 s1 w cs vs → RelCs P n0 β σ' s2 w cs vs
  | [], [], _, h => h
  | c :: cs, v :: vs, hc, h => ⟨RelC.moved (hc c List.mem_cons_self) h.1 hσ hst, RelCs.moved hσ hst (fun x hx => hc x (List.mem_cons_of_mem _ hx)) h.2⟩
  | [], _ :: _, _, h => h.elim
  | _ :: _, [], _, h => h.elim
theorem RelVals.moved {n0c : Nz} {σ1 : Nat → Option (Nat × Nat)} {s1 s2 : St0 E N} {q len : Nat} {nw : Bool} (hσ : ∀ n, q ≤ n → n < q + len → σ' n = σ1 n ∧ s2.getH n = s1.getH n) (hst : ∀ b, StB n0c noB σ1 s1 nw b → StB n0 β σ' s2 nw b) :
    ∀ {cs : List (Val (std E N))} {vs : List Value}, (∀ v ∈ cs, ∀ x ∈ v.cs, OkC q len nw x) → RelVals P n0c noB σ1 s1 w cs vs → RelVals P n0 β σ' s2 w cs vs
  | [], [], _, h => h
  | c :: cs, v :: vs, hc, h => ⟨⟨RelCs.moved hσ hst (hc c List.mem_cons_self) h.1.1, h.1.2⟩, RelVals.moved hσ hst (fun x hx => hc x (List.mem_cons_of_mem _ hx)) h.2⟩
  | [], _ :: _, _, h => h.elim
  | _ :: _, [], _, h => h.elim
theorem RelAV.moved {n0c : Nz} {σ1 : Nat → Option (Nat × Nat)} {s1 s2 : St0 E N} {q len : Nat} {nw : Bool} (hσ : ∀ n, q ≤ n → n < q + len → σ' n = σ1 n ∧ s2.getH n = s1.getH n) (hst : ∀ b, StB n0c noB σ1 s1 nw b → StB n0 β σ' s2 nw b)
    {vs : List (Val (std E N))} {v : Value} (hc : ∀ v ∈ vs, ∀ x ∈ v.cs, OkC q len nw x) (h : RelAV P n0c noB σ1 s1 w (Ie vs) v) : RelAV P n0 β σ' s2 w (Ie vs) v := by
  match vs, hc, h with
  | [x], hc, h => exact ⟨RelCs.moved hσ hst (hc x List.mem_cons_self) h.1, h.2⟩
  | [], hc, h => obtain ⟨us, hv, hr⟩ := h; exact ⟨us, hv, RelVals.moved hσ hst hc hr⟩
  | x :: y :: r, hc, h => obtain ⟨us, hv, hr⟩ := h; exact ⟨us, hv, RelVals.moved hσ hst hc hr⟩
def gu (a : Act) (P : Program) (n0 : Nz) (β : Nat → Option Nat) (σ : Nat → Option (Nat × Nat)) (s : St0 E N) (w : World) (new : Nat → Prop) (wr : Wr (std E N)) (vs : List (Val (std E N))) : Ending → World → Prop
 | .returned v, w' => ∃ σ', Mem P n0 β σ' (s.apply wr) w' ∧ Ext P new β σ s w β σ' (s.apply wr) w' ∧ Tidy a new s (s.apply wr) ∧ RelAV P n0 β σ' (s.apply wr) w' (Ie vs) v
 | _, _ => False
theorem jZ (hn0 : n0.n ≤ w.heap.size) (m : Mem P n0 β σ s w) {ci : CI} (hv : BT P E N ci) {fn : Func} (hfn : P.funcs[ci.f]? = some fn) {args : List (AV (std E N))} {vals : List Value} {ls : List Ab} {fr : List (Nat × Option (HEnt (std E N)))} {u : List Nat} {k k' : Nat}
    (hr : RelArgs P n0 β σ s w args vals) (ha : GG P fn.params.toList args = true) (hf : G5 args = some ci.fns) (hl : RM.run s (J4 (O := std E N) ci.gives [] args) k = .ok ((ls, fr, u), k')) (hgiv : VM ci.gives u fr = true)
    {rs : List PV} (he : E ci.f ci.fns (ls.map Leaf.pv) = some rs) {id : Nat} {vs : List (Val (std E N))} {nh : List (Nat × HEnt (std E N))} (hb : A3 (O := std E N) P ci.own ci.nw rs 0 id fn.resultTypes.toList = some (vs, nh))
    (hid : ∀ n, id ≤ n → n < id + nh.length → Fresh a s n) {wr : Wr (std E N)} (ht0 : wr.ts = []) (hwb : wr.bs = [])
    (hwr : wr.hs = (match ci.nw with | true => [] | false => fr) ++ (u.map (fun n => (n, none)) ++ nh.map fun (n, h) => (n, some h))) :
    Calls P ci.f vals.toArray w (gu a P n0 β σ s w (fun n => id ≤ n ∧ n < id + nh.length) wr vs) := by
  obtain ⟨frOK, vs0, nhc, ids, a1, a2, a3, a4, a5, a6, a7, a8⟩ := Ql m hr ha hf hl 1
  have hgv := hgiv
  unfold VM at hgv
  rw [Bool.and_eq_true] at hgv
  have hfru := WL hgv.1
  let sk := s.apply ({ hs := fr } : Wr (std E N))
  have subk : Sub s sk := frOK.sub rfl rfl
  let U : Nat → Prop := fun b => (¬ InM β σ sk b ∧ Old n0 false b) ∨ ∃ i cap h, i ∈ u ∧ s.getH i = some h ∧ h.frozen = false ∧ σ i = some (b, cap)
  let n0c : Nz := ⟨w.heap.size, U⟩
  let σc : Nat → Option (Nat × Nat) := fun n => match ids[n - 1]? with
    | some (some i) => σ i
    | _ => none
  have rowc := a2.row
  have gH0 : ∀ n, (AP nhc).getH n = AE nhc n := fun n => rfl
  have gB0 : ∀ n, (AP nhc).getB n = none := fun n => rfl
  have find : ∀ n h, (AP nhc).getH n = some h → ∃ i o, n = 1 + i ∧ ids[i]? = some o ∧ ed P s h o ∧ h.frozen = false ∧ σc n = o.bind σ := fun n h hh => by
    obtain ⟨i, o, h1, h2, h3, h4⟩ := a2.find (rowc.get hh)
    refine ⟨i, o, h1, h2, h3, h4, ?_⟩
    have : n - 1 = i := by omega
    simp only [σc, this, h2]
    cases o <;> rfl
  have inM0 : ∀ b, InM noB σc (AP nhc) b → ∃ i cap h, i ∈ u ∧ s.getH i = some h ∧ h.frozen = false ∧ σ i = some (b, cap) := fun b hb => by
    rcases hb with ⟨n, e, h1, h2⟩ | ⟨n, h, cap, h1, h2, h3⟩
    · rw [gB0] at h1; cases h1
    · obtain ⟨i, o, e1, e2, e3, e4, e5⟩ := find n h h1
      rw [e5] at h3
      cases o with
      | none => cases h3
      | some x =>
        obtain ⟨h0, q1, q2, q3, q4, q5⟩ := e3
        exact ⟨x, cap, h0, (a5 x (List.mem_of_getElem? e2)).1, q1, q4, h3⟩
  have inMs : ∀ b, InM noB σc (AP nhc) b → InM β σ s b := fun b hb => by
    obtain ⟨i, cap, h, _, h1, h2, h3⟩ := inM0 b hb
    exact .inr ⟨i, h, cap, h1, h2, h3⟩
  have inMk : ∀ b, InM noB σc (AP nhc) b → InM β σ sk b := fun b hb => by
    obtain ⟨i, cap, h, h0, h1, h2, h3⟩ := inM0 b hb
    refine .inr ⟨i, h, cap, ?_, h2, h3⟩
    show AE (A5 s.hp fr) i = some h
    rw [C9 (fun hm => by
      obtain ⟨x, hx, e⟩ := List.mem_map.1 hm
      exact hfru x hx (e ▸ h0))]
    exact h1
  have stc : ∀ nw b, StB n0 β σ s nw b → StB n0c noB σc (AP nhc) false b := fun nw b hb =>
    ⟨fun hm => hb.1 (inMs b hm), ⟨fun e => (by cases e), .inr (.inl ⟨fun hm => hb.1 (subk.inM hm), hb.2.mono (fun e => (by cases e))⟩)⟩⟩
  have m0 : Mem P n0c noB σc (AP nhc) w := by
    refine ⟨fun b e h => (by rw [gB0] at h; cases h), fun n h hh => ?_, fun b b' e e' blk h => (by rw [gB0] at h; cases h), fun n n' h h' blk cap cap' hh hh' h1 h2 => ?_, fun b e i h blk cap hb => (by rw [gB0] at hb; cases hb)⟩
    · obtain ⟨i, o, e1, e2, e3, e4, e5⟩ := find n h hh
      have hnw := a7 (n, h) (rowc.get hh)
      cases o with
      | none =>
        obtain ⟨q1, t, ts, q2, q3⟩ := e3
        exact ⟨t, ts, q2, q3, by rw [q1]; simp, .inl ⟨by rw [e5]; rfl, q1⟩⟩
      | some x =>
        obtain ⟨h0, q1, q2, q3, q4, q5⟩ := e3
        have hnw' : h.nw = false := hnw
        refine (m.H x h0 q1).view q2 q3 (by rw [e5]; rfl) (fun blk cap hs ho => ?_) (fun b hb => by rw [hnw']; exact stc _ b hb)
        rw [hnw']
        exact ⟨fun e => by (cases e), .inr (.inr ⟨x, cap, h0, (a5 x (List.mem_of_getElem? e2)).1, q1, q4, hs⟩)⟩
    · obtain ⟨i, o, e1, e2, e3, e4, e5⟩ := find n h hh
      obtain ⟨i', o', e1', e2', e3', e4', e5'⟩ := find n' h' hh'
      rw [e5] at h1; rw [e5'] at h2
      cases o with
      | none => cases h1
      | some x => cases o' with
        | none => cases h2
        | some x' =>
          obtain ⟨h0, q1, _⟩ := e3
          obtain ⟨h0', q1', _⟩ := e3'
          have := m.uH x x' h0 h0' blk cap cap' q1 q1' h1 h2
          subst this
          rw [e1, e1', Qi a6 e2 e2']
  have wired : Wired σ σc (AP nhc) 1 ids nhc := SW (fun i o p h1 h2 => by
    have h3 := rowc.idx h2
    refine ⟨?_, ?_⟩
    · have : 1 + i - 1 = i := by omega
      simp only [σc, this, h1]
      cases o <;> rfl
    · rw [gH0, ← h3]; exact rowc.has (List.mem_of_getElem? h2))
  have rargs := a8 sk n0c σc (AP nhc) subk (frOK.frz rfl) (fun b hb =>
    ⟨fun hm => hb.1 (inMk b hm), ⟨fun e => (by cases e), .inr (.inl ⟨hb.1, hb.2⟩)⟩⟩) wired
  have hlsl : (ls.map Leaf.pv).map PV.leaf = ls := by
    rw [List.map_map]
    conv => rhs; rw [← List.map_id ls]
    exact List.map_congr_left (fun x _ => Leaf.leaf_pv x)
  have hnil : U6 ci.gives = true → ∀ q, σc q = none := fun hn q => by
    have hu : u = [] := by
      have := hgv.2
      rw [hn] at this
      cases u with
      | nil => rfl
      | cons a b => cases this
    show (match ids[q - 1]? with | some (some i) => σ i | _ => none) = none
    split
    · rename_i i hi
      have := (a5 i (List.mem_of_getElem? hi)).1
      rw [hu] at this; cases this
    · rfl
  have hcall := hv fn hfn (ls.map Leaf.pv) rs he vs0 nhc (by rw [hlsl]; exact a1) n0c σc w vals rfl m0 rargs hnil
  refine Calls.mono hcall (fun e w' hret => ?_)
  cases e with
  | panicked c => exact hret
  | outgrown => exact hret
  | returned v =>
    obtain ⟨r1, r2, r3, r4, r5, r6⟩ := hret
    obtain ⟨σ1, vs', nh', r7, r8, r9, r10⟩ := r6 id
    rw [hb] at r7; cases r7
    obtain ⟨row1, okh, okc⟩ := QD hb
    let frx := match ci.nw with | true => [] | false => fr
    let base := s.apply ({ hs := frx } : Wr (std E N))
    let s2 := s.apply wr
    let σ2 : Nat → Option (Nat × Nat) := fun n => if id ≤ n ∧ n < id + nh.length then σ1 n else σ n
    have frxOK : FrOK s frx := by
      show FrOK s (match ci.nw with | true => [] | false => fr)
      cases ci.nw
      · exact frOK
      · exact fun n v hm => by simp at hm
    have gB := fun n => State.getB_apply0 s wr hwb n
    have gT := fun n => State.getT_apply0 s wr ht0 n
    have hs2 : s2.hp = A5 (A5 (A5 s.hp frx) (u.map fun n => (n, none))) (nh.map fun (n, h) => (n, some h)) := by
      show A5 s.hp wr.hs = _
      rw [hwr, E8, E8]
    have g1 : ∀ n, id ≤ n → n < id + nh.length → s2.getH n = AE nh n := fun n h1 h2 => by
      obtain ⟨h, hh⟩ := row1.at h1 h2
      rw [row1.has hh]
      show AE s2.hp n = _
      rw [hs2]
      refine RL (fun x hx e => ?_) ⟨(n, some h), List.mem_map.2 ⟨(n, h), hh, rfl⟩, rfl⟩
      obtain ⟨y, hy, rfl⟩ := List.mem_map.1 hx
      have h3 := row1.has (n := y.1) (h := y.2) hy
      simp only at e
      rw [e, row1.has hh] at h3
      cases h3; rfl
    have g2 : ∀ n, ¬ (id ≤ n ∧ n < id + nh.length) → s2.getH n = if n ∈ u then none else base.getH n := fun n hn => by
      show AE s2.hp n = _
      rw [hs2, C9 (fun hm => hn (by
        obtain ⟨x, hx, rfl⟩ := List.mem_map.1 hm
        obtain ⟨y, hy, rfl⟩ := List.mem_map.1 hx
        exact row1.mem y hy))]
      split
      · rename_i hu
        exact RL (fun x hx e => by obtain ⟨y, hy, rfl⟩ := List.mem_map.1 hx; rfl) ⟨(n, none), List.mem_map.2 ⟨n, hu, rfl⟩, rfl⟩
      · rename_i hu
        rw [C9 (fun hm => hu (by
          obtain ⟨x, hx, rfl⟩ := List.mem_map.1 hm
          obtain ⟨y, hy, rfl⟩ := List.mem_map.1 hx
          exact hy))]
        rfl
    have old : ∀ n h', ¬ (id ≤ n ∧ n < id + nh.length) → s2.getH n = some h' → n ∉ u ∧ base.getH n = some h' ∧ ∃ h0, s.getH n = some h0 ∧ (h' = h0 ∨ h' = { h0 with frozen := true, dirty := true }) := fun n h' hn hh => by
      rw [g2 n hn] at hh
      split at hh
      · cases hh
      · rename_i hu; exact ⟨hu, hh, frxOK.get rfl n h' hh⟩
    have nogiveH : ∀ n h0 b cap, n ∉ u → s.getH n = some h0 → σ n = some (b, cap) → ¬ InM noB σc (AP nhc) b := fun n h0 b cap hu hh hs hm => by
      obtain ⟨i, cap', h, q1, q2, q3, q4⟩ := inM0 b hm
      exact hu (m.uH n i h0 h b cap cap' hh q2 hs q4 ▸ q1)
    have nogiveB : ∀ n e b, s.getB n = some e → β n = some b → ¬ InM noB σc (AP nhc) b := fun n e b hh hs hm => by
      obtain ⟨i, cap', h, q1, q2, q3, q4⟩ := inM0 b hm
      exact m.uX n e i h b cap' hh q2 hs q4
    have in1 : ∀ n h b cap, id ≤ n ∧ n < id + nh.length → s2.getH n = some h → σ1 n = some (b, cap) → InM noB σ1 (AP nh) b := fun n h b cap hn hh hs => by
      rw [g1 n hn.1 hn.2] at hh
      exact .inr ⟨n, h, cap, hh, (okh _ (row1.get hh)).2.1, hs⟩
    have s2old : ∀ n, ¬ (id ≤ n ∧ n < id + nh.length) → σ2 n = σ n := fun n hn => by simp only [σ2, if_neg hn]
    have s2new : ∀ n, id ≤ n ∧ n < id + nh.length → σ2 n = σ1 n := fun n hn => by simp only [σ2, if_pos hn]
    have x : Ext P (fun n => id ≤ n ∧ n < id + nh.length) β σ s w β σ2 s2 w' := by
      refine ⟨r1, r2, r3, r4, fun b hlt hm => r5 b hlt (fun h => hm (inMs b h)), fun b hb => ?_, fun n e hh hn => ?_, fun n h' hh hn => ?_⟩
      · rcases hb with ⟨n, e, h1, h2⟩ | ⟨n, h, cap, h1, h2, h3⟩
        · rw [gB] at h1; exact .inl (.inl ⟨n, e, h1, h2⟩)
        · by_cases hn : id ≤ n ∧ n < id + nh.length
          · rw [s2new n hn] at h3
            exact (r10 b (in1 n h b cap hn h1 h3)).imp (inMs b) (fun h => h)
          · rw [s2old n hn] at h3
            obtain ⟨_, _, h0, q1, q2⟩ := old n h hn h1
            rcases q2 with rfl | rfl
            · exact .inl (.inr ⟨n, h, cap, q1, h2, h3⟩)
            · cases h2
      · rw [gB] at hh; exact ⟨⟨e, hh⟩, rfl⟩
      · obtain ⟨_, _, h0, q1, q2⟩ := old n h' hn hh
        refine ⟨h0, q1, s2old n hn, ?_⟩
        rcases q2 with rfl | rfl <;> exact ⟨rfl, rfl⟩
    have stR : ∀ b, StB n0c noB σ1 (AP nh) ci.nw b → StB n0 β σ2 s2 ci.nw b := fun b hb => by
      have hge : (¬ w.heap.size ≤ b) → ci.nw = false := fun h => by
        cases hnw : ci.nw with
        | false => rfl
        | true => exact (h (hb.2.1 hnw)).elim
      refine ⟨fun hm => ?_, ⟨fun e => Nat.le_trans hn0 (hb.2.1 e), ?_⟩⟩
      · rcases hm with ⟨n, e, h1, h2⟩ | ⟨n, h, cap, h1, h2, h3⟩
        · rw [gB] at h1
          have hlt := m.ltB h1 h2
          rcases hb.2.2 with h | ⟨h, _⟩ | ⟨i, cap', h, q1, q2, q3, q4⟩
          · have : w.heap.size ≤ b := h
            omega
          · exact h (.inl ⟨n, e, by show (s.apply _).getB n = _; rw [State.getB_apply0 s _ rfl]; exact h1, h2⟩)
          · exact m.uX n e i h b cap' h1 q2 h2 q4
        · by_cases hn : id ≤ n ∧ n < id + nh.length
          · rw [s2new n hn] at h3
            exact hb.1 (in1 n h b cap hn h1 h3)
          · rw [s2old n hn] at h3
            obtain ⟨hu, hbase, h0, q1, q2⟩ := old n h hn h1
            have hlt := m.ltH q1 h3
            rcases hb.2.2 with h | ⟨h, _⟩ | ⟨i, cap', hi, p1, p2, p3, p4⟩
            · have : w.heap.size ≤ b := h
              omega
            · have hnw := hge (by omega)
              refine h (.inr ⟨n, _, cap, ?_, h2, h3⟩)
              have : base = sk := by simp only [base, frx, hnw]; rfl
              rw [← this]; exact hbase
            · exact hu (m.uH n i h0 hi b cap cap' q1 p2 h3 p4 ▸ p1)
      · rcases hb.2.2 with h | ⟨_, h⟩ | ⟨i, cap', hi, p1, p2, p3, p4⟩
        · exact .inl (Nat.le_trans hn0 h)
        · exact h.2
        · obtain ⟨t, ts, _, _, _, hm⟩ := m.H i hi p2
          rcases hm with ⟨h1, _⟩ | ⟨blk, cap, cells, el, h1, _, _, _, _, ho, _⟩
          · rw [h1] at p4; cases p4
          · rw [h1] at p4; cases p4; exact ho.2
    have newold : ∀ n h b cap, id ≤ n ∧ n < id + nh.length → s2.getH n = some h → σ1 n = some (b, cap) → (∀ n' h' cap', ¬ (id ≤ n' ∧ n' < id + nh.length) → s2.getH n' = some h' → σ n' ≠ some (b, cap')) ∧ (∀ n' e, s.getB n' = some e → β n' ≠ some b) := fun n h b cap hn hh hs => by
      have := r10 b (in1 n h b cap hn hh hs)
      refine ⟨fun n' h' cap' hn' hh' hs' => ?_, fun n' e hh' hs' => ?_⟩
      · obtain ⟨hu, _, h0, q1, _⟩ := old n' h' hn' hh'
        rcases this with h | h
        · exact nogiveH n' h0 b cap' hu q1 hs' h
        · have := m.ltH q1 hs'; omega
      · rcases this with h | h
        · exact nogiveB n' e b hh' hs' h
        · have := m.ltB hh' hs'; omega
    have tidy : Tidy a (fun n => id ≤ n ∧ n < id + nh.length) s s2 := by
      refine ⟨fun n hf hn => ⟨fun q tv hq => ?_, fun q e hq => ?_, fun q h hq => ?_⟩, fun n e hh hd => ?_, fun n h hh hd => ?_⟩
      · rw [gT] at hq; exact hf.t q tv hq
      · rw [gB] at hq; exact hf.b q e hq
      · by_cases hr : id ≤ q ∧ q < id + nh.length
        · exact fun e => hn (e ▸ hr)
        · obtain ⟨_, _, h0, q1, _⟩ := old q h hr hq
          exact hf.h q h0 q1
      · rw [gB] at hh; exact hh
      · by_cases hr : id ≤ n ∧ n < id + nh.length
        · rw [g1 n hr.1 hr.2] at hh
          have := (okh _ (row1.get hh)).2.2
          simp only at this
          rw [this] at hd; cases hd
        · obtain ⟨_, _, h0, q1, q2⟩ := old n h hr hh
          rcases q2 with rfl | rfl
          · exact q1
          · cases hd
    refine ⟨σ2, ⟨fun n e hh => ?_, fun n h hh => ?_, fun b b' e e' blk h h' => ?_, fun n n' h h' blk cap cap' hh hh' h1 h2 => ?_, fun b e i h blk cap hb' hi h1 h2 => ?_⟩, x, tidy, ?_⟩
    · rw [gB] at hh
      obtain ⟨blk, cells, el, q1, q2, q3⟩ := m.B n e hh
      exact ⟨blk, cells, el, q1, (r5 blk (CR q2) (nogiveB n e blk hh q1)).trans q2, x.relCs (fun k hk hn => ((hid k hn.1 hn.2).b n e hh).2 hk) q3⟩
    · by_cases hn : id ≤ n ∧ n < id + nh.length
      · have hh' := hh
        rw [show (s.apply wr).getH n = AE nh n from g1 n hn.1 hn.2] at hh'
        have hnw : h.nw = ci.nw := (okh _ (row1.get hh')).1
        refine (r8.H n h hh').view rfl rfl (s2new n hn) (fun blk cap hs ho => ?_) (fun b hb => by rw [hnw] at hb ⊢; exact stR b hb)
        refine ⟨fun e => Nat.le_trans hn0 (ho.1 e), ?_⟩
        rcases ho.2 with h | ⟨_, h⟩ | ⟨i, cap', hi, p1, p2, p3, p4⟩
        · exact .inl (Nat.le_trans hn0 h)
        · exact h.2
        · obtain ⟨t, ts, _, _, _, hm⟩ := m.H i hi p2
          rcases hm with ⟨h1, _⟩ | ⟨blk', cap, cells, el, h1, _, _, _, _, ho, _⟩
          · rw [h1] at p4; cases p4
          · rw [h1] at p4; cases p4; exact ho.2
      · obtain ⟨hu, _, h0, q1, q2⟩ := old n h hn hh
        obtain ⟨t, ts, ht, hts, hrl, hm⟩ := m.H n h0 q1
        have key : RelH P n0 β σ2 s2 w' n h0 := by
          refine ⟨t, ts, ht, hts, hrl, ?_⟩
          rcases hm with ⟨p1, p2⟩ | ⟨blk, cap, cells, el, p1, p2, p3, p4, p5, p6, v', p7, p8⟩
          · exact .inl ⟨by rw [s2old n hn]; exact p1, p2⟩
          · exact .inr ⟨blk, cap, cells, el, by rw [s2old n hn]; exact p1, (r5 blk (CR p2) (nogiveH n h0 blk cap hu q1 p1)).trans p2, p3, p4, p5, p6, v', p7, fun i j t' hi hj => x.rep (p8 i j t' hi hj)⟩
        rcases q2 with rfl | rfl
        · exact key
        · exact key.view (q := n) rfl rfl rfl (fun _ _ _ h => h) (fun b h => h)
    · rw [gB] at h h'; exact m.uB b b' e e' blk h h'
    · by_cases hn : id ≤ n ∧ n < id + nh.length <;> by_cases hn' : id ≤ n' ∧ n' < id + nh.length
      · rw [s2new n hn] at h1; rw [s2new n' hn'] at h2
        rw [show (s.apply wr).getH n = AE nh n from g1 n hn.1 hn.2] at hh
        rw [show (s.apply wr).getH n' = AE nh n' from g1 n' hn'.1 hn'.2] at hh'
        exact r8.uH n n' h h' blk cap cap' hh hh' h1 h2
      · rw [s2new n hn] at h1; rw [s2old n' hn'] at h2
        exact ((newold n h blk cap hn hh h1).1 n' h' cap' hn' hh' h2).elim
      · rw [s2old n hn] at h1; rw [s2new n' hn'] at h2
        exact ((newold n' h' blk cap' hn' hh' h2).1 n h cap hn hh h1).elim
      · rw [s2old n hn] at h1; rw [s2old n' hn'] at h2
        obtain ⟨_, _, h0, q1, _⟩ := old n h hn hh
        obtain ⟨_, _, h0', q1', _⟩ := old n' h' hn' hh'
        exact m.uH n n' h0 h0' blk cap cap' q1 q1' h1 h2
    · rw [gB] at hb'
      by_cases hn : id ≤ i ∧ i < id + nh.length
      · rw [s2new i hn] at h2
        exact (newold i h blk cap hn hi h2).2 b e hb' h1
      · rw [s2old i hn] at h2
        obtain ⟨_, _, h0, q1, _⟩ := old i h hn hi
        exact m.uX b e i h0 blk cap hb' q1 h1 h2
    · exact RelAV.moved (fun n h1 h2 => ⟨s2new n ⟨h1, h2⟩, g1 n h1 h2⟩) stR okc r9
end
end Go.Px
end
section
namespace Go.Px
section
variable {E : Env} {N : Nat} {P : Program} {n0 n0' : Nz} {nt : Nat} {β β' : Nat → Option Nat} {σ σ' : Nat → Option (Nat × Nat)} {s s' : St0 E N} {a : Act} {w w' : World}
def GI (s : St0 E N) (done : List Nat) : Prop := ∀ n tv, s.getT n = some tv → ∀ g ∈ tv.gs, g.1 ∈ done
def After (P : Program) (n0 : Nz) (nt : Nat) (new : Nat → Prop) (β : Nat → Option Nat) (σ : Nat → Option (Nat × Nat)) (s : St0 E N) (a : Act) (w : World) (dst : Option Nat) (wr : Wr (std E N)) (a' : Act) (w' : World) : Prop :=
  ∃ β' σ', Sim P n0 nt β' σ' (s.apply wr) a' w' ∧ Ext P new β σ s w β' σ' (s.apply wr) w' ∧ (∀ n, Fresh a s n → ¬ new n → Fresh a' (s.apply wr) n) ∧
    (∀ n e, (s.apply wr).getB n = some e → e.dirty = false → s.getB n = some e) ∧ (∀ n e, (s.apply wr).getH n = some e → e.dirty = false → s.getH n = some e) ∧
    a'.defers = a.defers ∧ ∀ n, dst ≠ some n → a'.tmps.getD n undef = a.tmps.getD n undef
theorem ED {a : Act} {d n : Nat} {v : Value} (h : n ≠ d) : (a.put (some d) v).tmps.getD n undef = a.tmps.getD n undef := by
 simp only [Act.put]
 rw [Array.getD_eq_getD_getElem?, Array.getD_eq_getD_getElem?, Array.getElem?_setIfInBounds]
 rw [if_neg (fun e => h e.symm)]
theorem KC {a : Act} {d : Nat} {v : Value} (h : d < a.tmps.size) : (a.put (some d) v).tmps.getD d undef = v := by
 simp only [Act.put]
 rw [Array.getD_eq_getD_getElem?, Array.getElem?_setIfInBounds]
 simp [h]
theorem FZ {a : Act} {d : Nat} {v : Value} {gs : List (Nat × Bool)} (h : ∀ g ∈ gs, g.1 ≠ d) : Facts (a.put (some d) v) gs ↔ Facts a gs := by
 constructor
 ·intro hf n b hm; rw [← hf n b hm, ED (h _ hm)]
 ·intro hf n b hm; rw [ED (h _ hm)]; exact hf n b hm
theorem cK {n : Nat} (h : ¬ n < Cv) : s.getT n = none := by
 unfold State.getT CQ
 cases hb : Nat.blt n Cv with
 | false => rfl
 | true => exact (h (BL.1 hb)).elim
theorem QS (hs : Sim P n0 nt β σ s a w) {done : List Nat} (gi : GI s done) {d : Nat} (hd : d ∉ done) (hdn : d < nt) {new : Nat → Prop} (hnew : ∀ n, new n → Fresh a s n)
    {ctx : List (Nat × Bool)} (hctx : ∀ g ∈ ctx, g.1 ∈ done) {av : AV (std E N)} {bs : List (Nat × Option (BEnt (std E N)))} {hh : List (Nat × Option (HEnt (std E N)))} {z : Value}
    (m : Mem P n0 β' σ' (s.apply { bs := bs, hs := hh }) w') (x : Ext P new β σ s w β' σ' (s.apply { bs := bs, hs := hh }) w') (t : Tidy a new s (s.apply { bs := bs, hs := hh }))
    (hz : (Facts a ctx ∧ RelAV P n0 β' σ' (s.apply { bs := bs, hs := hh }) w' av z ∧ ∀ n, Fresh a s n → ¬ new n → n ∉ av.names) ∨ (¬ Facts a ctx ∧ z = undef)) :
    After P n0 nt new β σ s a w (some d) { ts := [(d, some ⟨ctx, av⟩)], bs := bs, hs := hh } (a.put (some d) z) w' := by
  let wr : Wr (std E N) := { ts := [(d, some ⟨ctx, av⟩)], bs := bs, hs := hh }
  have gT := fun n => State.getT_apply1 s d (some ⟨ctx, av⟩) wr rfl n
  have sub : Sub (s.apply { bs := bs, hs := hh }) (s.apply wr) := Sub.of_same (fun _ => rfl) (fun _ => rfl)
  have x2 := (x.trans (sub.ext P (fun _ => False) β' σ' w')).weaken (fun n (h : new n ∨ False) => h.elim (fun h => h) (fun h => h.elim))
  have ne : ∀ {g : Nat × Bool}, g.1 ∈ done → g.1 ≠ d := fun hg e => hd (e ▸ hg)
  have hsz : (a.put (some d) z).tmps.size = nt := by simp [Act.put, hs.size]
  refine ⟨β', σ', ⟨Nat.le_trans hs.n0le x.size, hsz, fun n tv hn => ?_, sub.mem m⟩, x2, fun n hf hn => ⟨fun k tv hk hg => ?_, fun k e he => (t.fresh n hf hn).b k e he, fun k e he => (t.fresh n hf hn).h k e he⟩, t.cleanB, t.cleanH, rfl, fun n hn => ED (fun e => hn (by rw [e]))⟩
  · rw [gT] at hn
    split at hn
    · rename_i he
      cases hn
      rw [he.1, KC (by rw [hs.size]; exact hdn)]
      rcases hz with ⟨h1, h2, _⟩ | ⟨h1, h2⟩
      · exact .inl ⟨(FZ (fun g hg => ne (hctx g hg))).2 h1, (sub.ext P (fun _ => False) β' σ' w').relAV (fun _ _ h => h) h2⟩
      · exact .inr ⟨fun h => h1 ((FZ (fun g hg => ne (hctx g hg))).1 h), h2⟩
    · rename_i he
      have hnd : n ≠ d := fun e => by
        by_cases hb : d < Cv
        · exact he ⟨e, hb⟩
        · rw [e, cK hb] at hn; cases hn
      rw [ED hnd]
      have hg : ∀ g ∈ tv.gs, g.1 ≠ d := fun g hg => ne (gi n tv hn g hg)
      rcases hs.T n tv hn with ⟨h1, h2⟩ | ⟨h1, h2⟩
      · exact .inl ⟨(FZ hg).2 h1, x2.relAV (fun k hk hnw => (hnew k hnw).t n tv hn h1 hk) h2⟩
      · exact .inr ⟨fun h => h1 ((FZ hg).1 h), h2⟩
  · rw [gT] at hk
    split at hk
    · rename_i he
      cases hk
      have hg' := (FZ (fun g hg => ne (hctx g hg))).1 hg
      rcases hz with ⟨_, _, h3⟩ | ⟨h1, _⟩
      · exact h3 n hf hn
      · exact (h1 hg').elim
    · exact hf.t k tv hk ((FZ (fun g hg => ne (gi k tv hk g hg))).1 hg)
theorem GI.put {done : List Nat} (gi : GI s done) {d : Nat} {ctx : List (Nat × Bool)} (hctx : ∀ g ∈ ctx, g.1 ∈ done) {av : AV (std E N)} {wr : Wr (std E N)} (hw : wr.ts = [(d, some ⟨ctx, av⟩)]) : GI (s.apply wr) (d :: done) := by
 intro n tv hn g hg
 rw [State.getT_apply1 s d _ wr hw] at hn
 split at hn
 ·cases hn; exact List.mem_cons_of_mem _ (hctx g hg)
 ·exact List.mem_cons_of_mem _ (gi n tv hn g hg)
theorem Xx (hs : Sim P n0 nt β σ s a w) {new : Nat → Prop} (hnew : ∀ n, new n → Fresh a s n) {wr : Wr (std E N)} (ht0 : wr.ts = [])
    (m : Mem P n0 β' σ' (s.apply wr) w') (x : Ext P new β σ s w β' σ' (s.apply wr) w') (t : Tidy a new s (s.apply wr)) : After P n0 nt new β σ s a w none wr a w' := by
  refine ⟨β', σ', ⟨Nat.le_trans hs.n0le x.size, hs.size, fun n tv hn => ?_, m⟩, x, t.fresh, t.cleanB, t.cleanH, rfl, fun _ _ => rfl⟩
  rw [State.getT_apply0 s wr ht0] at hn
  rcases hs.T n tv hn with ⟨h1, h2⟩ | ⟨h1, h2⟩
  · exact .inl ⟨h1, x.relAV (fun k hk hnw => (hnew k hnw).t n tv hn h1 hk) h2⟩
  · exact .inr ⟨h1, h2⟩
theorem bQ (hs : Sim P n0 nt β σ s a w) {done : List Nat} (gi : GI s done) {ops : Array Oper} {o : Oper} {ctx : List (Nat × Bool)} {k k' : Nat} (h : RM.run s (aE (O := std E N) ops.toList o) k = .ok (ctx, k'))
    (hg : ∀ j want d, o.guard = some (j, want) → (ops[j]?).bind (·.dst) = some d → d ∈ done) :
    (Region.wanted o (yielded ops a.tmps) = true ↔ Facts a ctx) ∧ (∀ g ∈ ctx, g.1 ∈ done) ∧ (o.guard = none → ctx = []) := by
  unfold aE at h
  split at h
  · rename_i hn
    cases RM.ret_ok h
    exact ⟨⟨fun _ n b hm => by simp at hm, fun _ => by simp [Region.wanted, hn]⟩, fun g hm => by simp at hm, fun _ => rfl⟩
  · rename_i j want hn
    split at h
    · rename_i d hd
      obtain ⟨k1, h⟩ := RM.t_ok h
      cases ht : s.getT d with
      | none => rw [ht] at h; exact (RM.fail_ok h).elim
      | some tv =>
        rw [ht] at h
        cases RM.ret_ok h
        have hd' : (ops[j]?).bind (·.dst) = some d := by rw [← Array.getElem?_toList]; exact hd
        have hdd := hg j want d hn hd'
        have hy : yielded ops a.tmps j = some want ↔ a.tmps.getD d undef = .bool want := by
          unfold yielded
          rw [hd', Option.bind_some, Array.getD_eq_getD_getElem?]
          cases hx : a.tmps[d]? with
          | none => simp [undef]
          | some v => cases v <;> simp
        have hw : Region.wanted o (yielded ops a.tmps) = true ↔ a.tmps.getD d undef = .bool want := by
          rw [← hy]; simp [Region.wanted, hn]
        refine ⟨⟨fun h => ?_, fun hf => hw.2 (hf d want List.mem_cons_self)⟩, fun g hm => ?_, fun h => by rw [hn] at h; cases h⟩
        · have hv := hw.1 h
          rcases hs.T d tv ht with ⟨h1, _⟩ | ⟨_, h2⟩
          · intro n b hm
            rcases List.mem_cons.1 hm with e | hm
            · cases e; exact hv
            · exact h1 n b hm
          · rw [hv] at h2; simp [undef] at h2
        · rcases List.mem_cons.1 hm with rfl | hm
          · exact hdd
          · exact gi d tv ht g hm
    · exact (RM.fail_ok h).elim
theorem M8 : ∀ {gs : List (Nat × Bool)} {m m' : Nat}, RM.run s (Xe (O := std E N) gs) m = .ok (none, m') → gs = []
 | [], _, _, _ => rfl
 | (n, want) :: r, m, m', h => by
  obtain ⟨m1, h⟩ := RM.t_ok h
  split at h
  ·obtain ⟨g, m2, h1, h2⟩ := RM.bind_ok h
   have := RM.ret_ok h2
   cases this
  ·exact (RM.fail_ok h).elim
theorem WD : ∀ {fr l : List (Nat × Option (HEnt (std E N)))} {k k' : Nat}, RM.run s (XB (O := std E N) fr) k = .ok (l, k') → FrOK s l ∧ (FrOK s fr → l = fr)
 | [], l, k, k', h => by cases RM.ret_ok h; exact ⟨fun _ _ hm => by simp at hm, fun _ => rfl⟩
 | (n, v) :: r, l, k, k', h => by
  obtain ⟨k1, h⟩ := RM.h_ok h
  cases hh : s.getH n with
  | none => rw [hh] at h; exact (RM.fail_ok h).elim
  | some e =>
   rw [hh] at h
   obtain ⟨l2, k2, h1, h2⟩ := RM.bind_ok h
   cases RM.ret_ok h2
   obtain ⟨a1, a2⟩ := WD h1
   refine ⟨fun q v hm => ?_, fun hf => ?_⟩
   ·rcases List.mem_cons.1 hm with e1 | hm
    ·cases e1; exact ⟨e, hh, rfl⟩
    ·exact a1 q v hm
   ·obtain ⟨h0, q1, q2⟩ := hf n v List.mem_cons_self
    rw [hh] at q1; cases q1
    rw [a2 (fun q v hm => hf q v (List.mem_cons_of_mem _ hm)), q2]
end
end Go.Px
end
section
namespace Go.Px
section
variable {E : Env} {N : Nat} {P : Program} {cfg : Cfg} {n0 n0' : Nz} {nt : Nat} {β β' : Nat → Option Nat} {σ σ' : Nat → Option (Nat × Nat)} {s s' : St0 E N} {a : Act} {w w' : World}
theorem Tidy.of_sub {fr : List (Nat × Option (HEnt (std E N)))} (h : PreOK s fr) {wr : Wr (std E N)} (hw : wr.hs = fr) (hb : wr.bs = []) (ht : wr.ts = []) (new : Nat → Prop) : Tidy a new s (s.apply wr) where
 fresh n hf _ := ⟨fun k tv hk => by rw [State.getT_apply0 s wr ht] at hk; exact hf.t k tv hk, fun k e he => by rw [State.getB_apply0 s wr hb] at he; exact hf.b k e he, fun k e he => by
  obtain ⟨h0, q1, _⟩ := h.get hw k e he; exact hf.h k h0 q1⟩
 cleanB n e he hd := by rw [State.getB_apply0 s wr hb] at he; exact he
 cleanH n e he hd := by
  obtain ⟨h0, q1, q2⟩ := h.get hw n e he
  rcases q2 with rfl | rfl
  ·exact q1
  ·cases hd
theorem Tidy.weaken {new new' : Nat → Prop} (t : Tidy a new s s') (h : ∀ n, new n → new' n) : Tidy a new' s s' :=
 ⟨fun n hf hn => t.fresh n hf (fun k => hn (h n k)), t.cleanB, t.cleanH⟩
theorem fa {o : Oper} (h : eT P o.op = true) : 0 < BS P o := by
 unfold eT at h
 unfold BS
 cases hop : o.op <;> rw [hop] at h <;> first | (exact Nat.one_pos) | (cases h; done) | skip
 rename_i c
 simp only at h ⊢
 cases hc : c.callee <;> rw [hc] at h <;> first | (exact Nat.one_pos) | cases h
theorem ZV : ∀ {gam : List CI} {f : Nat} {fns : List Nat} {ci : CI}, SB gam f fns = some ci → ci ∈ gam ∧ ci.f = f ∧ ci.fns = fns
 | c :: l, f, fns, ci, h => by
  simp only [SB] at h
  split at h
  ·rename_i hb
   cases h
   simp only [Bool.and_eq_true] at hb
   exact ⟨List.mem_cons_self, AA.1 hb.1, HN.1 hb.2⟩
  ·obtain ⟨h1, h2⟩ := ZV h
   exact ⟨List.mem_cons_of_mem _ h1, h2⟩
 | [], _, _, _, h => by simp [SB] at h
theorem RZ {ctx : List (Nat × Bool)} {g : Option Bool} {id : Nat} {d : Option Nat} {f : FuncId} {caps : List (Nat × Nat)} {args : List (AV (std E N))} {sr : StepRes (std E N)} {m m' : Nat}
    (h : RM.run s (XO (O := std E N) P cfg ctx g id d f caps args) m = .ok (sr, m')) :
    (g = none ∧ sr = .inl f (args ++ caps.map fun (b, o) => one (.ptr b o))) ∨
    (caps = [] ∧ ∃ fns ci fn ls fr u dm m2 m3, G5 args = some fns ∧ SB cfg.gam f fns = some ci ∧ P.funcs[f]? = some fn ∧ fn.body.isSome = true ∧ (fn.name == "runtime.NumGoroutine") = false ∧ GG P fn.params.toList args = true ∧
      RM.run s (J4 (O := std E N) ci.gives [] args) m2 = .ok ((ls, fr, u), m3) ∧ VM ci.gives u fr = true ∧
      sr = .call g f fns ls dm (bm P ctx g id d ci fn fr u)) := by
  unfold XO at h
  cases caps with
  | cons c0 cr => cases g with
    | none => exact .inl ⟨rfl, (RM.ret_ok h).symm⟩
    | some b => exact (RM.fail_ok h).elim
  | nil => cases g with
    | none =>
      simp only at h
      split at h
      · exact .inl ⟨rfl, (RM.ret_ok h).symm⟩
      · rename_i fns hfns
        split at h
        · exact .inl ⟨rfl, (RM.ret_ok h).symm⟩
        · rename_i ci hci
          split at h
          · exact (RM.fail_ok h).elim
          · rename_i fn hfn
            obtain ⟨_, m1, h1, h2⟩ := RM.bind_ok h
            obtain ⟨⟨ls, fr, u⟩, m2, h3, h4⟩ := RM.bind_ok h2
            have hg := RM.guard_ok h1
            simp only [Bool.and_eq_true, Bool.not_eq_true'] at hg
            simp only at h4
            split at h4
            · rename_i dm hdm hnone
              have := RM.ret_ok h4
              exact .inr ⟨rfl, fns, ci, fn, ls, fr, u, dm, m1, m2, hfns, hci, hfn, hg.1.1, hg.1.2, hg.2, h3, hnone, this.symm⟩
            · exact (RM.fail_ok h4).elim
    | some b =>
      simp only at h
      split at h
      · exact (RM.fail_ok h).elim
      · rename_i fns hfns
        split at h
        · exact (RM.fail_ok h).elim
        · rename_i ci hci
          split at h
          · exact (RM.fail_ok h).elim
          · rename_i fn hfn
            obtain ⟨_, m1, h1, h2⟩ := RM.bind_ok h
            obtain ⟨⟨ls, fr, u⟩, m2, h3, h4⟩ := RM.bind_ok h2
            have hg := RM.guard_ok h1
            simp only [Bool.and_eq_true, Bool.not_eq_true'] at hg
            simp only at h4
            split at h4
            · rename_i dm hdm hnone
              have := RM.ret_ok h4
              exact .inr ⟨rfl, fns, ci, fn, ls, fr, u, dm, m1, m2, hfns, hci, hfn, hg.1.1, hg.1.2, hg.2, h3, hnone, this.symm⟩
            · exact (RM.fail_ok h4).elim
theorem U8 {ops : Array Oper} {o : Oper} {i id : Nat} {done : List Nat} {Q : Exit → Act → World → Prop} {K : Act → World → Prop} {as : List Bool} {wr : Wr (std E N)} {m m' : Nat}
    (hs : Sim P n0 nt β σ s a w) (gi : GI s done) (hg : ∀ j want d, o.guard = some (j, want) → (ops[j]?).bind (·.dst) = some d → d ∈ done) (hdst : ∀ d, o.dst = some d → d ∉ done ∧ d < nt)
    (hid : ∀ n, id ≤ n → n < id + BS P o → Fresh a s n) (ho : ops[i]? = some o) (h : RM.run s (LC P cfg ops.toList o id) m = .ok (.plain as wr, m')) (has : ∀ b ∈ as, b = true)
    (hK : ∀ a' w', After P n0 nt (fun n => id ≤ n ∧ n < id + BS P o) β σ s a w o.dst wr a' w' → GI (s.apply wr) (o.dst.toList ++ done) → K a' w') : wpOp P ops Q i K a w := by
  unfold LC at h
  obtain ⟨ctx, m1, h1, h2⟩ := RM.bind_ok h
  obtain ⟨g, m2, h3, h4⟩ := RM.bind_ok h2
  obtain ⟨c1, c2, c3⟩ := bQ hs gi h1 hg
  have hnew : ∀ n, (id ≤ n ∧ n < id + BS P o) → Fresh a s n := fun n h => hid n h.1 h.2
  have goW : ∀ (hw : Region.wanted o (yielded ops a.tmps) = true), o.wp P a w K Q → wpOp P ops Q i K a w := fun hw h => by
    unfold wpOp; simp only [ho, hw, if_true]; exact .inl h
  have goN : ∀ (hw : ¬ Region.wanted o (yielded ops a.tmps) = true), K (a.put o.dst undef) w → wpOp P ops Q i K a w := fun hw h => by
    unfold wpOp; simp only [ho, hw, if_false]; exact h
  split at h4
  ·
    rename_i T x y hop
    split at h4
    · exact (RM.fail_ok h4).elim
    · have hctx : ctx = [] := M8 h3
      subst hctx
      have hf : Facts a [] := fun n b hm => by simp at hm
      obtain ⟨p, m3, h5, h6⟩ := RM.bind_ok h4
      obtain ⟨v, m4, h7, h8⟩ := RM.bind_ok h6
      obtain ⟨wr', m5, h9, h10⟩ := RM.bind_ok h8
      split at h10
      · rename_i hd
        have hr := RM.ret_ok h10
        simp only [StepRes.plain.injEq] at hr
        obtain ⟨rfl, rfl⟩ := hr
        obtain ⟨hp, _, _⟩ := EU hs hf h5
        obtain ⟨hv, hvn⟩ := Jd hs hf h7
        obtain ⟨w', r1, r2, r3, r4, r5⟩ := eV (a := a) hs.n0le hs.M hp hv.1 hvn h9
        refine goW (c1.2 hf) ?_
        unfold Oper.wp
        have : (execOp a.eval o).run P w = .ok .skip w' := by simp [execOp, hop, r1]
        rw [this]
        show K (a.put o.dst undef) w'
        rw [hd]
        refine hK _ _ ?_ ?_
        · rw [hd]
          exact Xx hs hnew r5 r2 (r3.weaken (fun n h => h.elim)) (r4.weaken (fun n h => h.elim))
        · rw [hd]
          intro n tv hn
          rw [State.getT_apply0 s _ r5] at hn
          exact gi n tv hn
      · exact (RM.fail_ok h10).elim
  ·
    obtain ⟨f, m3, h5, h6⟩ := RM.bind_ok h4
    split at h6
    · split at h6
      · exact (RM.fail_ok h6).elim
      · obtain ⟨_, m40, h60, h61⟩ := RM.bind_ok h6
        obtain ⟨args, m4, h7, h8⟩ := RM.bind_ok h61
        rcases RZ h8 with ⟨_, h9⟩ | ⟨_, fns, ci, fn, ls, fr, u, dm, m2, m3, _, _, _, _, _, _, _, _, h9⟩ <;> cases h9
    · exact (RM.fail_ok h6).elim
  ·
    rename_i hmem _ _
    split at h4
    · rename_i d hd
      have hctx : ctx = [] := M8 h3
      subst hctx
      have hf : Facts a [] := fun n b hm => by simp at hm
      obtain ⟨⟨as', c, wr'⟩, m3, h5, h6⟩ := RM.bind_ok h4
      have hr := RM.ret_ok h6
      simp only [StepRes.plain.injEq] at hr
      obtain ⟨rfl, rfl⟩ := hr
      have hpos := fa hmem
      obtain ⟨z, β', σ', w', r1, r2, r3, r4, r5, r6, r7⟩ := gp hs hf (hid id (Nat.le_refl _) (by omega)) h5 has
      have hwr : wr' = { bs := wr'.bs, hs := wr'.hs } := by cases wr'; simp only at r7; subst r7; rfl
      refine goW (c1.2 hf) ?_
      unfold Oper.wp
      rw [r1]
      show K (a.put o.dst z) w'
      rw [hd]
      have hdd := hdst d hd
      refine hK _ _ ?_ ?_
      · rw [hd]
        rw [hwr] at r2 r3 r4 r5
        exact QS hs gi hdd.1 hdd.2 hnew c2 r2 (r3.weaken (fun n h => by subst h; omega)) (r4.weaken (fun n h => by subst h; omega)) (.inl ⟨hf, Aj r5, fun n hn hnn => by
          have := r6 n hn (fun e => hnn (by subst e; omega))
          simpa [AV.names, one, AB] using this⟩)
      · rw [hd]; exact GI.put gi c2 rfl
    · exact (RM.fail_ok h4).elim
  ·
    split at h4
    · rename_i d hd
      obtain ⟨⟨as', v, fr⟩, m3, h5, h6⟩ := RM.bind_ok h4
      obtain ⟨fr', m4, h7, h8⟩ := RM.bind_ok h6
      have hr := RM.ret_ok h8
      simp only [StepRes.plain.injEq] at hr
      obtain ⟨rfl, rfl⟩ := hr
      obtain ⟨f1, f2⟩ := WD h7
      have hdd := hdst d hd
      have sub := f1.sub (wr := { bs := [], hs := fr' }) rfl rfl
      by_cases hw : Region.wanted o (yielded ops a.tmps) = true
      · have hf := c1.1 hw
        refine goW hw ?_
        have hgt : ∀ b, g = some b → b = true := UJ hs hf h3
        obtain ⟨z, r1, r2, r3, r4⟩ := gV hs hf h5 (fun b hb => by
          have := has (Yg g b) (List.mem_map.2 ⟨b, hb, rfl⟩)
          unfold Yg at this
          cases g with
          | none => exact this
          | some g => have := hgt g rfl; subst this; simpa using this)
        have := f2 r4
        subst this
        unfold Oper.wp
        rw [r1]
        show K (a.put o.dst z) w
        rw [hd]
        refine hK _ _ ?_ ?_
        · rw [hd]
          exact QS (bs := []) hs gi hdd.1 hdd.2 hnew c2 (sub.mem hs.M) (sub.ext P _ β σ w) (Tidy.of_sub f1.pre rfl rfl rfl _) (.inl ⟨hf, r2, fun n hn _ => r3 n hn⟩)
        · rw [hd]; exact GI.put gi c2 rfl
      · refine goN hw ?_
        rw [hd]
        refine hK _ _ ?_ ?_
        · rw [hd]
          exact QS (bs := []) hs gi hdd.1 hdd.2 hnew c2 (sub.mem hs.M) (sub.ext P _ β σ w) (Tidy.of_sub f1.pre rfl rfl rfl _) (.inr ⟨fun h => hw (c1.2 h), rfl⟩)
        · rw [hd]; exact GI.put gi c2 rfl
    · exact (RM.fail_ok h4).elim
end
end Go.Px
end
section
namespace Go.Px
section
variable {E : Env} {N : Nat} {P : Program} {cfg : Cfg} {n0 n0' : Nz} {nt : Nat} {β β' : Nat → Option Nat} {σ σ' : Nat → Option (Nat × Nat)} {s s' : St0 E N} {a : Act} {w w' : World}
theorem Wa (hs : Sim P n0 nt β σ s a w) {ctx : List (Nat × Bool)} (hf : Facts a ctx) : ∀ {ts : List TypeId} {xs : List Operand} {vs : List (AV (std E N))} {m m' : Nat}, RM.run s (Xk (O := std E N) P ctx ts xs) m = .ok (vs, m') →
    RelArgs P n0 β σ s w vs (xs.map a.eval)
  | [], [], vs, m, m', h => by cases RM.ret_ok h; trivial
  | t :: ts, x :: xs, vs, m, m', h => by
    obtain ⟨v, m1, h1, h2⟩ := RM.bind_ok h
    obtain ⟨r, m2, h3, h4⟩ := RM.bind_ok h2
    cases RM.ret_ok h4
    exact ⟨(Qd hs hf h1).1, Wa hs hf h3⟩
  | [], _ :: _, _, _, _, h => (RM.fail_ok h).elim
  | _ :: _, [], _, _, _, h => (RM.fail_ok h).elim
theorem jD {c : AC0 E N} {l : Ab} {fr : List (Nat × Option (HEnt (std E N)))} {nw : Bool} {k k' : Nat} (h : RM.run s (bn (O := std E N) c) k = .ok ((l, fr, nw), k')) : FrOK s fr := by
 have nil : FrOK s ([] : List (Nat × Option (HEnt (std E N)))) := fun _ _ hm => by simp at hm
 cases c with
 | own e id =>
  obtain ⟨k1, h⟩ := RM.h_ok h
  cases hh : s.getH id with
  | none => rw [hh] at h; exact (RM.fail_ok h).elim
  | some en =>
   rw [hh] at h
   cases RM.ret_ok h
   intro n v hm
   simp only [List.mem_singleton, Prod.mk.injEq] at hm
   obtain ⟨rfl, rfl⟩ := hm
   exact ⟨en, hh, rfl⟩
 | int _ _ => cases RM.ret_ok h; exact nil
 | bool _ => cases RM.ret_ok h; exact nil
 | str _ => cases RM.ret_ok h; exact nil
 | nil _ => cases RM.ret_ok h; exact nil
 | imm _ _ _ => cases RM.ret_ok h; exact nil
 | _ => exact (RM.fail_ok h).elim
theorem aq : ∀ {cs : List (AC0 E N)} {ls : List Ab} {fr : List (Nat × Option (HEnt (std E N)))} {nw : Bool} {k k' : Nat}, RM.run s (M7 (O := std E N) cs) k = .ok ((ls, fr, nw), k') → FrOK s fr
 | [], ls, fr, nw, k, k', h => by cases RM.ret_ok h; exact fun _ _ hm => by simp at hm
 | c :: cs, ls, fr, nw, k, k', h => by
  obtain ⟨⟨l, f1, n1⟩, k1, h1, h2⟩ := RM.bind_ok h
  obtain ⟨⟨ls2, f2, n2⟩, k2, h3, h4⟩ := RM.bind_ok h2
  cases RM.ret_ok h4
  exact (jD h1).append (aq h3)
theorem Sw : ∀ {args : List (AV (std E N))} {gives : List Bool} {used u : List Nat} {ls : List Ab} {fr : List (Nat × Option (HEnt (std E N)))} {k k' : Nat}, RM.run s (J4 (O := std E N) gives used args) k = .ok ((ls, fr, u), k') → FrOK s fr
 | [], gives, used, u, ls, fr, k, k', h => by cases RM.ret_ok h; exact fun _ _ hm => by simp at hm
 | .tup y :: args, gives, used, u, ls, fr, k, k', h => by
  unfold J4 at h
  exact (RM.fail_ok h).elim
 | .val y :: args, gives, used, u, ls, fr, k, k', h => by
  cases hy : fnV y with
  | some f =>
   have := am hy; subst this
   exact Sw (gives := gives.tail) h
  | none =>
   rw [Zb hy] at h
   split at h
   ·obtain ⟨⟨ls1, u1⟩, k1, h1, h2⟩ := RM.bind_ok h
    obtain ⟨⟨ls2, fr2, u2⟩, k2, h3, h4⟩ := RM.bind_ok h2
    cases RM.ret_ok h4
    exact Sw h3
   ·obtain ⟨⟨ls1, f1, nw1⟩, k1, h1, h2⟩ := RM.bind_ok h
    obtain ⟨⟨ls2, fr2, u2⟩, k2, h3, h4⟩ := RM.bind_ok h2
    cases RM.ret_ok h4
    exact (aq h1).append (Sw h3)
theorem QX {nw : Bool} {c : List PV} : ∀ {ts : List TypeId} {j q : Nat} {cs : List (AC0 E N)} {hs : List (Nat × HEnt (std E N))}, Ae (O := std E N) P false nw c j q ts = some (cs, hs) → hs = []
 | [], j, q, cs, hs, h => by simp only [Ae] at h; cases h; rfl
 | t :: ts, j, q, cs, hs, h => by
  simp only [Ae] at h
  split at h <;> first
   | (obtain ⟨⟨r, hh⟩, h1, h2⟩ := Option.map_eq_some_iff.1 h; cases h2; exact QX h1)
   | cases h
theorem Rn {nw : Bool} {c : List PV} : ∀ {ts : List TypeId} {j q : Nat} {vs : List (Val (std E N))} {hs : List (Nat × HEnt (std E N))}, A3 (O := std E N) P false nw c j q ts = some (vs, hs) → hs = []
 | [], j, q, vs, hs, h => by simp only [A3] at h; cases h; rfl
 | t :: ts, j, q, vs, hs, h => by
  simp only [A3] at h
  split at h
  ·cases h
  ·split at h
   ·cases h
   ·rename_i cs h1 hc
    split at h
    ·cases h
    ·rename_i vs2 h2 hv
     cases h
     rw [QX hc, Rn hv]; rfl
theorem dD {ci : CI} (h : BT P E N ci ∧ BT P E N { ci with own := false }) (g : Option Bool) : BT P E N { ci with own := aL g ci.own } := by
 cases g with
 | none => exact h.1
 | some b => exact h.2
theorem gW {q len : Nat} {nw : Bool} {c : AC0 E N} (h : OkC q len nw c) : ∀ n ∈ c.names, q ≤ n ∧ n < q + len := by
 intro n hn
 cases c with
 | own e k => simp only [AC.names, List.mem_singleton] at hn; subst hn; exact h
 | int _ _ => simp [AC.names] at hn
 | bool _ => simp [AC.names] at hn
 | str _ => simp [AC.names] at hn
 | imm _ _ _ => simp [AC.names] at hn
 | _ => exact h.elim
theorem N8 : ∀ {vs : List (Val (std E N))} {n : Nat}, n ∈ BO vs → ∃ v ∈ vs, n ∈ AB v.cs
 | v :: vs, n, h => by
  simp only [BO, List.mem_append] at h
  rcases h with h | h
  ·exact ⟨v, List.mem_cons_self, h⟩
  ·obtain ⟨u, hu, hn⟩ := N8 h; exact ⟨u, List.mem_cons_of_mem _ hu, hn⟩
theorem ej {q len : Nat} {nw : Bool} {vs : List (Val (std E N))} (h : ∀ v ∈ vs, ∀ x ∈ v.cs, OkC q len nw x) : ∀ n ∈ (Ie vs).names, q ≤ n ∧ n < q + len := by
 intro n hn
 have : ∃ v ∈ vs, n ∈ AB v.cs := by
  match vs, hn with
  | [x], hn => exact ⟨x, List.mem_cons_self, hn⟩
  | [], hn => exact N8 hn
  | x :: y :: r, hn => exact N8 hn
 obtain ⟨v, hv, hm⟩ := this
 obtain ⟨c, hc, hm⟩ := A0.1 hm
 exact gW (h v hv c hc) n hm
theorem WV {ops : Array Oper} {o : Oper} {i id : Nat} {done : List Nat} {Q : Exit → Act → World → Prop} {K : Act → World → Prop} {g : Option Bool} {f : FuncId} {fns : List Nat} {ls dm : List Ab} {next : List PV → Option (Wr (std E N))} {wr : Wr (std E N)} {m m' : Nat}
    (hΓ : ∀ ci ∈ cfg.gam, BT P E N ci ∧ BT P E N { ci with own := false })
    (hs : Sim P n0 nt β σ s a w) (gi : GI s done) (hg : ∀ j want d, o.guard = some (j, want) → (ops[j]?).bind (·.dst) = some d → d ∈ done) (hdst : ∀ d, o.dst = some d → d ∉ done ∧ d < nt)
    (hid : ∀ n, id ≤ n → n < id + BS P o → Fresh a s n) (ho : ops[i]? = some o) (h : RM.run s (LC P cfg ops.toList o id) m = .ok (.call g f fns ls dm next, m'))
    {c : List PV} (hm : (match g with | none => E f fns (ls.map Leaf.pv) | some b => if b then E f fns (ls.map Leaf.pv) else some (dm.map Leaf.pv)) = some c) (hn : next c = some wr)
    (hK : ∀ a' w', After P n0 nt (fun n => id ≤ n ∧ n < id + BS P o) β σ s a w o.dst wr a' w' → GI (s.apply wr) (o.dst.toList ++ done) → K a' w') : wpOp P ops Q i K a w := by
  unfold LC at h
  obtain ⟨ctx, m1, h1, h2⟩ := RM.bind_ok h
  obtain ⟨g', m2, h3, h4⟩ := RM.bind_ok h2
  obtain ⟨c1, c2, c3⟩ := bQ hs gi h1 hg
  have hnew : ∀ n, (id ≤ n ∧ n < id + BS P o) → Fresh a s n := fun n h => hid n h.1 h.2
  split at h4
  · split at h4
    · exact (RM.fail_ok h4).elim
    · obtain ⟨p, m3, h5, h6⟩ := RM.bind_ok h4
      obtain ⟨v, m4, h7, h8⟩ := RM.bind_ok h6
      obtain ⟨wr', m5, h9, h10⟩ := RM.bind_ok h8
      split at h10
      · cases RM.ret_ok h10
      · exact (RM.fail_ok h10).elim
  · rename_i fop args tys hop
    obtain ⟨fv, m3, h5, h6⟩ := RM.bind_ok h4
    split at h6
    case h_2 => exact (RM.fail_ok h6).elim
    rename_i f' caps
    split at h6
    case h_1 => exact (RM.fail_ok h6).elim
    rename_i fn0 hfn0
    obtain ⟨_, m40, h60, h61⟩ := RM.bind_ok h6
    obtain ⟨avs, m4, h7, h8⟩ := RM.bind_ok h61
    rcases RZ h8 with ⟨_, h9⟩ | ⟨hcaps, fns', ci, fn, ls', fr, u, dm', m2, m3, q1, q2, q3, q4, q5, q6, q7, q8, h9⟩
    · cases h9
    · cases h9
      subst hcaps
      obtain ⟨ciM, ciF, ciN⟩ := ZV q2
      have hcnt : BS P o = 16 := by unfold BS; rw [hop]
      have hfr := Sw q7
      unfold bm at hn
      split at hn
      · cases hn
      · rename_i vs nh hb
        split at hn
        case h_2 => cases hn
        rename_i hle
        have hle := Nat.le_of_ble_eq_true hle
        cases hn
        obtain ⟨row1, okh, okc⟩ := QD hb
        generalize hHS : (match ci.nw with | true => [] | false => fr) ++ (u.map (fun n => (n, none)) ++ nh.map fun (n, h) => (n, some h)) = HS at hK
        have hnames : ∀ n, ¬ (id ≤ n ∧ n < id + BS P o) → n ∉ (Ie vs).names := fun n hn hm => hn (by
          have := ej okc n hm
          omega)
        have fin : ∀ (z : Value) (w' : World) (β' : Nat → Option Nat) (σ' : Nat → Option (Nat × Nat)), Mem P n0 β' σ' (s.apply { bs := [], hs := HS }) w' → Ext P (fun n => id ≤ n ∧ n < id + BS P o) β σ s w β' σ' (s.apply { bs := [], hs := HS }) w' →
            Tidy a (fun n => id ≤ n ∧ n < id + BS P o) s (s.apply { bs := [], hs := HS }) →
            ((Facts a ctx ∧ RelAV P n0 β' σ' (s.apply { bs := [], hs := HS }) w' (Ie vs) z) ∨ (¬ Facts a ctx ∧ z = undef)) → K (a.put o.dst z) w' := fun z w' β' σ' hm hx ht hz => by
          cases hd : o.dst with
          | some d =>
            rw [hd] at hK
            have hdd := hdst d hd
            exact hK _ _ (QS (bs := []) hs gi hdd.1 hdd.2 hnew c2 hm hx ht (hz.imp (fun h => ⟨h.1, h.2, fun n _ hn => hnames n hn⟩) (fun h => h))) (GI.put gi c2 rfl)
          | none =>
            rw [hd] at hK
            refine hK _ _ (Xx hs hnew rfl hm hx ht) ?_
            intro n tv hn
            rw [State.getT_apply0 s _ rfl] at hn
            exact gi n tv hn
        by_cases hw : Region.wanted o (yielded ops a.tmps) = true
        · have hf := c1.1 hw
          have hgt : ∀ b, g = some b → b = true := UJ hs hf h3
          have hE : E f fns (ls.map Leaf.pv) = some c := by
            cases g with
            | none => exact hm
            | some b => have := hgt b rfl; subst this; simpa using hm
          have hfv := (Qd hs hf h5).1
          have hargs := Wa hs hf h7
          have hval : BT P E N { ci with own := aL g ci.own } := dD (hΓ ci ciM) g
          have hev : a.eval fop = .func (.func f) #[] #[] := by
            obtain ⟨hr1, hr2⟩ := hfv
            have hr2 : (a.eval fop).oneCell' = true := hr2
            rw [BE hr2] at hr1
            obtain ⟨vs2, e1, e2, _⟩ := hr1.1
            have : vs2 = [] := List.length_eq_zero_iff.1 (by simpa using e2)
            subst this
            exact e1
          have hnb : fn.body.isNone = false := by cases hb : fn.body <;> simp_all
          have hex : (execOp a.eval o).run P w = .ok (.enter f (args.map a.eval)) w := by
            simp only [beq_eq_false_iff_ne, ne_eq] at q5
            simp [execOp, hop, resolve, Deferred.ofValue, hev, invoke, callFunc, q3, q5, hnb]
            intro hbn; rw [hbn] at q4; cases q4
          have hcall := jZ (a := a) hs.n0le hs.M hval (fn := fn) (by rw [← ciF] at q3; exact q3) hargs q6 (by rw [← ciN] at q1; exact q1) q7 q8 (rs := c) (by show E ci.f ci.fns _ = _; rw [ciF, ciN]; exact hE) (id := id) hb
            (fun n h1 h2 => hid n h1 (by omega)) (wr := { bs := [], hs := HS }) rfl rfl hHS.symm
          unfold wpOp
          simp only [ho, hw, if_true]
          refine .inl ?_
          unfold Oper.wp
          rw [hex]
          have harr : (args.toList.map a.eval).toArray = args.map a.eval := by apply Array.ext'; simp
          rw [harr] at hcall
          rw [show ({ ci with own := aL g ci.own } : CI).f = f from ciF] at hcall
          refine Calls.mono hcall (fun e w' hp => ?_)
          cases e with
          | panicked ch => exact hp.elim
          | outgrown => exact hp.elim
          | returned v =>
            obtain ⟨σ', r1, r2, r3, r4⟩ := hp
            exact fin v w' β σ' r1 (r2.weaken (fun n h => ⟨h.1, by omega⟩)) (r3.weaken (fun n h => ⟨h.1, by omega⟩)) (.inl ⟨hf, r4⟩)
        · have hgs : ∃ b, g = some b := by
            cases g with
            | none => exact (hw (c1.2 (by rw [M8 h3]; intro n b hm; simp at hm))).elim
            | some b => exact ⟨b, rfl⟩
          obtain ⟨b, hgb⟩ := hgs
          have hnh : nh = [] := by rw [hgb] at hb; exact Rn hb
          have hpre : PreOK s HS := by
            rw [← hHS, hnh]
            intro n v hm
            rcases List.mem_append.1 hm with hm | hm
            · split at hm
              · simp at hm
              · exact .inr (hfr n v hm)
            · rcases List.mem_append.1 hm with hm | hm
              · obtain ⟨k, _, e⟩ := List.mem_map.1 hm; cases e; exact .inl rfl
              · simp at hm
          have sub := hpre.sub (wr := { bs := [], hs := HS }) rfl rfl
          unfold wpOp
          simp only [ho, hw, if_false]
          exact fin undef w β σ (sub.mem hs.M) (sub.ext P _ β σ w) (Tidy.of_sub hpre rfl rfl rfl _) (.inr ⟨fun h => hw (c1.2 h), rfl⟩)
  · split at h4
    · obtain ⟨⟨as', c', wr'⟩, m3, h5, h6⟩ := RM.bind_ok h4
      cases RM.ret_ok h6
    · exact (RM.fail_ok h4).elim
  · split at h4
    · obtain ⟨⟨as', v, fr⟩, m3, h5, h6⟩ := RM.bind_ok h4
      obtain ⟨fr', m4, h7, h8⟩ := RM.bind_ok h6
      cases RM.ret_ok h8
    · exact (RM.fail_ok h4).elim
end
end Go.Px
end
section
namespace Go.Px
section
variable {E : Env} {N : Nat} {P : Program} {cfg : Cfg} {n0 n0' : Nz} {nt : Nat} {β β' : Nat → Option Nat} {σ σ' : Nat → Option (Nat × Nat)} {s s' : St0 E N} {a : Act} {w w' : World}
structure Post (P : Program) (n0 : Nz) (nt L : Nat) (D : Nat → Prop) (β : Nat → Option Nat) (σ : Nat → Option (Nat × Nat)) (s : St0 E N) (a : Act) (w : World)
    (β' : Nat → Option Nat) (σ' : Nat → Option (Nat × Nat)) (s' : St0 E N) (a' : Act) (w' : World) : Prop where
  sim : Sim P n0 nt β' σ' s' a' w'
  ext : Ext P (fun n => L ≤ n) β σ s w β' σ' s' w'
  cleanB : ∀ n e, s'.getB n = some e → e.dirty = false → s.getB n = some e
  cleanH : ∀ n e, s'.getH n = some e → e.dirty = false → s.getH n = some e
  defers : a'.defers = a.defers
  tmps : ∀ n, ¬ D n → a'.tmps.getD n undef = a.tmps.getD n undef
theorem Post.trans {L L' : Nat} {D D' : Nat → Prop} {β'' : Nat → Option Nat} {σ'' : Nat → Option (Nat × Nat)} {s'' : St0 E N} {a' a'' : Act} {w'' : World} (h : Post P n0 nt L D β σ s a w β' σ' s' a' w') (k : Post P n0 nt L' D' β' σ' s' a' w' β'' σ'' s'' a'' w'') (hl : L ≤ L') :
    Post P n0 nt L (fun n => D n ∨ D' n) β σ s a w β'' σ'' s'' a'' w'' :=
  ⟨k.sim, (h.ext.trans k.ext).weaken (fun n hn => hn.elim (fun h => h) (fun h => Nat.le_trans hl h)), fun n e h1 h2 => h.cleanB n e (k.cleanB n e h1 h2) h2, fun n e h1 h2 => h.cleanH n e (k.cleanH n e h1 h2) h2,
    k.defers.trans h.defers, fun n hn => (k.tmps n (fun h => hn (.inr h))).trans (h.tmps n (fun h => hn (.inl h)))⟩
theorem P2 : ∀ {as : List Bool} {m : Option (List PV)} {r : List PV}, Qf (O := std E N) as m = some r → (∀ b ∈ as, b = true) ∧ m = some r
 | [], m, r, h => ⟨fun b hb => by simp at hb, h⟩
 | b :: as, m, r, h => by
  have h' : (cond b (Qf (O := std E N) as m) none) = some r := h
  cases b with
  | false => simp at h'
  | true =>
   obtain ⟨h1, h2⟩ := P2 (as := as) (by simpa using h')
   exact ⟨fun b hb => (List.mem_cons.1 hb).elim (fun e => e) (h1 b), h2⟩
def Jp (s : St0 E N) (n : Nat) : Prop := (∀ k e, s.getB k = some e → n ≠ k ∧ n ∉ AB e.cs) ∧ ∀ k e, s.getH k = some e → n ≠ k
abbrev Inl (E : Env) (N : Nat) := FuncId → List (AV (std E N)) → St0 E N → (AV (std E N) → St0 E N → Option (List PV)) → Option (List PV)
def aJ (P : Program) (inl : Inl E N) : Prop :=
  ∀ f (args : List (AV (std E N))) (s : St0 E N) k r, inl f args s k = some r → ∀ (n0 : Nz) β σ (w : World) (vals : List Value), n0.n ≤ w.heap.size → Mem P n0 β σ s w →
    (∀ n, s.st ≤ n → Jp s n) → (∀ x ∈ args, ∀ n ∈ x.names, n < s.st) → RelArgs P n0 β σ s w args vals →
    Calls P f vals.toArray w fun
      | .returned v, w' => ∃ (av : AV (std E N)) (s' : St0 E N) (β' : Nat → Option Nat) (σ' : Nat → Option (Nat × Nat)), k av s' = some r ∧ s'.tm = s.tm ∧ s.st ≤ s'.st ∧ Mem P n0 β' σ' s' w' ∧ Ext P (fun n => s.st ≤ n) β σ s w β' σ' s' w' ∧
          (∀ n e, s'.getB n = some e → e.dirty = false → s.getB n = some e) ∧ (∀ n e, s'.getH n = some e → e.dirty = false → s.getH n = some e) ∧
          RelAV P n0 β' σ' s' w' av v ∧ ∀ n, s'.st ≤ n → Jp s' n ∧ n ∉ av.names
      | _, _ => False
theorem After.post {id : Nat} {dst : Option Nat} {wr : Wr (std E N)} {a' : Act} {n : Nat} (h : After P n0 nt (fun k => id ≤ k ∧ k < id + n) β σ s a w dst wr a' w') :
    ∃ β' σ', Post P n0 nt id (fun k => dst = some k) β σ s a w β' σ' (s.apply wr) a' w' ∧ (∀ k, (∀ j, id ≤ j → Fresh a s j) → id + n ≤ k → Fresh a' (s.apply wr) k) := by
  obtain ⟨β', σ', h1, h2, h3, h4, h5, h6, h7⟩ := h
  exact ⟨β', σ', ⟨h1, h2.weaken (fun k h => h.1), h4, h5, h6, fun k hk => h7 k hk⟩, fun k hf hk => h3 k (hf k (by omega)) (by omega)⟩
theorem Zh {ops : List Oper} : ∀ {rest : List Oper} {i : Nat} {bs : List Nat}, Dg ops i bs rest = true → ∀ (k : Nat) (o : Oper), rest[k]? = some o → ∀ j want, o.guard = some (j, want) → j < i + k
 | o :: rest, i, b :: bs, h, k, o', hk, j, want, hg => by
  simp only [Dg] at h
  cases k with
  | zero =>
   simp at hk; subst hk
   rw [hg] at h
   simp only [Bool.and_eq_true] at h
   exact BL.1 h.1.1.1
  | succ k =>
   have h2 : Dg ops (i + 1) bs rest = true := by
    split at h
    ·exact h
    ·simp only [Bool.and_eq_true] at h; exact h.2
   have := Zh h2 k o' (by simpa using hk) j want hg
   omega
 | [], _, _, _, k, o', hk, _, _, _ => by simp at hk
 | _ :: _, _, [], h, _, _, _, _, _, _ => by simp [Dg] at h
theorem Mg : ∀ (a b : List Oper), AW (a ++ b) = AW a ++ AW b
 | [], b => rfl
 | o :: a, b => by
  simp only [List.cons_append, AW, Mg a b]
  cases o.dst <;> rfl
theorem HV : ∀ {l : List Oper} {k : Nat} {o : Oper} {d : Nat}, l[k]? = some o → o.dst = some d → d ∈ AW l
 | x :: l, 0, o, d, h, hd => by
  simp at h; subst h
  simp [AW, hd]
 | x :: l, k + 1, o, d, h, hd => by
  have := HV (l := l) (k := k) (by simpa using h) hd
  simp only [AW]
  cases x.dst with
  | none => exact this
  | some y => exact List.mem_cons_of_mem _ this
 | [], k, o, d, h, _ => by simp at h
theorem GI.mono {d d' : List Nat} (gi : GI s d) (h : ∀ x ∈ d, x ∈ d') : GI s d' := fun n tv hn g hg => h _ (gi n tv hn g hg)
theorem WC (hs : Sim P n0 nt β σ s a w) {ctx : List (Nat × Bool)} (hf : Facts a ctx) : ∀ {ts : List TypeId} {xs : List Operand} {vs : List (AV (std E N))} {m m' : Nat}, RM.run s (Xk (O := std E N) P ctx ts xs) m = .ok (vs, m') →
    ∀ x ∈ vs, ∀ n, Fresh a s n → n ∉ x.names
  | [], [], vs, m, m', h => by cases RM.ret_ok h; intro x hx; simp at hx
  | t :: ts, x :: xs, vs, m, m', h => by
    obtain ⟨v, m1, h1, h2⟩ := RM.bind_ok h
    obtain ⟨r, m2, h3, h4⟩ := RM.bind_ok h2
    cases RM.ret_ok h4
    intro y hy
    rcases List.mem_cons.1 hy with rfl | hy
    · exact (Qd hs hf h1).2
    · exact WC hs hf h3 y hy
  | [], _ :: _, _, _, _, h => (RM.fail_ok h).elim
  | _ :: _, [], _, _, _, h => (RM.fail_ok h).elim
theorem RelArgs.append : ∀ {xs ys : List (AV (std E N))} {us vs : List Value}, RelArgs P n0 β σ s w xs us → RelArgs P n0 β σ s w ys vs → RelArgs P n0 β σ s w (xs ++ ys) (us ++ vs)
 | [], _, [], _, _, h => h
 | x :: xs, _, u :: us, _, h, h' => ⟨h.1, RelArgs.append h.2 h'⟩
 | [], _, _ :: _, _, h, _ => h.elim
 | _ :: _, _, [], _, h, _ => h.elim
theorem Ext.relArgs (x : Ext P (fun _ => False) β σ s w β' σ' s' w') : ∀ {xs : List (AV (std E N))} {vs : List Value}, RelArgs P n0 β σ s w xs vs → RelArgs P n0 β' σ' s' w' xs vs
 | [], [], h => h
 | y :: xs, v :: vs, h => ⟨x.relAV (fun _ _ h => h) h.1, x.relArgs h.2⟩
 | [], _ :: _, h => h.elim
 | _ :: _, [], h => h.elim
theorem aR : ∀ {caps : List (Nat × Nat)} {vs : List Value}, vs.length = caps.length → (∀ (i b o : Nat), caps[i]? = some (b, o) → ∃ x : Value, vs[i]? = some x ∧ Jl β s b o x) →
    RelArgs P n0 β σ s w (caps.map fun (b, o) => (one (.ptr b o) : AV (std E N))) vs
  | [], [], _, _ => trivial
  | (b, o) :: caps, v :: vs, hl, h => by
    obtain ⟨x, hx, hr⟩ := h 0 b o rfl
    simp at hx; subst hx
    exact ⟨Aj hr, aR (by simpa using hl) (fun i b o hc => by
      obtain ⟨y, hy, hr2⟩ := h (i + 1) b o (by simpa using hc)
      exact ⟨y, by simpa using hy, hr2⟩)⟩
  | [], _ :: _, hl, _ => by simp at hl
  | _ :: _, [], hl, _ => by simp at hl
theorem dx {ops : Array Oper} {o : Oper} {id : Nat} {f : FuncId} {args : List (AV (std E N))} {m m' : Nat} (h : RM.run s (LC P cfg ops.toList o id) m = .ok (.inl f args, m')) :
    ∃ fop cargs tys caps avs fn m1 m2 m3 m4 m5, o.op = .call ⟨.value fop, cargs, tys⟩ ∧ RM.run s (aE (O := std E N) ops.toList o) m = .ok ([], m1) ∧ RM.run s (ev (O := std E N) P [] 0 fop) m2 = .ok (.val ⟨false, [.fn f caps]⟩, m3) ∧
      P.funcs[f]? = some fn ∧ fn.body.isSome = true ∧ (fn.name == "runtime.NumGoroutine") = false ∧ RM.run s (Xk (O := std E N) P [] (fn.params.toList.take cargs.size) cargs.toList) m4 = .ok (avs, m5) ∧ args = avs ++ caps.map fun (b, o) => one (.ptr b o) := by
  unfold LC at h
  obtain ⟨ctx, m1, h1, h2⟩ := RM.bind_ok h
  obtain ⟨g', m2, h3, h4⟩ := RM.bind_ok h2
  split at h4
  · split at h4
    · exact (RM.fail_ok h4).elim
    · obtain ⟨p, m3, h5, h6⟩ := RM.bind_ok h4
      obtain ⟨v, m4, h7, h8⟩ := RM.bind_ok h6
      obtain ⟨wr', m5, h9, h10⟩ := RM.bind_ok h8
      split at h10
      · cases RM.ret_ok h10
      · exact (RM.fail_ok h10).elim
  · rename_i fop cargs tys hop
    obtain ⟨fv, m3, h5, h6⟩ := RM.bind_ok h4
    split at h6
    case h_2 => exact (RM.fail_ok h6).elim
    rename_i f' caps
    split at h6
    case h_1 => exact (RM.fail_ok h6).elim
    rename_i fn0 hfn0
    obtain ⟨_, m40, h60, h61⟩ := RM.bind_ok h6
    obtain ⟨avs, m4, h7, h8⟩ := RM.bind_ok h61
    have hg := RM.guard_ok h60
    simp only [Bool.and_eq_true, Bool.not_eq_true'] at hg
    rcases RZ h8 with ⟨hgn, h9⟩ | ⟨hcaps, fns', ci, fn, ls', fr, u, dm', m2, m3, q1, q2, q3, q4, q5, q6, q7, q8, h9⟩
    · subst hgn
      have hc := M8 h3
      subst hc
      cases h9
      exact ⟨fop, cargs, tys, caps, avs, fn0, _, _, _, _, _, hop, h1, h5, hfn0, hg.1, hg.2, h7, rfl⟩
    · cases h9
  · split at h4
    · obtain ⟨⟨as', c', wr'⟩, m3, h5, h6⟩ := RM.bind_ok h4
      cases RM.ret_ok h6
    · exact (RM.fail_ok h4).elim
  · split at h4
    · obtain ⟨⟨as', v, fr⟩, m3, h5, h6⟩ := RM.bind_ok h4
      obtain ⟨fr', m4, h7, h8⟩ := RM.bind_ok h6
      cases RM.ret_ok h8
    · exact (RM.fail_ok h4).elim
theorem jE (hs : Sim P n0 nt β σ s a w) {done : List Nat} (gi : GI s done) {d : Nat} (hd : d ∉ done) (hdn : d < nt) {new : Nat → Prop} (hnew : ∀ n, new n → Fresh a s n) {s2 : St0 E N} (htm : s2.tm = s.tm)
    (x : Ext P new β σ s w β' σ' s2 w') (m : Mem P n0 β' σ' s2 w') {av : AV (std E N)} {z : Value} (hr : RelAV P n0 β' σ' s2 w' av z) :
    Sim P n0 nt β' σ' { s2 with tm := Fx s2.tm d (some ⟨[], av⟩) } (a.put (some d) z) w' := by
  have gT : ∀ n, ({ s2 with tm := Fx s2.tm d (some ⟨[], av⟩) } : St0 E N).getT n = if n = d ∧ d < Cv then some ⟨[], av⟩ else s.getT n := fun n => by
    unfold State.getT
    rw [← htm]
    exact DA _ _ _ _
  have sub : Sub s2 ({ s2 with tm := Fx s2.tm d (some ⟨[], av⟩) } : St0 E N) := Sub.of_same (fun _ => rfl) (fun _ => rfl)
  have x2 := sub.ext P (fun _ => False) β' σ' w'
  have ne : ∀ {g : Nat × Bool}, g.1 ∈ done → g.1 ≠ d := fun hg e => hd (e ▸ hg)
  refine ⟨Nat.le_trans hs.n0le x.size, by simp [Act.put, hs.size], fun n tv hn => ?_, sub.mem m⟩
  rw [gT] at hn
  split at hn
  · rename_i he
    cases hn
    rw [he.1, KC (by rw [hs.size]; exact hdn)]
    exact .inl ⟨fun n b hm => by simp at hm, x2.relAV (fun _ _ h => h) hr⟩
  · rename_i he
    have hnd : n ≠ d := fun e => by
      by_cases hb : d < Cv
      · exact he ⟨e, hb⟩
      · rw [e, cK hb] at hn; cases hn
    rw [ED hnd]
    have hg : ∀ g ∈ tv.gs, g.1 ≠ d := fun g hg => ne (gi n tv hn g hg)
    rcases hs.T n tv hn with ⟨h1, h2⟩ | ⟨h1, h2⟩
    · exact .inl ⟨(FZ hg).2 h1, x2.relAV (fun _ _ h => h) (x.relAV (fun k hk hnw => (hnew k hnw).t n tv hn h1 hk) h2)⟩
    · exact .inr ⟨fun h => h1 ((FZ hg).1 h), h2⟩
theorem ST (inl : Inl E N) (hInl : aJ P inl) (hΓ : ∀ ci ∈ cfg.gam, BT P E N ci ∧ BT P E N { ci with own := false }) {ops : Array Oper} (hnd : (AW ops.toList).Nodup)
    (hg : ∀ (k : Nat) (o : Oper), ops.toList[k]? = some o → ∀ j want, o.guard = some (j, want) → j < k) (hdn : ∀ d ∈ AW ops.toList, d < nt) {Q : Exit → Act → World → Prop} {r : List PV} :
    ∀ (rest pre : List Oper) (id : Nat) (s : St0 E N) (ms : List (Nat × Nat)) (k : St0 E N → List (Nat × Nat) → Option (List PV)) (β : Nat → Option Nat) (σ : Nat → Option (Nat × Nat)) (a : Act) (w : World), ops.toList = pre ++ rest →
      GD (O := std E N) P cfg inl ops.toList false rest id s ms k = some r → Sim P n0 nt β σ s a w → GI s (AW pre) → (∀ n, id ≤ n → Fresh a s n) →
      (∀ (s' : St0 E N) (ms' : List (Nat × Nat)) (id' : Nat) (β' : Nat → Option Nat) (σ' : Nat → Option (Nat × Nat)) (a' : Act) (w' : World), k { s' with st := id' } ms' = some r → Post P n0 nt id (fun n => n ∈ AW rest) β σ s a w β' σ' s' a' w' → id ≤ id' → (∀ n, id' ≤ n → Fresh a' s' n) → GI s' (AW ops.toList) → Q .normal a' w') →
      wpOps P ops Q (List.range' pre.length rest.length) a w
  | [], pre, id, s, ms, k, β, σ, a, w, hops, h, hs, gi, hf, hQ => by
    have : GD (O := std E N) P cfg inl ops.toList false [] id s ms k = k { s with st := id } ms := rfl
    rw [this] at h
    refine hQ s ms id β σ a w h ⟨hs, Ext.refl _ _ _ _ _ _, fun n e h _ => h, fun n e h _ => h, rfl, fun _ _ => rfl⟩ (Nat.le_refl _) hf ?_
    rw [hops]; simpa using gi
  | o :: rest, pre, id, s, ms, k, β, σ, a, w, hops, h, hs, gi, hf, hQ => by
    have hgetL : ops.toList[pre.length]? = some o := by rw [hops, List.getElem?_append_right (Nat.le_refl _)]; simp
    have hget : ops[pre.length]? = some o := by rw [← Array.getElem?_toList]; exact hgetL
    have hdl : AW ops.toList = AW pre ++ (o.dst.toList ++ AW rest) := by
      rw [hops, Mg]
      congr 1
      simp only [AW]
      cases o.dst <;> rfl
    rw [hdl] at hnd
    have hnd2 := (List.nodup_append.1 hnd)
    have hdone : ∀ j want d, o.guard = some (j, want) → (ops[j]?).bind (·.dst) = some d → d ∈ AW pre := fun j want d h1 h2 => by
      have hj := hg pre.length o hgetL j want h1
      obtain ⟨x, hx, hxd⟩ := Option.bind_eq_some_iff.1 h2
      rw [← Array.getElem?_toList, hops, List.getElem?_append_left hj] at hx
      exact HV hx hxd
    have hdst : ∀ d, o.dst = some d → d ∉ AW pre ∧ d < nt := fun d hd => by
      refine ⟨fun hm => hnd2.2.2 d hm d (by simp [hd]) rfl, hdn d (by rw [hdl]; simp [hd])⟩
    have hpre2 : ops.toList = (pre ++ [o]) ++ rest := by rw [hops]; simp
    have hlen : (pre ++ [o]).length = pre.length + 1 := by simp
    have hgi2 : ∀ {s' : St0 E N}, GI s' (o.dst.toList ++ AW pre) → GI s' (AW (pre ++ [o])) := fun {s'} g => g.mono (fun x hx => by
      rw [Mg]
      rcases List.mem_append.1 hx with h | h
      · refine List.mem_append_right _ ?_
        simp only [AW]
        cases hd : o.dst with
        | none => rw [hd] at h; simp at h
        | some d => rw [hd] at h; simpa using h
      · exact List.mem_append_left _ h)
    have next : ∀ (wr : Wr (std E N)) (ms2 : List (Nat × Nat)), GD (O := std E N) P cfg inl ops.toList false rest (id + BS P o) (s.apply wr) ms2 k = some r → ∀ a' w', After P n0 nt (fun n => id ≤ n ∧ n < id + BS P o) β σ s a w o.dst wr a' w' → GI (s.apply wr) (o.dst.toList ++ AW pre) →
        wpOps P ops Q (List.range' (pre.length + 1) rest.length) a' w' := fun wr ms2 h a' w' ha hg2 => by
      obtain ⟨β', σ', p1, p2⟩ := ha.post
      rw [← hlen]
      refine ST inl hInl hΓ (by rw [hdl]; exact hnd) hg hdn rest (pre ++ [o]) (id + BS P o) (s.apply wr) ms2 k β' σ' a' w' hpre2 h p1.sim (hgi2 hg2) (fun n hn => p2 n hf hn) (fun s' ms' id' β'' σ'' a'' w'' hk hp hle hf' hg' => ?_)
      have hpt := p1.trans hp (Nat.le_add_right _ _)
      refine hQ s' ms' id' β'' σ'' a'' w'' hk ⟨hpt.sim, hpt.ext, hpt.cleanB, hpt.cleanH, hpt.defers, fun n hn => hpt.tmps n (fun h => hn ?_)⟩ (by omega) hf' hg'
      simp only [AW]
      rcases h with h | h
      · rw [h]; simp
      · cases o.dst with
        | none => exact h
        | some d => exact List.mem_cons_of_mem _ h
    rw [List.length_cons, List.range'_succ, wpOps_cons]
    unfold GD at h
    split at h
    · cases h
    · rename_i as wr rd hrun
      obtain ⟨has, h2⟩ := P2 h
      exact U8 hs gi hdone hdst (fun n h1 _ => hf n h1) hget hrun has (fun a' w' ha hg2 => next wr _ h2 a' w' ha hg2)
    · rename_i g f fns args dm nx rd hrun
      obtain ⟨c, hc, h2⟩ := Option.bind_eq_some_iff.1 h
      split at h2
      · cases h2
      · rename_i wr hn
        exact WV hΓ hs gi hdone hdst (fun n h1 _ => hf n h1) hget hrun (c := c) (by
          cases g with
          | none => exact hc
          | some b => cases b <;> exact hc) hn (fun a' w' ha hg2 => next wr _ h2 a' w' ha hg2)
    · rename_i f args rd hrun
      obtain ⟨fop, cargs, tys, caps, avs, fn, m1, m2, m3, m4, m5, hop, hctx, hev, hfn, hbody, hname, hall, rfl⟩ := dx hrun
      have hf0 : Facts a [] := fun n b hm => by simp at hm
      have hw := (bQ hs gi hctx hdone).1.2 hf0
      obtain ⟨hv1, hvn⟩ := Qd hs hf0 hev
      have hargs := Wa hs hf0 hall
      have hnm := WC hs hf0 hall
      obtain ⟨vs, e1, e2, e3⟩ : ∃ vs : List Value, a.eval fop = .func (.func f) #[] vs.toArray ∧ vs.length = caps.length ∧ ∀ (i b o : Nat), caps[i]? = some (b, o) → ∃ x : Value, vs[i]? = some x ∧ Jl β s b o x := by
        obtain ⟨hr1, hr2⟩ := hv1
        have hr2 : (a.eval fop).oneCell' = true := hr2
        rw [BE hr2] at hr1
        exact hr1.1
      have hnb : fn.body.isNone = false := by cases hb : fn.body <;> simp_all
      have hex : (execOp a.eval o).run P w = .ok (.enter f (cargs.map a.eval ++ vs.toArray)) w := by
        simp only [beq_eq_false_iff_ne, ne_eq] at hname
        simp [execOp, hop, resolve, Deferred.ofValue, e1, invoke, callFunc, hfn, hname, hnb]
        intro hbn; rw [hbn] at hbody; cases hbody
      have subst0 : Sub s ({ s with st := id + BS P o } : St0 E N) := Sub.of_same (fun _ => rfl) (fun _ => rfl)
      have hcall := hInl f _ _ _ r h n0 β σ w (cargs.toList.map a.eval ++ vs) hs.n0le (subst0.mem hs.M) (fun n hn => ⟨fun q e he => (hf n (by have : id + BS P o ≤ n := hn; omega)).b q e he, fun q e he => (hf n (by have : id + BS P o ≤ n := hn; omega)).h q e he⟩)
        (fun x hx n hn => by
          rcases Nat.lt_or_ge n (id + BS P o) with h | h
          · exact h
          · have hfn := hf n (by omega)
            rcases List.mem_append.1 hx with hx | hx
            · exact (hnm x hx n hfn hn).elim
            · obtain ⟨p, hp, rfl⟩ := List.mem_map.1 hx
              refine (hvn n hfn ?_).elim
              have : n = p.1 := by simpa [AV.names, one, AB, AC.names] using hn
              simp only [AV.names, AB, AC.names, List.append_nil]
              exact List.mem_map.2 ⟨p, hp, this.symm⟩)
        (by
          exact (subst0.ext P (fun _ => False) β σ w).relArgs (RelArgs.append hargs (aR (n0 := n0) (P := P) (σ := σ) (w := w) e2 e3)))
      unfold wpOp
      simp only [hget, hw, if_true]
      refine .inl ?_
      unfold Oper.wp
      rw [hex]
      have harr : (cargs.toList.map a.eval ++ vs).toArray = cargs.map a.eval ++ vs.toArray := by apply Array.ext'; simp
      rw [harr] at hcall
      refine Calls.mono hcall (fun e w' hp => ?_)
      cases e with
      | panicked ch => exact hp.elim
      | outgrown => exact hp.elim
      | returned v =>
        obtain ⟨av, s2, β', σ', hk, htm, hst, hm, hx, hcb, hch, hrel, hfr⟩ := hp
        have hst' : id + BS P o ≤ s2.st := hst
        have x0 : Ext P (fun n => id ≤ n) β σ s w β' σ' s2 w' := ((subst0.ext P (fun _ => False) β σ w).trans hx).weaken (fun n h => h.elim (fun h => h.elim) (fun h => by have : id + BS P o ≤ n := h; omega))
        have hnew : ∀ n, id ≤ n → Fresh a s n := hf
        have gT2 : ∀ n, s2.getT n = s.getT n := fun n => by unfold State.getT; rw [show s2.tm = s.tm from htm]
        rw [← hlen]
        have tail : ∀ (s3 : St0 E N) (a3 : Act), GD (O := std E N) P cfg inl ops.toList false rest s2.st s3 (ms ++ [(0, 0)]) k = some r → Post P n0 nt id (fun n => o.dst = some n) β σ s a w β' σ' s3 a3 w' → GI s3 (o.dst.toList ++ AW pre) → (∀ n, s2.st ≤ n → Fresh a3 s3 n) →
            wpOps P ops Q (List.range' (pre ++ [o]).length rest.length) a3 w' := fun s3 a3 hk3 hp3 hg3 hf3 => by
          refine ST inl hInl hΓ (by rw [hdl]; exact hnd) hg hdn rest (pre ++ [o]) s2.st s3 (ms ++ [(0, 0)]) k β' σ' a3 w' hpre2 hk3 hp3.sim (hgi2 hg3) hf3 (fun s' ms' id' β'' σ'' a'' w'' hkk hpp hle hf' hg' => ?_)
          have hpt := hp3.trans hpp (by omega)
          refine hQ s' ms' id' β'' σ'' a'' w'' hkk ⟨hpt.sim, hpt.ext, hpt.cleanB, hpt.cleanH, hpt.defers, fun n hn => hpt.tmps n (fun h => hn ?_)⟩ (by omega) hf' hg'
          simp only [AW]
          rcases h with h | h
          · rw [h]; simp
          · cases o.dst with
            | none => exact h
            | some d => exact List.mem_cons_of_mem _ h
        cases hd : o.dst with
        | none =>
          rw [hd] at hk tail
          refine tail s2 a hk ⟨⟨Nat.le_trans hs.n0le x0.size, hs.size, fun n tv hn => ?_, hm⟩, x0, hcb, hch, rfl, fun _ _ => rfl⟩ (fun n tv hn => gi n tv (by rw [← gT2]; exact hn)) (fun n hn => ⟨fun q tv hq hg => ?_, (hfr n hn).1.1, (hfr n hn).1.2⟩)
          · rw [gT2] at hn
            rcases hs.T n tv hn with ⟨h1, h2⟩ | ⟨h1, h2⟩
            · exact .inl ⟨h1, x0.relAV (fun q hq hnw => (hnew q hnw).t n tv hn h1 hq) h2⟩
            · exact .inr ⟨h1, h2⟩
          · rw [gT2] at hq; exact (hf n (by omega)).t q tv hq hg
        | some d =>
          rw [hd] at hk tail
          have hdd := hdst d hd
          have gT3 : ∀ n, ({ s2 with tm := Fx s2.tm d (some ⟨[], av⟩) } : St0 E N).getT n = if n = d ∧ d < Cv then some ⟨[], av⟩ else s.getT n := fun n => by
            unfold State.getT
            rw [← show s2.tm = s.tm from htm]
            exact DA _ _ _ _
          refine tail { s2 with tm := Fx s2.tm d (some ⟨[], av⟩) } (a.put (some d) v) hk ⟨jE hs gi hdd.1 hdd.2 hnew htm x0 hm hrel, ?_, hcb, hch, rfl, fun n hn => ED (fun e => hn (by rw [e]))⟩ (fun n tv hn g hg => ?_) (fun n hn => ⟨fun q tv hq hg => ?_, (hfr n hn).1.1, (hfr n hn).1.2⟩)
          · exact (x0.trans ((Sub.of_same (s := s2) (s' := { s2 with tm := Fx s2.tm d (some ⟨[], av⟩) }) (fun _ => rfl) (fun _ => rfl)).ext P (fun _ => False) β' σ' w')).weaken (fun n h => h.elim (fun h => h) (fun h => h.elim))
          · rw [gT3] at hn
            split at hn
            · cases hn; simp at hg
            · exact List.mem_append_right _ (gi n tv hn g hg)
          · rw [gT3] at hq
            split at hq
            · cases hq; exact (hfr n hn).2
            · rename_i hne
              exact (hf n (by omega)).t q tv hq ((FZ (d := d) (v := v) (fun g hg2 e => hdd.1 (by have := gi q tv hq g hg2; rw [e] at this; exact this))).1 hg)
end
end Go.Px
end
section
namespace Go.Px
section
variable {E : Env} {N : Nat} {P : Program} {cfg : Cfg} {n0 n0' : Nz} {nt : Nat} {β β' : Nat → Option Nat} {σ σ' : Nat → Option (Nat × Nat)} {s s' : St0 E N} {a : Act} {w w' : World}
theorem Ty {O : Alg} : ∀ (d : Nat) (t : TM (TV O)) (n : Nat), TM.get d (Fw t) n = match TM.get d t n with
    | some tv => match tv.gs with
      | [] => some tv
      | _ => none
    | none => none
  | 0, .e, n => rfl
  | 0, .leaf tv, n => by
    cases h : tv.gs <;> simp [Fw, h, TM.get]
  | 0, .node l r, n => rfl
  | d + 1, .e, n => rfl
  | d + 1, .leaf tv, n => by
    cases h : tv.gs <;> simp [Fw, h, TM.get]
  | d + 1, .node l r, n => by
    simp only [Fw, TM.get]
    cases h : Nat.beq (n % 2) 0 with
    | true => exact Ty d l (n / 2)
    | false => exact Ty d r (n / 2)
structure WF (s : St0 E N) : Prop where
 fresh : ∀ n, s.st ≤ n → Jp s n ∧ ∀ k tv, s.getT k = some tv → n ∉ tv.v.names
 gs : ∀ n tv, s.getT n = some tv → tv.gs = []
theorem WF.gi (h : WF s) : GI s [] := fun n tv hn g hg => by rw [h.gs n tv hn] at hg; simp at hg
theorem WF.free (h : WF s) (a : Act) : ∀ n, s.st ≤ n → Fresh a s n := fun n hn => ⟨fun k tv hk _ => (h.fresh n hn).2 k tv hk, (h.fresh n hn).1.1, (h.fresh n hn).1.2⟩
theorem cq (s : St0 E N) (q n : Nat) : ({ s with tm := Fw s.tm, st := q } : St0 E N).getT n = match s.getT n with
    | some tv => match tv.gs with
      | [] => some tv
      | _ => none
    | none => none := by
  unfold State.getT CQ
  cases Nat.blt n Cv with
  | true =>
    show TM.get Mq (Fw s.tm) n = _
    rw [Ty]
    cases TM.get Mq s.tm n <;> rfl
  | false => rfl
theorem JR {q n : Nat} {tv : TV (std E N)} (h : ({ s with tm := Fw s.tm, st := q } : St0 E N).getT n = some tv) : s.getT n = some tv ∧ tv.gs = [] := by
 rw [cq] at h
 cases hs : s.getT n with
 | none => rw [hs] at h; cases h
 | some u =>
  rw [hs] at h
  simp only at h
  split at h
  ·rename_i hg; cases h; exact ⟨rfl, hg⟩
  ·cases h
theorem Sim.purged (hs : Sim P n0 nt β σ s a w) (q : Nat) : Sim P n0 nt β σ { s with tm := Fw s.tm, st := q } a w := by
 have sub : Sub s ({ s with tm := Fw s.tm, st := q } : St0 E N) := Sub.of_same (fun _ => rfl) (fun _ => rfl)
 refine ⟨hs.n0le, hs.size, fun n tv hn => ?_, sub.mem hs.M⟩
 obtain ⟨h1, h2⟩ := JR hn
 rcases hs.T n tv h1 with ⟨h3, h4⟩ | ⟨h3, h4⟩
 ·exact .inl ⟨h3, (sub.ext P (fun _ => False) β σ w).relAV (fun _ _ h => h) h4⟩
 ·exact .inr ⟨h3, h4⟩
theorem S1 : ∀ {l : List Nat}, YK l = true → l.Nodup
 | [], _ => List.nodup_nil
 | n :: l, h => by
  simp only [YK, Bool.and_eq_true, Bool.not_eq_true'] at h
  exact List.nodup_cons.2 ⟨fun hm => (by have := CT.2 hm; rw [this] at h; cases h.1), S1 h.2⟩
theorem QP : ∀ {l : List Oper}, Jn nt l = true → ∀ d ∈ AW l, d < nt
 | [], _, d, hd => by simp [AW] at hd
 | o :: l, h, d, hd => by
  simp only [Jn, Bool.and_eq_true] at h
  simp only [AW] at hd
  cases ho : o.dst with
  | none => rw [ho] at hd; exact QP h.2 d hd
  | some x =>
   rw [ho] at hd h
   rcases List.mem_cons.1 hd with rfl | hd
   ·exact BL.1 h.1
   ·exact QP h.2 d hd
theorem eP (inl : Inl E N) (hInl : aJ P inl) (hΓ : ∀ ci ∈ cfg.gam, BT P E N ci ∧ BT P E N { ci with own := false }) {ops : Array Oper} {rid : Nat} (hdn : Jn nt ops.toList = true) {Q : Exit → Act → World → Prop} {r : List PV}
    {k : St0 E N → Option (List PV)} (h : Id (O := std E N) P cfg inl ops.toList false s k = some r) (hs : Sim P n0 nt β σ s a w) (wf : WF s)
    (hQ : ∀ (s' : St0 E N) (β' : Nat → Option Nat) (σ' : Nat → Option (Nat × Nat)) (a' : Act) (w' : World), k s' = some r → Post P n0 nt s.st (fun n => n ∈ AW ops.toList) β σ s a w β' σ' s' a' w' → WF s' → s.st ≤ s'.st → Q .normal a' w') :
    (Code.region rid ops false).wp P Q a w := by
  unfold Id at h
  split at h
  · cases h
  · rename_i hok
    simp only [Bool.and_eq_true] at hok
    have hg := Zh hok.2.1
    refine wp_region ?_
    have hr : List.range ops.size = List.range' ([] : List Oper).length ops.toList.length := by simp [List.range_eq_range']
    rw [hr]
    refine ST inl hInl hΓ (S1 hok.1) (fun k o ho j want hgd => by have := hg k o ho j want hgd; omega) (QP hdn) ops.toList [] s.st s [] _ β σ a w rfl h hs wf.gi (wf.free a) (fun s' ms' id' β' σ' a' w' hk hp hle hf hgi => ?_)
    have wf' : WF ({ s' with tm := Fw s'.tm, st := id' } : St0 E N) := ⟨fun n hn => ⟨⟨(hf n hn).b, (hf n hn).h⟩, fun k tv hk => by
      obtain ⟨h1, h2⟩ := JR hk
      exact (hf n hn).t k tv h1 (fun m b hm => by rw [h2] at hm; simp at hm)⟩, fun n tv hn => (JR hn).2⟩
    have sub : Sub s' ({ s' with tm := Fw s'.tm, st := id' } : St0 E N) := Sub.of_same (fun _ => rfl) (fun _ => rfl)
    exact hQ _ β' σ' a' w' hk ⟨hp.sim.purged id', (hp.ext.trans (sub.ext P (fun _ => False) β' σ' w')).weaken (fun n h => h.elim (fun h => h) (fun h => h.elim)), hp.cleanB, hp.cleanH, hp.defers, hp.tmps⟩ wf' hle
end
end Go.Px
end
