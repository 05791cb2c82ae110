/-
Px: calls by contract, the call itself.
-/
import Derived.Test.YtopmcbahdgfleaaGreatPxCall2
namespace Go.Px
set_option linter.unusedVariables false
set_option linter.unusedSimpArgs false

section
variable {E : Env} {N : Nat} {P : Program} {n0 n0' : Nz} {nt : Nat} {β β' : Nat → Option Nat} {σ σ' : Nat → Option (Nat × Nat)} {s s' : St0 E N} {a : Act} {w w' : World}

theorem RelC.moved {n0c : Nz} {σ1 : Nat → Option (Nat × Nat)} {s1 s2 : St0 E N} {q len : Nat} {nw : Bool} {c : AC0 E N} {v : Value} (hc : OkC q len nw c) (h : RelC P n0c noB σ1 s1 w c v)
    (hσ : ∀ n, q ≤ n → n < q + len → σ' n = σ1 n ∧ s2.getH n = s1.getH n) (hst : ∀ b, StB n0c noB σ1 s1 nw b → StB n0 β σ' s2 nw b) : RelC P n0 β σ' s2 w c v := by
  cases c with
  | int k i => exact h
  | bool b => exact h
  | str x => exact h
  | imm e n l =>
    have : n = nw := hc
    subst this
    obtain ⟨t, ht, hr⟩ := h
    exact ⟨t, ht, hr.st hst⟩
  | own e id =>
    obtain ⟨h1, h2⟩ := h
    obtain ⟨e1, e2⟩ := hσ id hc.1 hc.2
    refine ⟨h1, fun h3 hh3 => ?_⟩
    rw [e2] at hh3
    obtain ⟨a1, a2⟩ := h2 h3 hh3
    refine ⟨a1, ?_⟩
    unfold OwnV at a2 ⊢
    rw [e1]; exact a2
  | _ => exact hc.elim

theorem RelCs.moved {n0c : Nz} {σ1 : Nat → Option (Nat × Nat)} {s1 s2 : St0 E N} {q len : Nat} {nw : Bool} (hσ : ∀ n, q ≤ n → n < q + len → σ' n = σ1 n ∧ s2.getH n = s1.getH n) (hst : ∀ b, StB n0c noB σ1 s1 nw b → StB n0 β σ' s2 nw b) :
    ∀ {cs : List (AC0 E N)} {vs : List Value}, (∀ x ∈ cs, OkC q len nw x) → RelCs P n0c noB σ1 s1 w cs vs → RelCs P n0 β σ' s2 w cs vs
  | [], [], _, h => h
  | c :: cs, v :: vs, hc, h => ⟨RelC.moved (hc c List.mem_cons_self) h.1 hσ hst, RelCs.moved hσ hst (fun x hx => hc x (List.mem_cons_of_mem _ hx)) h.2⟩
  | [], _ :: _, _, h => h.elim
  | _ :: _, [], _, h => h.elim

theorem RelVals.moved {n0c : Nz} {σ1 : Nat → Option (Nat × Nat)} {s1 s2 : St0 E N} {q len : Nat} {nw : Bool} (hσ : ∀ n, q ≤ n → n < q + len → σ' n = σ1 n ∧ s2.getH n = s1.getH n) (hst : ∀ b, StB n0c noB σ1 s1 nw b → StB n0 β σ' s2 nw b) :
    ∀ {cs : List (Val (std E N))} {vs : List Value}, (∀ v ∈ cs, ∀ x ∈ v.cs, OkC q len nw x) → RelVals P n0c noB σ1 s1 w cs vs → RelVals P n0 β σ' s2 w cs vs
  | [], [], _, h => h
  | c :: cs, v :: vs, hc, h => ⟨⟨RelCs.moved hσ hst (hc c List.mem_cons_self) h.1.1, h.1.2⟩, RelVals.moved hσ hst (fun x hx => hc x (List.mem_cons_of_mem _ hx)) h.2⟩
  | [], _ :: _, _, h => h.elim
  | _ :: _, [], _, h => h.elim

theorem RelAV.moved {n0c : Nz} {σ1 : Nat → Option (Nat × Nat)} {s1 s2 : St0 E N} {q len : Nat} {nw : Bool} (hσ : ∀ n, q ≤ n → n < q + len → σ' n = σ1 n ∧ s2.getH n = s1.getH n) (hst : ∀ b, StB n0c noB σ1 s1 nw b → StB n0 β σ' s2 nw b)
    {vs : List (Val (std E N))} {v : Value} (hc : ∀ v ∈ vs, ∀ x ∈ v.cs, OkC q len nw x) (h : RelAV P n0c noB σ1 s1 w (avOf vs) v) : RelAV P n0 β σ' s2 w (avOf vs) v := by
  match vs, hc, h with
  | [x], hc, h => exact ⟨RelCs.moved hσ hst (hc x List.mem_cons_self) h.1, h.2⟩
  | [], hc, h => obtain ⟨us, hv, hr⟩ := h; exact ⟨us, hv, RelVals.moved hσ hst hc hr⟩
  | x :: y :: r, hc, h => obtain ⟨us, hv, hr⟩ := h; exact ⟨us, hv, RelVals.moved hσ hst hc hr⟩

/-- What a call leaves. -/
def CallPost (a : Act) (P : Program) (n0 : Nz) (β : Nat → Option Nat) (σ : Nat → Option (Nat × Nat)) (s : St0 E N) (w : World) (new : Nat → Prop) (wr : Wr (std E N)) (vs : List (Val (std E N))) : Ending → World → Prop
  | .returned v, w' => ∃ σ', Mem P n0 β σ' (s.apply wr) w' ∧ Ext P new β σ s w β σ' (s.apply wr) w' ∧ Tidy a new s (s.apply wr) ∧ RelAV P n0 β σ' (s.apply wr) w' (avOf vs) v
  | _, _ => False

theorem call_ok (hn0 : n0.n ≤ w.heap.size) (m : Mem P n0 β σ s w) {ci : CI} (hv : Valid P E N ci) {fn : Func} (hfn : P.funcs[ci.f]? = some fn) {args : List (AV (std E N))} {vals : List Value} {ls : List SLeaf} {fr : List (Nat × Option (HEnt (std E N)))} {u : List Nat} {k k' : Nat}
    (hr : RelArgs P n0 β σ s w args vals) (ha : argsOk P fn.params.toList args = true) (hf : argFns args = some ci.fns) (hl : RM.run s (argLf (O := std E N) ci.gives [] args) k = .ok ((ls, fr, u), k')) (hnone : noneIn u fr = true)
    {rs : List PV} (he : E ci.f ci.fns (ls.map Leaf.pv) = some rs) {id : Nat} {vs : List (Val (std E N))} {nh : List (Nat × HEnt (std E N))} (hb : boundVals (O := std E N) P ci.own ci.nw rs 0 id fn.resultTypes.toList = some (vs, nh))
    (hid : ∀ n, id ≤ n → n < id + nh.length → Fresh a s n) {wr : Wr (std E N)} (ht0 : wr.ts = []) (hwb : wr.bs = [])
    (hwr : wr.hs = (match ci.nw with | true => [] | false => fr) ++ (u.map (fun n => (n, none)) ++ nh.map fun (n, h) => (n, some h))) :
    Calls P ci.f vals.toArray w (CallPost a P n0 β σ s w (fun n => id ≤ n ∧ n < id + nh.length) wr vs) := by
  obtain ⟨frOK, vs0, nhc, ids, a1, a2, a3, a4, a5, a6, a7, a8⟩ := args_made m hr ha hf hl 1
  have hfru := noneIn_spec hnone
  let sk := s.apply ({ hs := fr } : Wr (std E N))
  have subk : Sub s sk := frOK.sub rfl rfl
  let U : Nat → Prop := fun b => (¬ InM β σ sk b ∧ Old n0 false b) ∨ ∃ i cap h, i ∈ u ∧ s.getH i = some h ∧ h.frozen = false ∧ σ i = some (b, cap)
  let n0c : Nz := ⟨w.heap.size, U⟩
  let σc : Nat → Option (Nat × Nat) := fun n => match ids[n - 1]? with
    | some (some i) => σ i
    | _ => none
  have rowc := a2.row
  have gH0 : ∀ n, (hpSt nhc).getH n = alGet nhc n := fun n => rfl
  have gB0 : ∀ n, (hpSt nhc).getB n = none := fun n => rfl
  have find : ∀ n h, (hpSt nhc).getH n = some h → ∃ i o, n = 1 + i ∧ ids[i]? = some o ∧ Gent P s h o ∧ h.frozen = false ∧ σc n = o.bind σ := fun n h hh => by
    obtain ⟨i, o, h1, h2, h3, h4⟩ := a2.find (rowc.get hh)
    refine ⟨i, o, h1, h2, h3, h4, ?_⟩
    have : n - 1 = i := by omega
    simp only [σc, this, h2]
    cases o <;> rfl
  have inM0 : ∀ b, InM noB σc (hpSt nhc) b → ∃ i cap h, i ∈ u ∧ s.getH i = some h ∧ h.frozen = false ∧ σ i = some (b, cap) := fun b hb => by
    rcases hb with ⟨n, e, h1, h2⟩ | ⟨n, h, cap, h1, h2, h3⟩
    · rw [gB0] at h1; cases h1
    · obtain ⟨i, o, e1, e2, e3, e4, e5⟩ := find n h h1
      rw [e5] at h3
      cases o with
      | none => cases h3
      | some x =>
        obtain ⟨h0, q1, q2, q3, q4, q5⟩ := e3
        exact ⟨x, cap, h0, (a5 x (List.mem_of_getElem? e2)).1, q1, q4, h3⟩
  have inMs : ∀ b, InM noB σc (hpSt nhc) b → InM β σ s b := fun b hb => by
    obtain ⟨i, cap, h, _, h1, h2, h3⟩ := inM0 b hb
    exact .inr ⟨i, h, cap, h1, h2, h3⟩
  have inMk : ∀ b, InM noB σc (hpSt nhc) b → InM β σ sk b := fun b hb => by
    obtain ⟨i, cap, h, h0, h1, h2, h3⟩ := inM0 b hb
    refine .inr ⟨i, h, cap, ?_, h2, h3⟩
    show alGet (applyA s.hp fr) i = some h
    rw [applyA_not (fun hm => by
      obtain ⟨x, hx, e⟩ := List.mem_map.1 hm
      exact hfru x hx (e ▸ h0))]
    exact h1
  have stc : ∀ nw b, StB n0 β σ s nw b → StB n0c noB σc (hpSt nhc) false b := fun nw b hb =>
    ⟨fun hm => hb.1 (inMs b hm), ⟨fun e => (by cases e), .inr (.inl ⟨fun hm => hb.1 (subk.inM hm), hb.2.mono (fun e => (by cases e))⟩)⟩⟩
  have m0 : Mem P n0c noB σc (hpSt nhc) w := by
    refine ⟨fun b e h => (by rw [gB0] at h; cases h), fun n h hh => ?_, fun b b' e e' blk h => (by rw [gB0] at h; cases h), fun n n' h h' blk cap cap' hh hh' h1 h2 => ?_, fun b e i h blk cap hb => (by rw [gB0] at hb; cases hb)⟩
    · obtain ⟨i, o, e1, e2, e3, e4, e5⟩ := find n h hh
      have hnw := a7 (n, h) (rowc.get hh)
      cases o with
      | none =>
        obtain ⟨q1, t, ts, q2, q3⟩ := e3
        exact ⟨t, ts, q2, q3, by rw [q1]; simp, .inl ⟨by rw [e5]; rfl, q1⟩⟩
      | some x =>
        obtain ⟨h0, q1, q2, q3, q4, q5⟩ := e3
        have hnw' : h.nw = false := hnw
        refine (m.H x h0 q1).view q2 q3 (by rw [e5]; rfl) (fun blk cap hs ho => ?_) (fun b hb => by rw [hnw']; exact stc _ b hb)
        rw [hnw']
        exact ⟨fun e => by (cases e), .inr (.inr ⟨x, cap, h0, (a5 x (List.mem_of_getElem? e2)).1, q1, q4, hs⟩)⟩
    · obtain ⟨i, o, e1, e2, e3, e4, e5⟩ := find n h hh
      obtain ⟨i', o', e1', e2', e3', e4', e5'⟩ := find n' h' hh'
      rw [e5] at h1; rw [e5'] at h2
      cases o with
      | none => cases h1
      | some x => cases o' with
        | none => cases h2
        | some x' =>
          obtain ⟨h0, q1, _⟩ := e3
          obtain ⟨h0', q1', _⟩ := e3'
          have := m.uH x x' h0 h0' blk cap cap' q1 q1' h1 h2
          subst this
          rw [e1, e1', nodup_idx a6 e2 e2']
  have wired : Wired σ σc (hpSt nhc) 1 ids nhc := wired_of (fun i o p h1 h2 => by
    have h3 := rowc.idx h2
    refine ⟨?_, ?_⟩
    · have : 1 + i - 1 = i := by omega
      simp only [σc, this, h1]
      cases o <;> rfl
    · rw [gH0, ← h3]; exact rowc.has (List.mem_of_getElem? h2))
  have rargs := a8 sk n0c σc (hpSt nhc) subk (frOK.frz rfl) (fun b hb =>
    ⟨fun hm => hb.1 (inMk b hm), ⟨fun e => (by cases e), .inr (.inl ⟨hb.1, hb.2⟩)⟩⟩) wired
  have hlsl : (ls.map Leaf.pv).map PV.leaf = ls := by
    rw [List.map_map]
    conv => rhs; rw [← List.map_id ls]
    exact List.map_congr_left (fun x _ => Leaf.leaf_pv x)
  have hcall := hv fn hfn (ls.map Leaf.pv) rs he vs0 nhc (by rw [hlsl]; exact a1) n0c σc w vals rfl m0 rargs
  refine Calls.mono hcall (fun e w' hret => ?_)
  cases e with
  | panicked c => exact hret
  | outgrown => exact hret
  | returned v =>
    obtain ⟨r1, r2, r3, r4, r5, r6⟩ := hret
    obtain ⟨σ1, vs', nh', r7, r8, r9, r10⟩ := r6 id
    rw [hb] at r7; cases r7
    obtain ⟨row1, okh, okc⟩ := boundVals_ok hb
    let frx := match ci.nw with | true => [] | false => fr
    let base := s.apply ({ hs := frx } : Wr (std E N))
    let s2 := s.apply wr
    let σ2 : Nat → Option (Nat × Nat) := fun n => if id ≤ n ∧ n < id + nh.length then σ1 n else σ n
    have frxOK : FrOK s frx := by
      show FrOK s (match ci.nw with | true => [] | false => fr)
      cases ci.nw
      · exact frOK
      · exact fun n v hm => by simp at hm
    have gB := fun n => State.getB_apply0 s wr hwb n
    have gT := fun n => State.getT_apply0 s wr ht0 n
    have hs2 : s2.hp = applyA (applyA (applyA s.hp frx) (u.map fun n => (n, none))) (nh.map fun (n, h) => (n, some h)) := by
      show applyA s.hp wr.hs = _
      rw [hwr, applyA_append, applyA_append]
    have g1 : ∀ n, id ≤ n → n < id + nh.length → s2.getH n = alGet nh n := fun n h1 h2 => by
      obtain ⟨h, hh⟩ := row1.at h1 h2
      rw [row1.has hh]
      show alGet s2.hp n = _
      rw [hs2]
      refine applyA_last (fun x hx e => ?_) ⟨(n, some h), List.mem_map.2 ⟨(n, h), hh, rfl⟩, rfl⟩
      obtain ⟨y, hy, rfl⟩ := List.mem_map.1 hx
      have h3 := row1.has (n := y.1) (h := y.2) hy
      simp only at e
      rw [e, row1.has hh] at h3
      cases h3; rfl
    have g2 : ∀ n, ¬ (id ≤ n ∧ n < id + nh.length) → s2.getH n = if n ∈ u then none else base.getH n := fun n hn => by
      show alGet s2.hp n = _
      rw [hs2, applyA_not (fun hm => hn (by
        obtain ⟨x, hx, rfl⟩ := List.mem_map.1 hm
        obtain ⟨y, hy, rfl⟩ := List.mem_map.1 hx
        exact row1.mem y hy))]
      split
      · rename_i hu
        exact applyA_last (fun x hx e => by obtain ⟨y, hy, rfl⟩ := List.mem_map.1 hx; rfl) ⟨(n, none), List.mem_map.2 ⟨n, hu, rfl⟩, rfl⟩
      · rename_i hu
        rw [applyA_not (fun hm => hu (by
          obtain ⟨x, hx, rfl⟩ := List.mem_map.1 hm
          obtain ⟨y, hy, rfl⟩ := List.mem_map.1 hx
          exact hy))]
        rfl
    have old : ∀ n h', ¬ (id ≤ n ∧ n < id + nh.length) → s2.getH n = some h' → n ∉ u ∧ base.getH n = some h' ∧ ∃ h0, s.getH n = some h0 ∧ (h' = h0 ∨ h' = { h0 with frozen := true, dirty := true }) := fun n h' hn hh => by
      rw [g2 n hn] at hh
      split at hh
      · cases hh
      · rename_i hu; exact ⟨hu, hh, frxOK.get rfl n h' hh⟩
    have nogiveH : ∀ n h0 b cap, n ∉ u → s.getH n = some h0 → σ n = some (b, cap) → ¬ InM noB σc (hpSt nhc) b := fun n h0 b cap hu hh hs hm => by
      obtain ⟨i, cap', h, q1, q2, q3, q4⟩ := inM0 b hm
      exact hu (m.uH n i h0 h b cap cap' hh q2 hs q4 ▸ q1)
    have nogiveB : ∀ n e b, s.getB n = some e → β n = some b → ¬ InM noB σc (hpSt nhc) b := fun n e b hh hs hm => by
      obtain ⟨i, cap', h, q1, q2, q3, q4⟩ := inM0 b hm
      exact m.uX n e i h b cap' hh q2 hs q4
    have in1 : ∀ n h b cap, id ≤ n ∧ n < id + nh.length → s2.getH n = some h → σ1 n = some (b, cap) → InM noB σ1 (hpSt nh) b := fun n h b cap hn hh hs => by
      rw [g1 n hn.1 hn.2] at hh
      exact .inr ⟨n, h, cap, hh, (okh _ (row1.get hh)).2.1, hs⟩
    have s2old : ∀ n, ¬ (id ≤ n ∧ n < id + nh.length) → σ2 n = σ n := fun n hn => by simp only [σ2, if_neg hn]
    have s2new : ∀ n, id ≤ n ∧ n < id + nh.length → σ2 n = σ1 n := fun n hn => by simp only [σ2, if_pos hn]
    have x : Ext P (fun n => id ≤ n ∧ n < id + nh.length) β σ s w β σ2 s2 w' := by
      refine ⟨r1, r2, r3, r4, fun b hlt hm => r5 b hlt (fun h => hm (inMs b h)), fun b hb => ?_, fun n e hh hn => ?_, fun n h' hh hn => ?_⟩
      · rcases hb with ⟨n, e, h1, h2⟩ | ⟨n, h, cap, h1, h2, h3⟩
        · rw [gB] at h1; exact .inl (.inl ⟨n, e, h1, h2⟩)
        · by_cases hn : id ≤ n ∧ n < id + nh.length
          · rw [s2new n hn] at h3
            exact (r10 b (in1 n h b cap hn h1 h3)).imp (inMs b) (fun h => h)
          · rw [s2old n hn] at h3
            obtain ⟨_, _, h0, q1, q2⟩ := old n h hn h1
            rcases q2 with rfl | rfl
            · exact .inl (.inr ⟨n, h, cap, q1, h2, h3⟩)
            · cases h2
      · rw [gB] at hh; exact ⟨⟨e, hh⟩, rfl⟩
      · obtain ⟨_, _, h0, q1, q2⟩ := old n h' hn hh
        refine ⟨h0, q1, s2old n hn, ?_⟩
        rcases q2 with rfl | rfl <;> exact ⟨rfl, rfl⟩
    have stR : ∀ b, StB n0c noB σ1 (hpSt nh) ci.nw b → StB n0 β σ2 s2 ci.nw b := fun b hb => by
      have hge : (¬ w.heap.size ≤ b) → ci.nw = false := fun h => by
        cases hnw : ci.nw with
        | false => rfl
        | true => exact (h (hb.2.1 hnw)).elim
      refine ⟨fun hm => ?_, ⟨fun e => Nat.le_trans hn0 (hb.2.1 e), ?_⟩⟩
      · rcases hm with ⟨n, e, h1, h2⟩ | ⟨n, h, cap, h1, h2, h3⟩
        · rw [gB] at h1
          have hlt := m.ltB h1 h2
          rcases hb.2.2 with h | ⟨h, _⟩ | ⟨i, cap', h, q1, q2, q3, q4⟩
          · have : w.heap.size ≤ b := h
            omega
          · exact h (.inl ⟨n, e, by show (s.apply _).getB n = _; rw [State.getB_apply0 s _ rfl]; exact h1, h2⟩)
          · exact m.uX n e i h b cap' h1 q2 h2 q4
        · by_cases hn : id ≤ n ∧ n < id + nh.length
          · rw [s2new n hn] at h3
            exact hb.1 (in1 n h b cap hn h1 h3)
          · rw [s2old n hn] at h3
            obtain ⟨hu, hbase, h0, q1, q2⟩ := old n h hn h1
            have hlt := m.ltH q1 h3
            rcases hb.2.2 with h | ⟨h, _⟩ | ⟨i, cap', hi, p1, p2, p3, p4⟩
            · have : w.heap.size ≤ b := h
              omega
            · have hnw := hge (by omega)
              refine h (.inr ⟨n, _, cap, ?_, h2, h3⟩)
              have : base = sk := by simp only [base, frx, hnw]; rfl
              rw [← this]; exact hbase
            · exact hu (m.uH n i h0 hi b cap cap' q1 p2 h3 p4 ▸ p1)
      · rcases hb.2.2 with h | ⟨_, h⟩ | ⟨i, cap', hi, p1, p2, p3, p4⟩
        · exact .inl (Nat.le_trans hn0 h)
        · exact h.2
        · obtain ⟨t, ts, _, _, _, hm⟩ := m.H i hi p2
          rcases hm with ⟨h1, _⟩ | ⟨blk, cap, cells, el, h1, _, _, _, _, ho, _⟩
          · rw [h1] at p4; cases p4
          · rw [h1] at p4; cases p4; exact ho.2
    have newold : ∀ n h b cap, id ≤ n ∧ n < id + nh.length → s2.getH n = some h → σ1 n = some (b, cap) → (∀ n' h' cap', ¬ (id ≤ n' ∧ n' < id + nh.length) → s2.getH n' = some h' → σ n' ≠ some (b, cap')) ∧ (∀ n' e, s.getB n' = some e → β n' ≠ some b) := fun n h b cap hn hh hs => by
      have := r10 b (in1 n h b cap hn hh hs)
      refine ⟨fun n' h' cap' hn' hh' hs' => ?_, fun n' e hh' hs' => ?_⟩
      · obtain ⟨hu, _, h0, q1, _⟩ := old n' h' hn' hh'
        rcases this with h | h
        · exact nogiveH n' h0 b cap' hu q1 hs' h
        · have := m.ltH q1 hs'; omega
      · rcases this with h | h
        · exact nogiveB n' e b hh' hs' h
        · have := m.ltB hh' hs'; omega
    have tidy : Tidy a (fun n => id ≤ n ∧ n < id + nh.length) s s2 := by
      refine ⟨fun n hf hn => ⟨fun q tv hq => ?_, fun q e hq => ?_, fun q h hq => ?_⟩, fun n e hh hd => ?_, fun n h hh hd => ?_⟩
      · rw [gT] at hq; exact hf.t q tv hq
      · rw [gB] at hq; exact hf.b q e hq
      · by_cases hr : id ≤ q ∧ q < id + nh.length
        · exact fun e => hn (e ▸ hr)
        · obtain ⟨_, _, h0, q1, _⟩ := old q h hr hq
          exact hf.h q h0 q1
      · rw [gB] at hh; exact hh
      · by_cases hr : id ≤ n ∧ n < id + nh.length
        · rw [g1 n hr.1 hr.2] at hh
          have := (okh _ (row1.get hh)).2.2
          simp only at this
          rw [this] at hd; cases hd
        · obtain ⟨_, _, h0, q1, q2⟩ := old n h hr hh
          rcases q2 with rfl | rfl
          · exact q1
          · cases hd
    refine ⟨σ2, ⟨fun n e hh => ?_, fun n h hh => ?_, fun b b' e e' blk h h' => ?_, fun n n' h h' blk cap cap' hh hh' h1 h2 => ?_, fun b e i h blk cap hb' hi h1 h2 => ?_⟩, x, tidy, ?_⟩
    · rw [gB] at hh
      obtain ⟨blk, cells, el, q1, q2, q3⟩ := m.B n e hh
      exact ⟨blk, cells, el, q1, (r5 blk (lt_of_heap q2) (nogiveB n e blk hh q1)).trans q2, x.relCs (fun k hk hn => ((hid k hn.1 hn.2).b n e hh).2 hk) q3⟩
    · by_cases hn : id ≤ n ∧ n < id + nh.length
      · have hh' := hh
        rw [show (s.apply wr).getH n = alGet nh n from g1 n hn.1 hn.2] at hh'
        have hnw : h.nw = ci.nw := (okh _ (row1.get hh')).1
        refine (r8.H n h hh').view rfl rfl (s2new n hn) (fun blk cap hs ho => ?_) (fun b hb => by rw [hnw] at hb ⊢; exact stR b hb)
        refine ⟨fun e => Nat.le_trans hn0 (ho.1 e), ?_⟩
        rcases ho.2 with h | ⟨_, h⟩ | ⟨i, cap', hi, p1, p2, p3, p4⟩
        · exact .inl (Nat.le_trans hn0 h)
        · exact h.2
        · obtain ⟨t, ts, _, _, _, hm⟩ := m.H i hi p2
          rcases hm with ⟨h1, _⟩ | ⟨blk', cap, cells, el, h1, _, _, _, _, ho, _⟩
          · rw [h1] at p4; cases p4
          · rw [h1] at p4; cases p4; exact ho.2
      · obtain ⟨hu, _, h0, q1, q2⟩ := old n h hn hh
        obtain ⟨t, ts, ht, hts, hrl, hm⟩ := m.H n h0 q1
        have key : RelH P n0 β σ2 s2 w' n h0 := by
          refine ⟨t, ts, ht, hts, hrl, ?_⟩
          rcases hm with ⟨p1, p2⟩ | ⟨blk, cap, cells, el, p1, p2, p3, p4, p5, p6, v', p7, p8⟩
          · exact .inl ⟨by rw [s2old n hn]; exact p1, p2⟩
          · exact .inr ⟨blk, cap, cells, el, by rw [s2old n hn]; exact p1, (r5 blk (lt_of_heap p2) (nogiveH n h0 blk cap hu q1 p1)).trans p2, p3, p4, p5, p6, v', p7, fun i j t' hi hj => x.rep (p8 i j t' hi hj)⟩
        rcases q2 with rfl | rfl
        · exact key
        · exact key.view (q := n) rfl rfl rfl (fun _ _ _ h => h) (fun b h => h)
    · rw [gB] at h h'; exact m.uB b b' e e' blk h h'
    · by_cases hn : id ≤ n ∧ n < id + nh.length <;> by_cases hn' : id ≤ n' ∧ n' < id + nh.length
      · rw [s2new n hn] at h1; rw [s2new n' hn'] at h2
        rw [show (s.apply wr).getH n = alGet nh n from g1 n hn.1 hn.2] at hh
        rw [show (s.apply wr).getH n' = alGet nh n' from g1 n' hn'.1 hn'.2] at hh'
        exact r8.uH n n' h h' blk cap cap' hh hh' h1 h2
      · rw [s2new n hn] at h1; rw [s2old n' hn'] at h2
        exact ((newold n h blk cap hn hh h1).1 n' h' cap' hn' hh' h2).elim
      · rw [s2old n hn] at h1; rw [s2new n' hn'] at h2
        exact ((newold n' h' blk cap' hn' hh' h2).1 n h cap hn hh h1).elim
      · rw [s2old n hn] at h1; rw [s2old n' hn'] at h2
        obtain ⟨_, _, h0, q1, _⟩ := old n h hn hh
        obtain ⟨_, _, h0', q1', _⟩ := old n' h' hn' hh'
        exact m.uH n n' h0 h0' blk cap cap' q1 q1' h1 h2
    · rw [gB] at hb'
      by_cases hn : id ≤ i ∧ i < id + nh.length
      · rw [s2new i hn] at h2
        exact (newold i h blk cap hn hi h2).2 b e hb' h1
      · rw [s2old i hn] at h2
        obtain ⟨_, _, h0, q1, _⟩ := old i h hn hi
        exact m.uX b e i h0 blk cap hb' q1 h1 h2
    · exact RelAV.moved (fun n h1 h2 => ⟨s2new n ⟨h1, h2⟩, g1 n h1 h2⟩) stR okc r9

end
end Go.Px
