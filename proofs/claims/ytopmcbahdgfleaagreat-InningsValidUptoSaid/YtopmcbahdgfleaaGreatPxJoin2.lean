/-
Px: ways that meet again: rows of cells, slots, and the state behind.
-/
import Derived.Test.YtopmcbahdgfleaaGreatPxJoin
namespace Go.Px
set_option linter.unusedVariables false
set_option linter.unusedSimpArgs false

section
variable {E : Env} {N : Nat} {P : Program} {cfg : Cfg} {n0 n0' : Nz} {nt : Nat} {β β' : Nat → Option Nat} {σ σ' : Nat → Option (Nat × Nat)} {s s' s2 : St0 E N} {a : Act} {w w' : World}

theorem Holds.head {cv : List PV} {j : Nat} {l : SLeaf} {ls : List SLeaf} (h : Holds cv j (l :: ls)) : cellAt cv j = l.pv := h 0 l rfl
theorem Holds.tail {cv : List PV} {j : Nat} {l : SLeaf} {ls : List SLeaf} (h : Holds cv j (l :: ls)) : Holds cv (j + 1) ls := fun i x hx => by
  have := h (i + 1) x (by simpa using hx)
  rw [show j + 1 + i = j + (i + 1) by omega]; exact this

theorem enc_cells (m : Mem P n0 β σ s w) {keep : List Nat} : ∀ {scs : List SlotC} {cs : List (AC0 E N)} {vals : List Value} {ls : List SLeaf} {used u : List Nat}, encCs (O := std E N) s keep used scs cs = .ok (ls, u) → RelCs P n0 β σ s w cs vals →
    ∀ (cv : List PV) (j : Nat), Holds cv j ls → ∀ (q : Nat), ls.length = scs.length ∧
    ∃ (os : List (Option Nat)) (fr : List (Nat × Option (HEnt (std E N)))), Enc s keep used u os fr ∧ Ents P s q os (DecCs E N cv j q scs).2 ∧ (∀ p ∈ (DecCs E N cv j q scs).2, p.2.dirty = true) ∧
      (∀ n ∈ namesCs (DecCs E N cv j q scs).1, q ≤ n ∧ n < q + (DecCs E N cv j q scs).2.length) ∧
      ∀ (sf : St0 E N), Sub s sf → Frz sf fr → ∀ (σ2 : Nat → Option (Nat × Nat)) (S : St0 E N), (∀ nw b, StB n0 β σ sf nw b → StB n0 β σ2 S nw b) → Wired σ σ2 S q os (DecCs E N cv j q scs).2 → RelCs P n0 β σ2 S w (DecCs E N cv j q scs).1 vals
  | [], [], [], ls, used, u, h, _ => by
    intro cv j _ q
    simp only [encCs] at h; cases h
    exact ⟨rfl, [], [], Enc.nil, trivial, fun p hp => by simp [DecCs, decCs] at hp, fun n hn => by simp [DecCs, decCs, namesCs] at hn, fun _ _ _ _ _ _ _ => trivial⟩
  | sc :: scs, c :: cs, v :: vals, ls, used, u, h, hc => by
    intro cv j hh q
    simp only [encCs] at h
    split at h
    · cases h
    rename_i l u1 h1
    split at h
    · cases h
    rename_i ls2 u2 h2
    cases h
    obtain ⟨os1, fr1, a1, a2, a3, a4, a5⟩ := enc_cell m h1 hc.1 hh.head q
    obtain ⟨hlen, os2, fr2, b1, b2, b3, b4, b5⟩ := enc_cells m h2 hc.2 _ _ hh.tail (q + (DecC E N cv j q sc).2.length)
    have e1 : (DecCs E N cv j q (sc :: scs)).1 = (DecC E N cv j q sc).1 :: (DecCs E N cv (j + 1) (q + (DecC E N cv j q sc).2.length) scs).1 := rfl
    have e2 : (DecCs E N cv j q (sc :: scs)).2 = (DecC E N cv j q sc).2 ++ (DecCs E N cv (j + 1) (q + (DecC E N cv j q sc).2.length) scs).2 := rfl
    rw [e1, e2]
    refine ⟨by simp [hlen], os1 ++ os2, fr1 ++ fr2, a1.append b1, a2.append b2, fun p hp => ?_, fun n hn => ?_, fun sf hs hf σ2 S hst hw => ⟨?_, ?_⟩⟩
    · exact (List.mem_append.1 hp).elim (a3 p) (b3 p)
    · simp only [namesCs, List.mem_append] at hn
      rw [List.length_append]
      rcases hn with hn | hn
      · have := a4 n hn; omega
      · have := b4 n hn; omega
    · exact a5 sf hs hf.left σ2 S hst (hw.left a2.len)
    · exact b5 sf hs hf.right σ2 S hst (hw.right a2.len)
  | [], _ :: _, _, _, _, _, h, _ => by simp only [encCs] at h; cases h
  | _ :: _, [], _, _, _, _, h, _ => by simp only [encCs] at h; cases h
  | _, [], _ :: _, _, _, _, _, hc => hc.elim
  | _, _ :: _, [], _, _, _, _, hc => hc.elim

theorem row_split {q : Nat} {r r' : List (Nat × HEnt (std E N))} (h1 : Row q r) (h2 : Row (q + r.length) r') (n : Nat) : alGet (r ++ r') n = match alGet r' n with
    | some a => some a
    | none => alGet r n := by
  rw [alGet_append]
  cases e1 : alGet r n with
  | none => cases alGet r' n <;> rfl
  | some x =>
    cases e2 : alGet r' n with
    | none => rfl
    | some y =>
      have m1 := h1.mem _ (h1.get e1)
      have m2 := h2.mem _ (h2.get e2)
      simp at m1 m2; omega

theorem decSlots_t (cv : List PV) (j q n : Nat) (agg : Bool) (cs : List SlotC) (r : List Slot) (u : St0 E N) : decSlots (O := std E N) cv j q (.t n agg cs :: r) u =
    decSlots cv (j + cs.length) (q + (DecCs E N cv j q cs).2.length) r { u with tm := setTM u.tm n (some ⟨[], .val { agg, cs := (DecCs E N cv j q cs).1 }⟩), hp := (DecCs E N cv j q cs).2 ++ u.hp } := rfl
theorem decSlots_b (cv : List PV) (j q n : Nat) (cs : List SlotC) (r : List Slot) (u : St0 E N) : decSlots (O := std E N) cv j q (.b n cs :: r) u =
    decSlots cv (j + cs.length) (q + (DecCs E N cv j q cs).2.length) r { u with bx := alSet u.bx n (some { cs := (DecCs E N cv j q cs).1, dirty := true }), hp := (DecCs E N cv j q cs).2 ++ u.hp } := rfl

theorem enc_slots (hs : Sim P n0 nt β σ s a w) {keep : List Nat} : ∀ {sl : List Slot} {used : List Nat} {ls : List SLeaf}, encSlots (O := std E N) s keep used sl = .ok ls →
    ∀ (cv : List PV) (j : Nat), Holds cv j ls → ∀ (q : Nat) (u : St0 E N), ∃ (u' : List Nat) (NH : List (Nat × HEnt (std E N))) (os : List (Option Nat)) (fr : List (Nat × Option (HEnt (std E N)))), Enc s keep used u' os fr ∧ Ents P s q os NH ∧ (∀ p ∈ NH, p.2.dirty = true) ∧
      (decSlots (O := std E N) cv j q sl u).st = q + NH.length ∧ (∀ n, (decSlots (O := std E N) cv j q sl u).getH n = match alGet NH n with | some h => some h | none => u.getH n) ∧
      ∀ (sf : St0 E N), Sub s sf → Frz sf fr → ∀ (σ2 : Nat → Option (Nat × Nat)) (S : St0 E N), (∀ nw b, StB n0 β σ sf nw b → StB n0 β σ2 S nw b) → Wired σ σ2 S q os NH →
        (∀ n tv, (decSlots (O := std E N) cv j q sl u).getT n = some tv → u.getT n = some tv ∨ (tv.gs = [] ∧ RelAV P n0 β σ2 S w tv.v (a.tmps.getD n undef) ∧ ∀ k ∈ tv.v.names, k < q + NH.length)) ∧
        (∀ n e, (decSlots (O := std E N) cv j q sl u).getB n = some e → u.getB n = some e ∨ (e.dirty = true ∧ (∃ cs, Slot.b n cs ∈ sl) ∧ (∃ e0, s.getB n = some e0) ∧ RelB P n0 β σ2 S w n e ∧ ∀ k ∈ namesCs e.cs, k < q + NH.length))
  | [], used, ls, h => by
    intro cv j _ q u
    exact ⟨used, [], [], [], Enc.nil, trivial, fun p hp => by simp at hp, rfl, fun n => rfl, fun _ _ _ _ _ _ _ => ⟨fun n tv h => .inl h, fun n e h => .inl h⟩⟩
  | .t n agg scs :: r, used, ls, h => by
    intro cv j hh q u
    simp only [encSlots] at h
    split at h
    case h_2 => cases h
    rename_i v ht
    split at h
    case h_2 => cases h
    case h_3 => cases h
    rename_i ls1 u1 hagg h1
    split at h
    case h_2 => cases h
    rename_i more h2
    cases h
    have hv : RelAV P n0 β σ s w (.val v) (a.tmps.getD n undef) := by
      rcases hs.T n _ ht with ⟨_, h3⟩ | ⟨h3, _⟩
      · exact h3
      · exact (h3 (fun n b hm => by simp at hm)).elim
    have hv : RelVal P n0 β σ s w v (a.tmps.getD n undef) := hv
    obtain ⟨hlen, os1, fr1, a1, a2, a3, a4, a5⟩ := enc_cells hs.M h1 hv.1 _ _ hh.left q
    rw [decSlots_t]
    obtain ⟨u', NH, os2, fr2, b1, b2, b3, b4, b5, b6⟩ := enc_slots hs h2 cv (j + scs.length) (by rw [← hlen]; exact hh.right) (q + (DecCs E N cv j q scs).2.length)
      { u with tm := setTM u.tm n (some ⟨[], .val { agg, cs := (DecCs E N cv j q scs).1 }⟩), hp := (DecCs E N cv j q scs).2 ++ u.hp }
    refine ⟨u', (DecCs E N cv j q scs).2 ++ NH, os1 ++ os2, fr1 ++ fr2, a1.append b1, a2.append b2, fun p hp => (List.mem_append.1 hp).elim (a3 p) (b3 p), by rw [b4, List.length_append, Nat.add_assoc], fun k => ?_, fun sf hsub hf σ2 S hst hw => ?_⟩
    · rw [b5, row_split a2.row b2.row]
      cases alGet NH k with
      | some x => rfl
      | none =>
        show alGet ((DecCs E N cv j q scs).2 ++ u.hp) k = _
        rw [alGet_append]
        cases alGet (DecCs E N cv j q scs).2 k <;> rfl
    · obtain ⟨c1, c2⟩ := b6 sf hsub hf.right σ2 S hst (hw.right a2.len)
      refine ⟨fun k tv hk => ?_, fun k e hk => ?_⟩
      · rcases c1 k tv hk with h3 | ⟨h3, h4, h5⟩
        · have h3 : getTM (setTM u.tm n (some ⟨[], .val { agg, cs := (DecCs E N cv j q scs).1 }⟩)) k = some tv := h3
          rw [getTM_setTM] at h3
          split at h3
          · rename_i hkn
            cases h3
            refine .inr ⟨rfl, ?_, fun x hx => ?_⟩
            · rw [hkn.1]
              refine ⟨a5 sf hsub hf.left σ2 S hst (hw.left a2.len), ?_⟩
              have hag : v.agg = agg := by simpa using hagg
              have := hv.2
              rw [hag] at this; exact this
            · have := a4 x hx
              rw [List.length_append]; omega
          · exact .inl h3
        · exact .inr ⟨h3, h4, fun x hx => by have := h5 x hx; rw [List.length_append]; omega⟩
      · rcases c2 k e hk with h3 | ⟨h3, ⟨cs, h4⟩, h5, h6, h7⟩
        · exact .inl h3
        · exact .inr ⟨h3, ⟨cs, List.mem_cons_of_mem _ h4⟩, h5, h6, fun x hx => by have := h7 x hx; rw [List.length_append]; omega⟩
  | .b n scs :: r, used, ls, h => by
    intro cv j hh q u
    simp only [encSlots] at h
    split at h
    case h_2 => cases h
    rename_i e0 he0
    split at h
    case h_2 => cases h
    rename_i ls1 u1 h1
    split at h
    case h_2 => cases h
    rename_i more h2
    cases h
    obtain ⟨blk, cells, el, hβ, hheap, hrel⟩ := hs.M.B n e0 he0
    obtain ⟨hlen, os1, fr1, a1, a2, a3, a4, a5⟩ := enc_cells hs.M h1 hrel _ _ hh.left q
    rw [decSlots_b]
    obtain ⟨u', NH, os2, fr2, b1, b2, b3, b4, b5, b6⟩ := enc_slots hs h2 cv (j + scs.length) (by rw [← hlen]; exact hh.right) (q + (DecCs E N cv j q scs).2.length)
      { u with bx := alSet u.bx n (some { cs := (DecCs E N cv j q scs).1, dirty := true }), hp := (DecCs E N cv j q scs).2 ++ u.hp }
    refine ⟨u', (DecCs E N cv j q scs).2 ++ NH, os1 ++ os2, fr1 ++ fr2, a1.append b1, a2.append b2, fun p hp => (List.mem_append.1 hp).elim (a3 p) (b3 p), by rw [b4, List.length_append, Nat.add_assoc], fun k => ?_, fun sf hsub hf σ2 S hst hw => ?_⟩
    · rw [b5, row_split a2.row b2.row]
      cases alGet NH k with
      | some x => rfl
      | none =>
        show alGet ((DecCs E N cv j q scs).2 ++ u.hp) k = _
        rw [alGet_append]
        cases alGet (DecCs E N cv j q scs).2 k <;> rfl
    · obtain ⟨c1, c2⟩ := b6 sf hsub hf.right σ2 S hst (hw.right a2.len)
      refine ⟨fun k tv hk => ?_, fun k e hk => ?_⟩
      · rcases c1 k tv hk with h3 | ⟨h3, h4, h5⟩
        · exact .inl h3
        · exact .inr ⟨h3, h4, fun x hx => by have := h5 x hx; rw [List.length_append]; omega⟩
      · rcases c2 k e hk with h3 | ⟨h3, ⟨cs, h4⟩, h5, h6, h7⟩
        · have h3 : alGet (alSet u.bx n (some { cs := (DecCs E N cv j q scs).1, dirty := true })) k = some e := h3
          rw [alGet_alSet] at h3
          split at h3
          · rename_i hkn
            cases h3
            subst hkn
            exact .inr ⟨rfl, ⟨scs, List.mem_cons_self⟩, ⟨e0, he0⟩, ⟨blk, cells, el, hβ, hheap, a5 sf hsub hf.left σ2 S hst (hw.left a2.len)⟩, fun x hx => by have := a4 x hx; rw [List.length_append]; omega⟩
          · exact .inl h3
        · exact .inr ⟨h3, ⟨cs, List.mem_cons_of_mem _ h4⟩, h5, h6, fun x hx => by have := h7 x hx; rw [List.length_append]; omega⟩

/-- What is so where ways meet again. -/
structure Joined (P : Program) (n0 : Nz) (nt L : Nat) (β : Nat → Option Nat) (σ : Nat → Option (Nat × Nat)) (s : St0 E N) (a : Act) (w : World) (base : St0 E N) (sl : List Slot) (S : St0 E N) (σ2 : Nat → Option (Nat × Nat)) : Prop where
  sim : Sim P n0 nt β σ2 S a w
  ext : Ext P (fun n => L ≤ n) β σ s w β σ2 S w
  wf : WF S
  st : L ≤ S.st
  cleanB : ∀ n e, S.getB n = some e → e.dirty = false → base.getB n = some e
  cleanH : ∀ n e, S.getH n = some e → e.dirty = false → base.getH n = some e
  oldB : ∀ n e, S.getB n = some e → base.getB n = some e ∨ ∃ c, Slot.b n c ∈ sl
  oldH : ∀ n h, n < L → S.getH n = some h → base.getH n = some h

/-- The state in which ways meet again. -/
theorem join (hs : Sim P n0 nt β σ s a w) {base : St0 E N} {L : Nat}
    (hbT : ∀ n tv, base.getT n = some tv → tv.gs = [] ∧ RelAV P n0 β σ s w tv.v (a.tmps.getD n undef) ∧ ∀ k ∈ tv.v.names, k < L)
    (hbB : ∀ n e, base.getB n = some e → n < L ∧ (∃ e', s.getB n = some e' ∧ e'.cs = e.cs) ∧ ∀ k ∈ namesCs e.cs, k < L)
    (hbH : ∀ n h, base.getH n = some h → n < L ∧ ∃ h', s.getH n = some h' ∧ h'.e = h.e ∧ h'.l = h.l ∧ h'.nw = h.nw ∧ h'.frozen = h.frozen)
    {rs : List SlotC} {cs : List (AC0 E N)} {vals : List Value} (hcs : RelCs P n0 β σ s w cs vals) {sl : List Slot} (hsl : ∀ b c, Slot.b b c ∈ sl → b < L) {ls1 ls2 : List SLeaf} {used : List Nat}
    (h1 : encCs (O := std E N) s (base.hp.map (·.1)) [] rs cs = .ok (ls1, used)) (h2 : encSlots (O := std E N) s (base.hp.map (·.1)) used sl = .ok ls2) {cv : List PV} {j : Nat} (hcv : Holds cv j (ls1 ++ ls2)) :
    ∃ (σ2 : Nat → Option (Nat × Nat)) (S : St0 E N), S = decSlots (O := std E N) cv (j + rs.length) (L + (DecCs E N cv j L rs).2.length) sl { base with hp := (DecCs E N cv j L rs).2 ++ base.hp } ∧
      RelCs P n0 β σ2 S w (DecCs E N cv j L rs).1 vals ∧ (∀ n ∈ namesCs (DecCs E N cv j L rs).1, n < S.st) ∧ Joined P n0 nt L β σ s a w base sl S σ2 := by
  obtain ⟨hlen, os1, fr1, a1, a2, a3, a4, a5⟩ := enc_cells hs.M h1 hcs _ _ hcv.left L
  obtain ⟨u', NH2, os2, fr2, b1, b2, b3, b4, b5, b6⟩ := enc_slots hs h2 cv (j + rs.length) (by rw [← hlen]; exact hcv.right) (L + (DecCs E N cv j L rs).2.length) { base with hp := (DecCs E N cv j L rs).2 ++ base.hp }
  generalize hS : decSlots (O := std E N) cv (j + rs.length) (L + (DecCs E N cv j L rs).2.length) sl { base with hp := (DecCs E N cv j L rs).2 ++ base.hp } = S at *
  have enc := a1.append b1
  have ents := a2.append b2
  have hst : S.st = L + ((DecCs E N cv j L rs).2 ++ NH2).length := by rw [b4, List.length_append, Nat.add_assoc]
  have row := ents.row
  have gH : ∀ n, S.getH n = match alGet ((DecCs E N cv j L rs).2 ++ NH2) n with | some h => some h | none => base.getH n := fun n => by
    rw [b5, row_split a2.row b2.row]
    cases alGet NH2 n with
    | some x => rfl
    | none =>
      show alGet ((DecCs E N cv j L rs).2 ++ base.hp) n = _
      rw [alGet_append]
      cases alGet (DecCs E N cv j L rs).2 n <;> rfl
  generalize hNH : (DecCs E N cv j L rs).2 ++ NH2 = NH at *
  generalize hos : os1 ++ os2 = os at *
  generalize hfr : fr1 ++ fr2 = fr at *
  let σ2 : Nat → Option (Nat × Nat) := fun n => if n < L then σ n else match os[n - L]? with
    | some (some i) => σ i
    | _ => none
  let sf := s.apply ({ hs := fr } : Wr (std E N))
  have subf : Sub s sf := enc.ok.sub rfl rfl
  have frz : Frz sf fr := enc.ok.frz rfl
  have sfB : ∀ n, sf.getB n = s.getB n := fun n => State.getB_apply0 s _ rfl n
  have sfH : ∀ n, n ∉ fr.map (·.1) → sf.getH n = s.getH n := fun n hn => applyA_not hn
  have lt : ∀ n h, alGet NH n = some h → L ≤ n ∧ n < S.st := fun n h hh => by
    have := row.mem _ (row.get hh)
    rw [hst]; exact this
  have small : ∀ n h, n < L → S.getH n = some h → base.getH n = some h := fun n h hn hh => by
    rw [gH] at hh
    cases e : alGet NH n with
    | none => rw [e] at hh; exact hh
    | some x => have := (lt n x e).1; omega
  have big : ∀ n h, L ≤ n → S.getH n = some h → (n, h) ∈ NH := fun n h hn hh => by
    rw [gH] at hh
    cases e : alGet NH n with
    | none => rw [e] at hh; have := (hbH n h hh).1; omega
    | some x => rw [e] at hh; cases hh; exact row.get e
  have find : ∀ n h, (n, h) ∈ NH → ∃ i o, n = L + i ∧ os[i]? = some o ∧ Gent P s h o ∧ h.frozen = false ∧ σ2 n = o.bind σ := fun n h hm => by
    obtain ⟨i, o, e1, e2, e3, e4⟩ := ents.find hm
    refine ⟨i, o, e1, e2, e3, e4, ?_⟩
    have h1 : ¬ n < L := by omega
    have h2 : n - L = i := by omega
    simp only [σ2, h1, if_false, h2, e2]
    cases o <;> rfl
  have sB : ∀ n e, S.getB n = some e → n < L ∧ (∃ e0, s.getB n = some e0) ∧ (∀ k ∈ namesCs e.cs, k < S.st) ∧ (e.dirty = false → base.getB n = some e) := fun n e hn => by
    have hw0 : ∃ σ2 S', (∀ nw b, StB n0 β σ sf nw b → StB n0 β σ2 S' nw b) ∧ Wired σ σ2 S' (L + (DecCs E N cv j L rs).2.length) os2 NH2 := by
      refine ⟨fun n => match os2[n - (L + (DecCs E N cv j L rs).2.length)]? with | some (some i) => σ i | _ => none, hpSt NH2, fun nw b hb => ⟨fun hm => ?_, hb.2⟩, wired_of (fun i o p h1 h2 => ⟨?_, ?_⟩)⟩
      · rcases hm with ⟨k, e, h1, _⟩ | ⟨k, h, cap, h1, h2, h3⟩
        · cases h1
        · obtain ⟨i, o, e1, e2, e3, e4⟩ := b2.find (b2.row.get h1)
          have : k - (L + (DecCs E N cv j L rs).2.length) = i := by omega
          simp only [this, e2] at h3
          cases o with
          | none => cases h3
          | some x =>
            obtain ⟨h0, q1, q2, q3, q4, q5⟩ := e3
            have hx : some x ∈ os := by rw [← hos]; exact List.mem_append_right _ (List.mem_of_getElem? e2)
            have hxf : x ∉ fr.map (·.1) := fun hm => by
              obtain ⟨y, hy, e⟩ := List.mem_map.1 hm
              exact enc.ap y hy (e ▸ hx)
            exact hb.1 (.inr ⟨x, h0, cap, by rw [sfH x hxf]; exact q1, q4, h3⟩)
      · have : L + (DecCs E N cv j L rs).2.length + i - (L + (DecCs E N cv j L rs).2.length) = i := by omega
        simp only [this, h1]
        cases o <;> rfl
      · have := b2.row.idx h2
        have hm := List.mem_of_getElem? h2
        have := b2.row.has (n := p.1) (h := p.2) hm
        rw [b2.row.idx h2] at this
        exact this
    obtain ⟨σ3, S3, hst3, hw3⟩ := hw0
    have hf2 : Frz sf fr2 := by rw [← hfr] at frz; exact frz.right
    obtain ⟨_, c2⟩ := b6 sf subf hf2 σ3 S3 hst3 hw3
    rcases c2 n e hn with h | ⟨h3, ⟨cs, h4⟩, h5, h6, h7⟩
    · obtain ⟨q1, ⟨e', q2, q3⟩, q4⟩ := hbB n e h
      exact ⟨q1, ⟨e', q2⟩, fun k hk => by have := q4 k hk; omega, fun _ => h⟩
    · refine ⟨hsl n cs h4, h5, fun k hk => ?_, fun hd => by rw [h3] at hd; cases hd⟩
      have := h7 k hk
      rw [← b4] at this; exact this
  have inMf : ∀ b, InM β σ2 S b → InM β σ sf b := fun b hb => by
    rcases hb with ⟨n, e, h1, h2⟩ | ⟨n, h, cap, h1, h2, h3⟩
    · obtain ⟨_, ⟨e0, h4⟩, _⟩ := sB n e h1
      exact .inl ⟨n, e0, by rw [sfB]; exact h4, h2⟩
    · rcases Nat.lt_or_ge n L with hn | hn
      · have hb := small n h hn h1
        obtain ⟨_, h', q1, q2, q3, q4, q5⟩ := hbH n h hb
        have hnf : n ∉ fr.map (·.1) := fun hm => by
          obtain ⟨y, hy, e⟩ := List.mem_map.1 hm
          obtain ⟨h0, r1, r2⟩ := enc.fz y hy
          rw [e, q1] at r1; cases r1
          rcases r2 with r2 | r2
          · rw [q5, h2] at r2; cases r2
          · exact r2.2.2 (by rw [e]; exact List.mem_map.2 ⟨(n, h), alGet_mem hb, rfl⟩)
        have : σ2 n = σ n := by simp only [σ2, hn, if_true]
        exact .inr ⟨n, h', cap, by rw [sfH n hnf]; exact q1, by rw [q5]; exact h2, by rw [← this]; exact h3⟩
      · obtain ⟨i, o, e1, e2, e3, e4, e5⟩ := find n h (big n h hn h1)
        rw [e5] at h3
        cases o with
        | none => cases h3
        | some x =>
          obtain ⟨h0, q1, q2, q3, q4, q5⟩ := e3
          have hx : some x ∈ os := List.mem_of_getElem? e2
          have hxf : x ∉ fr.map (·.1) := fun hm => by
            obtain ⟨y, hy, e⟩ := List.mem_map.1 hm
            exact enc.ap y hy (e ▸ hx)
          exact .inr ⟨x, h0, cap, by rw [sfH x hxf]; exact q1, q4, h3⟩
  have stf : ∀ nw b, StB n0 β σ sf nw b → StB n0 β σ2 S nw b := fun nw b hb => ⟨fun hm => hb.1 (inMf b hm), hb.2⟩
  have wired : Wired σ σ2 S L os NH := wired_of (fun i o p h1 h2 => by
    have hidx := row.idx h2
    have hm := List.mem_of_getElem? h2
    refine ⟨?_, ?_⟩
    · have h3 : ¬ L + i < L := by omega
      have h4 : L + i - L = i := by omega
      simp only [σ2, h3, if_false, h4, h1]
      cases o <;> rfl
    · rw [gH]
      have := row.has (n := p.1) (h := p.2) hm
      rw [hidx] at this
      rw [this])
  have hw1 : Wired σ σ2 S L os1 (DecCs E N cv j L rs).2 := by rw [← hos, ← hNH] at wired; exact wired.left a2.len
  have hw2 : Wired σ σ2 S (L + (DecCs E N cv j L rs).2.length) os2 NH2 := by rw [← hos, ← hNH] at wired; exact wired.right a2.len
  have hf1 : Frz sf fr1 := by rw [← hfr] at frz; exact frz.left
  have hf2 : Frz sf fr2 := by rw [← hfr] at frz; exact frz.right
  obtain ⟨c1, c2⟩ := b6 sf subf hf2 σ2 S stf hw2
  have x : Ext P (fun n => L ≤ n) β σ s w β σ2 S w := by
    refine ⟨rfl, rfl, rfl, Nat.le_refl _, fun _ _ _ => rfl, fun b hb => .inl (subf.inM (inMf b hb)), fun b e he _ => ⟨(sB b e he).2.1, rfl⟩, fun n h hh hn => ?_⟩
    have hn : n < L := Nat.lt_of_not_le hn
    obtain ⟨_, h', q1, q2, q3, q4, q5⟩ := hbH n h (small n h hn hh)
    exact ⟨h', q1, by simp only [σ2, hn, if_true], q2.symm, by rw [q3]⟩
  have stS : ∀ nw b, StB n0 β σ s nw b → StB n0 β σ2 S nw b := fun nw b hb => ⟨fun hm => hb.1 (subf.inM (inMf b hm)), hb.2⟩
  have mem : Mem P n0 β σ2 S w := by
    refine ⟨fun n e he => ?_, fun n h hh => ?_, fun b b' e e' blk h h' hb hb' => ?_, fun n n' h h' blk cap cap' hh hh' h1 h2 => ?_, fun b e n h blk cap he hh h1 h2 => ?_⟩
    · rcases c2 n e he with h | ⟨_, _, _, h6, _⟩
      · obtain ⟨q1, ⟨e', q2, q3⟩, q4⟩ := hbB n e h
        obtain ⟨blk, cells, el, r1, r2, r3⟩ := hs.M.B n e' q2
        rw [q3] at r3
        exact ⟨blk, cells, el, r1, r2, x.relCs (fun k hk hL => by have := q4 k hk; omega) r3⟩
      · exact h6
    · rcases Nat.lt_or_ge n L with hn | hn
      · obtain ⟨_, h', q1, q2, q3, q4, q5⟩ := hbH n h (small n h hn hh)
        exact (hs.M.H n h' q1).view q2.symm q3.symm (by simp only [σ2, hn, if_true]) (fun _ _ _ ho => by rw [← q4]; exact ho) (fun b hb => by rw [← q4]; exact stS _ b hb)
      · obtain ⟨i, o, e1, e2, e3, e4, e5⟩ := find n h (big n h hn hh)
        cases o with
        | none =>
          obtain ⟨r1, t, ts, r2, r3⟩ := e3
          exact ⟨t, ts, r2, r3, fun y hy => (by rw [r1] at hy; simp at hy), .inl ⟨e5, r1⟩⟩
        | some y =>
          obtain ⟨h0, q1, q2, q3, q4, q5⟩ := e3
          exact (hs.M.H y h0 q1).view q2 q3 e5 (fun _ _ _ ho => ho.mono q5) (fun b hb => ⟨(stS _ b hb).1, hb.2.mono q5⟩)
    · obtain ⟨_, ⟨e0, r1⟩, _⟩ := sB b e h
      obtain ⟨_, ⟨e1, r2⟩, _⟩ := sB b' e' h'
      exact hs.M.uB b b' e0 e1 blk r1 r2 hb hb'
    · -- where it comes from
      have src : ∀ n h cap, S.getH n = some h → σ2 n = some (blk, cap) → ∃ y h0, s.getH y = some h0 ∧ σ y = some (blk, cap) ∧ ((n < L ∧ y = n ∧ n ∈ base.hp.map (·.1)) ∨ (L ≤ n ∧ os[n - L]? = some (some y))) := fun n h cap hh h1 => by
        rcases Nat.lt_or_ge n L with hn | hn
        · have hb := small n h hn hh
          obtain ⟨_, h', q1, _⟩ := hbH n h hb
          simp only [σ2, hn, if_true] at h1
          exact ⟨n, h', q1, h1, .inl ⟨hn, rfl, List.mem_map.2 ⟨(n, h), alGet_mem hb, rfl⟩⟩⟩
        · obtain ⟨i, o, e1, e2, e3, e4, e5⟩ := find n h (big n h hn hh)
          rw [e5] at h1
          cases o with
          | none => cases h1
          | some y =>
            obtain ⟨h0, q1, _⟩ := e3
            have : n - L = i := by omega
            exact ⟨y, h0, q1, h1, .inr ⟨hn, by rw [this]; exact e2⟩⟩
      obtain ⟨y, h0, r1, r2, r3⟩ := src n h cap hh h1
      obtain ⟨y', h0', r1', r2', r3'⟩ := src n' h' cap' hh' h2
      have hy := hs.M.uH y y' h0 h0' blk cap cap' r1 r1' r2 r2'
      subst hy
      rcases r3 with ⟨g1, g2, g3⟩ | ⟨g1, g2⟩ <;> rcases r3' with ⟨k1, k2, k3⟩ | ⟨k1, k2⟩
      · omega
      · exact ((enc.src y (List.mem_of_getElem? k2)).2.2.1 (g2 ▸ g3)).elim
      · exact ((enc.src y (List.mem_of_getElem? g2)).2.2.1 (k2 ▸ k3)).elim
      · have := nodup_idx enc.nd g2 k2
        omega
    · obtain ⟨_, ⟨e0, r1⟩, _⟩ := sB b e he
      rcases Nat.lt_or_ge n L with hn | hn
      · obtain ⟨_, h', q1, _⟩ := hbH n h (small n h hn hh)
        simp only [σ2, hn, if_true] at h2
        exact hs.M.uX b e0 n h' blk cap r1 q1 h1 h2
      · obtain ⟨i, o, e1, e2, e3, e4, e5⟩ := find n h (big n h hn hh)
        rw [e5] at h2
        cases o with
        | none => cases h2
        | some y =>
          obtain ⟨h0, q1, _⟩ := e3
          exact hs.M.uX b e0 y h0 blk cap r1 q1 h1 h2
  have hLst : L ≤ S.st := by rw [hst]; omega
  refine ⟨σ2, S, rfl, a5 sf subf hf1 σ2 S stf hw1, fun n hn => ?_, ⟨hs.n0le, hs.size, fun n tv hn => ?_, mem⟩, x, ⟨fun n hn => ⟨⟨fun k e he => ?_, fun k h hh => ?_⟩, fun k tv hk => ?_⟩, fun n tv hn => ?_⟩, hLst, fun n e he hd => (sB n e he).2.2.2 hd, fun n h hh hd => ?_, fun n e he => ?_, fun n h hn hh => small n h hn hh⟩
  · have := a4 n hn
    rw [hst, ← hNH, List.length_append]; omega
  · rcases c1 n tv hn with h | ⟨h3, h4, _⟩
    · obtain ⟨q1, q2, q3⟩ := hbT n tv h
      exact .inl ⟨fun n b hm => by rw [q1] at hm; simp at hm, x.relAV (fun k hk hL => by have := q3 k hk; omega) q2⟩
    · exact .inl ⟨fun n b hm => by rw [h3] at hm; simp at hm, h4⟩
  · obtain ⟨r1, _, r3, _⟩ := sB k e he
    exact ⟨by omega, fun hm => by have := r3 n hm; omega⟩
  · rcases Nat.lt_or_ge k L with hk | hk
    · omega
    · have := row.mem _ (big k h hk hh)
      simp at this; omega
  · rcases c1 k tv hk with h | ⟨_, _, h5⟩
    · obtain ⟨_, _, q3⟩ := hbT k tv h
      intro hm; have := q3 n hm; omega
    · intro hm; have := h5 n hm; rw [← b4] at this; omega
  · rcases c1 n tv hn with h | ⟨h3, _⟩
    · exact (hbT n tv h).1
    · exact h3
  · rcases Nat.lt_or_ge n L with hn | hn
    · exact small n h hn hh
    · have hm := big n h hn hh
      have : h.dirty = true := by
        rw [← hNH] at hm
        exact (List.mem_append.1 hm).elim (a3 (n, h)) (b3 (n, h))
      rw [this] at hd; cases hd
  · rcases c2 n e he with h | ⟨_, h4, _⟩
    · exact .inl h
    · exact .inr h4

end
end Go.Px
