/-
Px: append.
-/
import Derived.Test.YtopmcbahdgfleaaGreatPxMem2
namespace Go.Px
set_option linter.unusedVariables false
set_option linter.unusedSimpArgs false

section
variable {E : Env} {N : Nat} {P : Program} {n0 : Nz} {nt : Nat} {β : Nat → Option Nat} {σ : Nat → Option (Nat × Nat)} {s s' : St0 E N} {a : Act} {w w' : World}

/-- An owned slice in no block. -/
theorem take_none (m : Mem P n0 β σ s w) {id : Nat} (hf : Fresh a s id) {pre : List (Nat × Option (HEnt (std E N)))} (hpre : PreOK s pre) {h : HEnt (std E N)} {wr : Wr (std E N)}
    (ht0 : wr.ts = []) (hb : wr.bs = []) (hh : wr.hs = pre ++ [(id, some h)]) (hd : h.dirty = true) (hl : h.l = []) {t : TypeId} {ts : List TypeId}
    (ht : lkOf P t = .sl h.e) (hts : tysOf P h.e = some ts) :
    Mem P n0 β (upd σ id none) (s.apply wr) w ∧ Ext P (· = id) β σ s w β (upd σ id none) (s.apply wr) w ∧ Tidy a (· = id) s (s.apply wr) ∧ (s.apply wr).getH id = some h := by
  have gB := fun n => State.getB_apply0 s wr hb n
  have gs : ∀ n, (s.apply wr).getH n = if n = id then some h else (s.apply { hs := pre }).getH n := fun n => by
    unfold State.apply State.getH
    simp only [hh, applyA_append, applyA]
    exact alGet_alSet _ _ _ _
  have fget : ∀ n h', n ≠ id → (s.apply wr).getH n = some h' → ∃ h0, s.getH n = some h0 ∧ (h' = h0 ∨ h' = { h0 with frozen := true, dirty := true }) := fun n h' hn he => by
    rw [gs, if_neg hn] at he
    exact hpre.get rfl n h' he
  have hget : (s.apply wr).getH id = some h := by rw [gs, if_pos rfl]
  have x : Ext P (· = id) β σ s w β (upd σ id none) (s.apply wr) w := by
    refine ⟨rfl, rfl, rfl, Nat.le_refl _, fun b hb _ => rfl, fun b hb => ?_, fun b e he hn => ?_, fun n e he hn => ?_⟩
    · rcases hb with ⟨n, e, he, hb⟩ | ⟨n, e, cap', he, hfz, hb⟩
      · rw [gB] at he; exact .inl (.inl ⟨n, e, he, hb⟩)
      · by_cases hid : n = id
        · rw [hid, upd_same] at hb; cases hb
        · obtain ⟨h0, hh0, h1⟩ := fget n e hid he
          rw [upd_other _ _ hid] at hb
          rcases h1 with rfl | rfl
          · exact .inl (.inr ⟨n, e, cap', hh0, hfz, hb⟩)
          · cases hfz
    · rw [gB] at he; exact ⟨⟨e, he⟩, rfl⟩
    · obtain ⟨h0, hh0, h1⟩ := fget n e hn he
      refine ⟨h0, hh0, upd_other _ _ hn, ?_⟩
      rcases h1 with rfl | rfl <;> exact ⟨rfl, rfl⟩
  refine ⟨put_own (id := id) m x (fun n e he => ?_) (fun n e blk he hb => rfl) (fun n h' hn he => ?_) (fun n h' blk cap' hn he hs => rfl) (fun h' he => ?_) (fun blk cap' hs => ?_), x, ⟨fun n hfn hn => ?_, fun n e he hd' => ?_, fun n e he hd' => ?_⟩, hget⟩
  · rw [gB] at he; exact ⟨e, he, rfl, fun k hk h => (hf.b n e he).2 (h ▸ hk)⟩
  · obtain ⟨h0, hh0, h1⟩ := fget n h' hn he
    refine ⟨h0, hh0, ?_⟩
    rcases h1 with rfl | rfl
    · exact ⟨rfl, rfl, rfl, fun h => h, upd_other _ _ hn⟩
    · exact ⟨rfl, rfl, rfl, (fun h => by cases h), upd_other _ _ hn⟩
  · rw [hget] at he; cases he
    exact ⟨t, ts, ht, hts, by rw [hl]; simp, .inl ⟨upd_same _ _ _, hl⟩⟩
  · rw [upd_same] at hs; cases hs
  · refine ⟨fun k tv hk => ?_, fun k e he => ?_, fun k e he => ?_⟩
    · rw [State.getT_apply0 s wr ht0] at hk; exact hfn.t k tv hk
    · rw [gB] at he; exact hfn.b k e he
    · by_cases hk : k = id
      · exact fun h => hn (h.trans hk)
      · obtain ⟨h0, hh0, _⟩ := fget k e hk he
        exact hfn.h k h0 hh0
  · rw [gB] at he; exact he
  · by_cases hk : n = id
    · rw [hk, hget] at he; cases he; rw [hd] at hd'; cases hd'
    · obtain ⟨h0, hh0, h1⟩ := fget n e hk he
      rcases h1 with rfl | rfl
      · exact hh0
      · cases hd'

/-- An owned slice takes over the block of another, which is gone; its block may turn. -/
theorem take_own (m : Mem P n0 β σ s w) {id : Nat} (hf : Fresh a s id) {i blk cap : Nat} {h0 : HEnt (std E N)} (hi : s.getH i = some h0) (hfz0 : h0.frozen = false) (hsi : σ i = some (blk, cap))
    {h : HEnt (std E N)} {wr : Wr (std E N)} (ht0 : wr.ts = []) (hb : wr.bs = []) (hh : wr.hs = [(i, none), (id, some h)]) (hd : h.dirty = true) (hz : h.frozen = false)
    (ho : w'.os = w.os) (htp : w'.tape = w.tape) (hout : w'.output = w.output) (hsize : w'.heap.size = w.heap.size) (hother : ∀ b, b ≠ blk → w'.heap[b]? = w.heap[b]?)
    {cells : Array Value} (hheap : w'.heap[blk]? = some (.cells cells h.e (0, 0))) {t : TypeId} {ts : List TypeId}
    (ht : lkOf P t = .sl h.e) (hts : tysOf P h.e = some ts) (hrl : ∀ r ∈ h.l, r.length = ts.length) (hsz : cells.size = cap * ts.length) (hcap : h.l.length ≤ cap) (hnw : Old n0 h.nw blk)
    (v : Nat → Nat → Value) (hv : ∀ i j, i < h.l.length → j < ts.length → cells[i * ts.length + j]? = some (v i j))
    (hrep : ∀ i j t', i < h.l.length → ts[j]? = some t' → Rep P w (StB n0 β σ s h.nw) t' (v i j) (pvAt h.l i j)) :
    Mem P n0 β (upd σ id (some (blk, cap))) (s.apply wr) w' ∧ Ext P (· = id) β σ s w β (upd σ id (some (blk, cap))) (s.apply wr) w' ∧ Tidy a (· = id) s (s.apply wr) ∧
      (s.apply wr).getH id = some h := by
  have gB := fun n => State.getB_apply0 s wr hb n
  have hii : i ≠ id := fun e => hf.h i h0 hi e.symm
  have gs : ∀ n, (s.apply wr).getH n = if n = id then some h else if n = i then none else s.getH n := fun n => by
    unfold State.apply State.getH
    simp only [hh, applyA]
    rw [alGet_alSet, alGet_alSet]
  have fget : ∀ n h', n ≠ id → (s.apply wr).getH n = some h' → n ≠ i ∧ s.getH n = some h' := fun n h' hn he => by
    rw [gs, if_neg hn] at he
    by_cases hni : n = i
    · rw [if_pos hni] at he; cases he
    · rw [if_neg hni] at he; exact ⟨hni, he⟩
  have hget : (s.apply wr).getH id = some h := by rw [gs, if_pos rfl]
  have hin : InM β σ s blk := .inr ⟨i, h0, cap, hi, hfz0, hsi⟩
  have x : Ext P (· = id) β σ s w β (upd σ id (some (blk, cap))) (s.apply wr) w' := by
    refine ⟨ho, htp, hout, by omega, fun b hb hm => hother b (fun e => hm (e ▸ hin)), fun b hb => .inl ?_, fun b e he hn => ?_, fun n e he hn => ?_⟩
    · rcases hb with ⟨n, e, he, hb⟩ | ⟨n, e, cap', he, hfz, hb⟩
      · rw [gB] at he; exact .inl ⟨n, e, he, hb⟩
      · by_cases hid : n = id
        · rw [hid, upd_same] at hb; cases hb; exact hin
        · obtain ⟨_, hh0⟩ := fget n e hid he
          rw [upd_other _ _ hid] at hb
          exact .inr ⟨n, e, cap', hh0, hfz, hb⟩
    · rw [gB] at he; exact ⟨⟨e, he⟩, rfl⟩
    · obtain ⟨_, hh0⟩ := fget n e hn he
      exact ⟨e, hh0, upd_other _ _ hn, rfl, rfl⟩
  refine ⟨put_own (id := id) m x (fun n e he => ?_) (fun n e blk' he hb => ?_) (fun n h' hn he => ?_) (fun n h' blk' cap' hn he hs => ?_) (fun h' he => ?_) (fun blk' cap' hs => ?_), x, ⟨fun n hfn hn => ?_, fun n e he hd' => ?_, fun n e he hd' => ?_⟩, hget⟩
  · rw [gB] at he; exact ⟨e, he, rfl, fun k hk h => (hf.b n e he).2 (h ▸ hk)⟩
  · rw [gB] at he; exact hother blk' (fun e2 => m.uX n e i h0 blk cap he hi (e2 ▸ hb) hsi)
  · obtain ⟨_, hh0⟩ := fget n h' hn he
    exact ⟨h', hh0, rfl, rfl, rfl, fun h => h, upd_other _ _ hn⟩
  · obtain ⟨hni, hh0⟩ := fget n h' hn he
    exact hother blk' (fun e2 => hni (m.uH n i h' h0 blk cap' cap hh0 hi (e2 ▸ hs) hsi))
  · rw [hget] at he; cases he
    exact ⟨t, ts, ht, hts, hrl, .inr ⟨blk, cap, cells, h.e, upd_same _ _ _, hheap, rfl, hsz, hcap, hnw, v, hv, fun i j t' hi hj => x.rep (hrep i j t' hi hj)⟩⟩
  · rw [upd_same] at hs; cases hs
    refine ⟨fun n e he hb => ?_, fun n h' cap'' hn he hs => ?_⟩
    · rw [gB] at he; exact m.uX n e i h0 blk cap he hi hb hsi
    · obtain ⟨hni, hh0⟩ := fget n h' hn he
      exact hni (m.uH n i h' h0 blk cap'' cap hh0 hi hs hsi)
  · refine ⟨fun k tv hk => ?_, fun k e he => ?_, fun k e he => ?_⟩
    · rw [State.getT_apply0 s wr ht0] at hk; exact hfn.t k tv hk
    · rw [gB] at he; exact hfn.b k e he
    · by_cases hk : k = id
      · exact fun h => hn (h.trans hk)
      · obtain ⟨_, hh0⟩ := fget k e hk he
        exact hfn.h k e hh0
  · rw [gB] at he; exact he
  · by_cases hk : n = id
    · rw [hk, hget] at he; cases he; rw [hd] at hd'; cases hd'
    · exact (fget n e hk he).2

theorem append_made (hs : Sim P n0 nt β σ s a w) {ctx : List (Nat × Bool)} (hf : Facts a ctx) {id : Nat} (hid : Fresh a s id) {o : Oper} {c : Call}
    (hop : o.op = .call c) (hb : c.callee = .builtin .append) {as : List Bool} {r : AC0 E N} {wr : Wr (std E N)} {m m' : Nat} (h : RM.run s (opMem P ctx id (.call c)) m = .ok ((as, r, wr), m')) (has : ∀ b ∈ as, b = true) :
    MadeOK P n0 β σ s a w o id r wr := by
  obtain ⟨callee, args, argTypes⟩ := c
  simp only at hb
  subst hb
  simp only [opMem] at h
  split at h
  case h_2 => exact (RM.fail_ok h).elim
  rename_i x y T U hcal ha hT
  split at h
  case h_2 => exact (RM.fail_ok h).elim
  rename_i e e' heT heU
  obtain ⟨_, m1, h1, h2⟩ := RM.bind_ok h
  obtain ⟨ca, m2, h3, h4⟩ := RM.bind_ok h2
  obtain ⟨cb, m3, h5, h6⟩ := RM.bind_ok h4
  obtain ⟨⟨eb, lb, nb'⟩, m4, h7, h8⟩ := RM.bind_ok h6
  have hTU := natBeq_iff.1 (RM.guard_ok h1)
  subst hTU
  have ha' : args = #[x, y] := by apply Array.ext'; simpa using ha
  have hT' : argTypes = #[T, T] := by apply Array.ext'; simpa using hT
  subst ha'; subst hT'
  have hu := elemT_sl heT
  obtain ⟨hca, _, _⟩ := evC_ok hs hf h3
  obtain ⟨hcb, _, _⟩ := evC_ok hs hf h5
  simp only at h8
  split at h8
  case h_2 => exact (RM.fail_ok h8).elim
  rename_i ti ts z hi hts0 hz0
  obtain ⟨_, m5, h9, h10⟩ := RM.bind_ok h8
  have hg9 := RM.guard_ok h9
  simp only [Bool.and_eq_true] at hg9
  have heb := natBeq_iff.1 hg9.1
  have hzl0 := natBeq_iff.1 hg9.2
  subst heb
  obtain ⟨av, capb, ts1, u, hvb, hcb2, hts, hrlb, hmb, hrb⟩ := rowsOf_ok hs.M hcb h7
  have hnn : ts = ts1 := by rw [hts] at hts0; exact (Option.some.inj hts0).symm
  clear hts0
  subst hnn
  obtain ⟨hsz, hpos⟩ := tysOf_size hts
  obtain ⟨ti', zv, hi', hiz, hzv, hrz, hnz, hoz⟩ := zeroV_spec (n0 := n0) (β := β) (σ := σ) (s := s) (w := w) hz0
  rw [hi] at hi'; cases hi'
  have htz : ti.size = ts.length := by rw [← hsz]; simp [Program.cellsOf, hi]
  have hex : (execOp a.eval o) = (do pure (.value (← Builtin.append_ #[T, T] o.type #[a.eval x, a.eval y]))) := by
    simp [execOp, hop, resolve, invoke, builtin]
  -- content of the result is new where the executor says so
  have hflat : ∀ nb : Bool, (nb = true → (nb' || flatT P e) = true) → nb = true → nb' = true ∨ ∀ t' ∈ ts, ∀ e, lkOf P t' ≠ .sl e := fun nb hn hb => by
    have := hn hb
    simp only [Bool.or_eq_true] at this
    rcases this with h | h
    · exact .inl h
    · right
      unfold flatT at h
      rw [hts] at h
      exact countSl_zero (natBeq_iff.1 h)
  -- the old part: a header with `n` rows, of which `v0` are the cells
  have main : ∀ (pre : List (Nat × Option (HEnt (std E N)))) (nwa : Bool) (la : Rows) (base : Option Addr) (cap : Nat) (v0 : Nat → Nat → Value),
      a.eval x = .slice base la.length cap → la.length ≤ cap → PreOK s pre → (∀ r ∈ la, r.length = ts.length) →
      (∀ i j t', i < la.length → ts[j]? = some t' → Rep P w (StB n0 β σ s nwa) t' (v0 i j) (pvAt la i j)) →
      -- either there is no room and no old cell, or the block is known
      ((la = [] ∧ cap = 0) ∨ ∃ blk cells i h, base = some ⟨blk, 0, none⟩ ∧ w.heap[blk]? = some (.cells cells e (0, 0)) ∧ cells.size = cap * ts.length ∧
        (∀ i j, i < la.length → j < ts.length → cells[i * ts.length + j]? = some (v0 i j)) ∧ s.getH i = some h ∧ h.frozen = false ∧ σ i = some (blk, cap) ∧ pre = [(i, none)] ∧ Old n0 nwa blk) →
      ((la ++ lb).length : Int) ≤ 17592186044416 → ((la ++ lb).length : Int) * ti.bytes ≤ 17592186044416 →
      ∀ nw, (nw = true → nwa = true ∧ (nb' || flatT P e) = true) →
      MadeOK P n0 β σ s a w o id (.own e id) { hs := pre ++ [(id, some { e, frozen := false, nw, l := la ++ lb, dirty := true })] } := by
    intro pre nwa la base cap v0 hva hcap hpre hrla hra hmem hlen hby nw hnw
    have hbytes : (la.length + lb.length) * ti.bytes ≤ 140737488355328 := by
      have : ((la.length + lb.length : Nat) : Int) * (ti.bytes : Int) ≤ 17592186044416 := by rw [List.length_append] at hby; exact hby
      have h3 : (((la.length + lb.length) * ti.bytes : Nat) : Int) ≤ 17592186044416 := by rw [Int.natCast_mul]; exact this
      omega
    have hrl : ∀ r ∈ la ++ lb, r.length = ts.length := fun r hr => (List.mem_append.1 hr).elim (hrla r) (hrlb r)
    have hpvl : ∀ i j, i < la.length → pvAt (la ++ lb) i j = pvAt la i j := fun i j hi => by simp [pvAt, rowAt, List.getD, List.getElem?_append_left hi]
    have hpvr : ∀ i j, la.length ≤ i → pvAt (la ++ lb) i j = pvAt lb (i - la.length) j := fun i j hi => by simp [pvAt, rowAt, List.getD, List.getElem?_append_right hi]
    have hrb' := hrb nw (hflat nw (fun h => (hnw h).2))
    have hra' : ∀ i j t', i < la.length → ts[j]? = some t' → Rep P w (StB n0 β σ s nw) t' (v0 i j) (pvAt la i j) := fun i j t' hi hj =>
      (hra i j t' hi hj).st (fun b hb => ⟨hb.1, hb.2.mono (fun h => (hnw h).1)⟩)
    let v : Nat → Nat → Value := fun i j => if i < la.length then v0 i j else u (i - la.length) j
    have hrep : ∀ i j t', i < (la ++ lb).length → ts[j]? = some t' → Rep P w (StB n0 β σ s nw) t' (v i j) (pvAt (la ++ lb) i j) := fun i j t' hi hj => by
      by_cases h : i < la.length
      · simp only [v, h, if_true]; rw [hpvl i j h]; exact hra' i j t' h hj
      · simp only [v, h, if_false]; rw [hpvr i j (by omega)]
        exact hrb' (i - la.length) j t' (by rw [List.length_append] at hi; omega) hj
    have hsub := hpre.sub (wr := { hs := pre }) rfl rfl
    let hnew : HEnt (std E N) := { e, frozen := false, nw, l := la ++ lb, dirty := true }
    by_cases hm0 : lb.length = 0
    · -- nothing is added
      have hlb : lb = [] := List.length_eq_zero_iff.1 hm0
      have hrun : (Builtin.append_ #[T, T] o.type #[a.eval x, a.eval y]).run P w = .ok (.slice base la.length cap) w := by
        rw [hva, hvb, hm0]; exact run_append_none hu hi hcap
      -- the block stays where it is, under a new name
      rcases hmem with ⟨hl0, hc0⟩ | ⟨blk, cells, i, h, hbase, hheap, hcs, hcells, hgi, hfz, hsi, hpr, hnb0⟩
      · obtain ⟨q1, q2, q3, q4⟩ := take_none hs.M hid hpre (h := hnew) (wr := { hs := pre ++ [(id, some hnew)] }) rfl rfl rfl rfl (by simp [hnew, hl0, hlb]) (lkOf_sl.2 hu) hts
        refine ⟨_, β, _, _, exec_m hex hrun, q1, q2, q3, ?_, fun k _ hn => by simpa [AC.names] using hn, rfl⟩
        exact ⟨⟨_, _, _, rfl⟩, fun h2 hh2 => by
          rw [q4] at hh2; cases hh2
          exact ⟨rfl, .inr ⟨upd_same _ _ _, by simp [hnew, hl0, hlb], base, by rw [hl0, hc0]; rfl⟩⟩⟩
      · subst hpr
        obtain ⟨q1, q2, q3, q4⟩ := take_own hs.M hid hgi hfz hsi (h := hnew) (wr := { hs := [(i, none)] ++ [(id, some hnew)] }) rfl rfl rfl rfl rfl rfl rfl rfl rfl (fun _ _ => rfl) hheap (lkOf_sl.2 hu) hts hrl hcs
          (by simp [hnew, hlb]; exact hcap) (hnb0.mono (fun h => (hnw h).1)) v0 (fun i j hi hj => hcells i j (by simpa [hnew, hlb] using hi) hj) (fun i j t' hi hj => by
            have hi' : i < la.length := by simpa [hnew, hlb] using hi
            rw [show hnew.l = la ++ lb from rfl, hpvl i j hi']
            exact hra' i j t' hi' hj)
        refine ⟨_, β, _, _, exec_m hex hrun, q1, q2, q3, ?_, fun k _ hn => by simpa [AC.names] using hn, rfl⟩
        rw [hbase]
        exact own_header q4 (upd_same _ _ _) (by simp [hnew, hlb])
    · obtain ⟨b, off, hav, hcell⟩ : ∃ b off, av = some ⟨b, off, none⟩ ∧ ∀ i j, i < lb.length → j < ts.length → w.cell? ⟨b, off + (i * ts.length + j), none⟩ = some (u i j) := by
        rcases hmb with h | h
        · rw [h] at hm0; simp at hm0
        · exact h
      subst hav
      by_cases hroom : la.length + lb.length ≤ cap
      · rcases hmem with ⟨hl0, hc0⟩ | ⟨blk, cells, i, h, hbase, hheap, hcs, hcells, hgi, hfz, hsi, hpr, hnb0⟩
        · omega
        · subst hpr; subst hbase
          have hle : la.length * ts.length + lb.length * ts.length ≤ cells.size := by
            rw [hcs, ← Nat.add_mul]; exact Nat.mul_le_mul_right _ hroom
          have hone : ∀ v ∈ flat lb.length ts.length u, v.oneCell' = true := flat_one hpos (fun i j hi hj => by
            obtain ⟨t', ht'⟩ : ∃ t', ts[j]? = some t' := ⟨ts[j], List.getElem?_eq_getElem hj⟩
            exact (hrb false (fun h => by cases h) i j t' hi ht').one)
          have hrun := run_append_room (P := P) (w := w) T o.type e ti hu hi blk la.length cap cells hheap ⟨b, off, none⟩ lb.length capb (flat lb.length ts.length u) (by rw [flat_length, htz]) (flat_cells hpos hcell) hone hroom
            (by rw [flat_length, htz]; exact hle)
          rw [htz, flat_length] at hrun
          have hlt : (cells.toList.take (la.length * ts.length)).length = la.length * ts.length := by
            have hq : la.length * ts.length ≤ cells.size := Nat.le_trans (Nat.le_add_right _ _) hle
            rw [List.length_take]; exact Nat.min_eq_left (by rw [Array.length_toList]; exact hq)
          obtain ⟨q1, q2, q3, q4⟩ := take_own hs.M hid hgi hfz hsi (h := hnew) (wr := { hs := [(i, none)] ++ [(id, some hnew)] }) rfl rfl rfl rfl rfl
            (w' := w.setRow blk (cells.toList.take (la.length * ts.length) ++ flat lb.length ts.length u ++ cells.toList.drop (la.length * ts.length + lb.length * ts.length)).toArray)
            rfl rfl rfl (by simp) (fun b hb => setRow_other w blk b _ hb) (setRow_heap w blk cells _ _ _ hheap) (lkOf_sl.2 hu) hts hrl
            (by simp only [List.size_toArray, List.length_append, hlt, flat_length, List.length_drop, Array.length_toList]; omega)
            (by simp [hnew]; exact hroom) (hnb0.mono (fun h => (hnw h).1)) v (fun i j hi hj => by
              have hi' : i < la.length + lb.length := by simpa [hnew] using hi
              rw [List.getElem?_toArray, List.append_assoc]
              by_cases h : i < la.length
              · have h1 := mul_add_lt h hj
                rw [List.getElem?_append_left (by rw [hlt]; exact h1), List.getElem?_take, if_pos h1]
                simp only [v, h, if_true]
                rw [Array.getElem?_toList]; exact hcells i j h hj
              · have e1 : la.length * ts.length ≤ i * ts.length := Nat.mul_le_mul_right _ (by omega)
                have e2 : i * ts.length + j - la.length * ts.length = (i - la.length) * ts.length + j := by rw [Nat.sub_mul]; omega
                rw [List.getElem?_append_right (by rw [hlt]; omega), hlt, e2, List.getElem?_append_left (by rw [flat_length]; exact mul_add_lt (by omega) hj)]
                simp only [v, h, if_false]
                exact flat_get u (by omega) hj) hrep
          refine ⟨_, β, _, _, exec_m hex (by rw [hva, hvb]; exact hrun), q1, q2, q3, ?_, fun k _ hn => by simpa [AC.names] using hn, rfl⟩
          exact own_header q4 (upd_same _ _ _) (by simp [hnew])
      · -- a new array
        have hnb : base = none → la.length = 0 ∧ cap = 0 := fun hbn => by
          rcases hmem with ⟨h1, h2⟩ | ⟨blk, _, _, _, h1, _⟩
          · exact ⟨by rw [h1]; rfl, h2⟩
          · rw [hbn] at h1; cases h1
        have holds : ∀ b, base = some b → ∀ j v, (flat la.length ts.length v0)[j]? = some v → w.cell? (b.add j) = some v := fun b hb => by
          rcases hmem with ⟨h1, h2⟩ | ⟨blk, cells, i, h, h1, hheap, hcs, hcells, _⟩
          · intro j v hj
            rw [h1] at hj; simp [flat] at hj
          · rw [hb] at h1; cases h1
            exact flat_cells hpos (fun i j hi hj => by rw [cell_of_heap hheap, Nat.zero_add]; exact hcells i j hi hj)
        have hrun := run_append_new (P := P) (w := w) (ty := o.type) hu hi hiz (base := base) (n := la.length) (cap := cap) (m := lb.length) (c := capb) (b := b) (off := off)
          (olds := flat la.length ts.length v0) (news := flat lb.length ts.length u) (by rw [flat_length, htz]) holds hnb (by rw [flat_length, htz]) (flat_cells hpos hcell) (by omega) (by rw [List.length_append] at hlen; omega) hbytes
        have hge := grownCap_ge w (la.length + lb.length) cap e
        have hzl : zv.cells.size = ts.length := by
          have h1 := RelCs.length hrz.1
          simp at h1; omega
        have key := new_own hs.M hid hpre (h := hnew) (wr := { hs := pre ++ [(id, some hnew)] }) rfl rfl rfl rfl rfl (Grow.drew w)
          (cells := (flat la.length ts.length v0).toArray ++ (flat lb.length ts.length u).toArray ++ Builtin.zeroCells zv.cells (grownCap w (la.length + lb.length) cap e - (la.length + lb.length)))
          (cap := grownCap w (la.length + lb.length) cap e) (t := T) (ts := ts) (lkOf_sl.2 hu) hts hrl
          (by simp only [Array.size_append, List.size_toArray, flat_length, size_zeroCells, hzl, ← Nat.add_mul]; congr 1; omega)
          (by simp only [hnew, List.length_append]; exact hge) hs.n0le v
          (fun i j hi hj => by
            have hi' : i < la.length + lb.length := by simpa [hnew] using hi
            rw [Array.getElem?_append_left (by simp only [Array.size_append, List.size_toArray, flat_length, ← Nat.add_mul]; exact mul_add_lt hi' hj)]
            by_cases h : i < la.length
            · rw [Array.getElem?_append_left (by simp only [List.size_toArray, flat_length]; exact mul_add_lt h hj)]
              simp only [List.getElem?_toArray, v, h, if_true]
              exact flat_get v0 h hj
            · have e1 : la.length * ts.length ≤ i * ts.length := Nat.mul_le_mul_right _ (by omega)
              rw [Array.getElem?_append_right (by simp only [List.size_toArray, flat_length]; omega)]
              simp only [List.size_toArray, flat_length, List.getElem?_toArray, v, h, if_false]
              have e2 : i * ts.length + j - la.length * ts.length = (i - la.length) * ts.length + j := by rw [Nat.sub_mul]; omega
              rw [e2]
              exact flat_get u (by omega) hj)
          (fun i j t' hi hj => (hrep i j t' hi hj).st (fun b hb => ⟨fun hm => hb.1 (hsub.inM hm), hb.2⟩))
        obtain ⟨q1, q2, q3, q4⟩ := key
        refine ⟨_, β, _, _, exec_m hex (by rw [hva, hvb]; exact hrun), q1, q2, q3, own_header q4 (upd_same _ _ _) (by simp [hnew]), fun k _ hn => by simpa [AC.names] using hn, rfl⟩
  split at h10
  · rename_i ea
    obtain ⟨_, m6, h11, h12⟩ := RM.bind_ok h10
    have hea := natBeq_iff.1 (RM.guard_ok h11)
    subst hea
    have hr := RM.ret_ok h12
    simp only [Prod.mk.injEq] at hr
    obtain ⟨rfl, rfl, rfl⟩ := hr
    obtain ⟨t0, ts1, _, _, av0, hva⟩ := hca
    have hb := small_spec (n := (lb.length : Int)) (b := ti.bytes) (has _ List.mem_cons_self)
    have := main [] true [] av0 0 (fun _ _ => undef) hva (Nat.le_refl _) (fun n v hm => by simp at hm) (by simp) (fun i j t' hi => by simp at hi) (.inl ⟨rfl, rfl⟩) (by simpa using hb.2.1) (by simpa using hb.2.2.1) (nb' || flatT P e) (fun h => ⟨rfl, h⟩)
    simpa using this
  · rename_i ea i _
    obtain ⟨m6, h11⟩ := RM.h_ok h10
    cases hh : s.getH i with
    | none => rw [hh] at h11; exact (RM.fail_ok h11).elim
    | some hx =>
      rw [hh] at h11
      obtain ⟨_, m7, h12, h13⟩ := RM.bind_ok h11
      have hg := RM.guard_ok h12
      simp only [Bool.and_eq_true, Bool.not_eq_true'] at hg
      obtain ⟨⟨hfz, hea⟩, heh⟩ := hg
      have hea := natBeq_iff.1 hea
      have heh := natBeq_iff.1 heh
      have hr := RM.ret_ok h13
      simp only [Prod.mk.injEq] at hr
      obtain ⟨rfl, rfl, rfl⟩ := hr
      have hb := small_spec (n := ((hx.l ++ lb).length : Int)) (b := ti.bytes) (has _ List.mem_cons_self)
      obtain ⟨_, hk⟩ := hca
      obtain ⟨_, ho⟩ := hk hx hh
      obtain ⟨t1, ts1, ht1, hts1, hrl1, hm1⟩ := hs.M.H i hx hh
      rw [← heh, hts] at hts1; cases hts1
      have hpre : PreOK s [(i, (none : Option (HEnt (std E N))))] := fun n v hm => by
        simp only [List.mem_singleton, Prod.mk.injEq] at hm; exact .inl hm.2
      rcases ho with ⟨blk, cap, hsi, hva⟩ | ⟨hsi, hz, av0, hva⟩
      · rcases hm1 with ⟨hn, _⟩ | ⟨blk', cap', cells, el, hs', hheap, hel, hsz1, hcap1, hnw1, u1, hu1, hrep1⟩
        · rw [hn] at hsi; cases hsi
        · rw [hs'] at hsi; cases hsi
          subst hel
          exact main [(i, none)] hx.nw hx.l _ cap u1 hva hcap1 hpre hrl1 hrep1
            (.inr ⟨blk, cells, i, hx, rfl, by rw [heh]; exact hheap, hsz1, hu1, hh, hfz, hs', rfl, hnw1⟩) hb.2.1 hb.2.2.1 _ (fun h => by simpa using h)
      · have hl0 : hx.l = [] := List.length_eq_zero_iff.1 hz
        exact main [(i, none)] hx.nw hx.l av0 0 (fun _ _ => undef) (by rw [hva, hl0]; rfl) (by rw [hl0]; exact Nat.le_refl _) hpre hrl1 (fun i j t' hi => by rw [hl0] at hi; simp at hi)
          (.inl ⟨hl0, rfl⟩) hb.2.1 hb.2.2.1 _ (fun h => by simpa using h)
  · exact (RM.fail_ok h10).elim

end
end Go.Px
