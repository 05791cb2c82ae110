/-
Px: stores.
-/
import Derived.Test.YtopmcbahdgfleaaGreatPxMem4
namespace Go.Px
set_option linter.unusedVariables false
set_option linter.unusedSimpArgs false

section
variable {E : Env} {N : Nat} {P : Program} {n0 : Nz} {nt : Nat} {β : Nat → Option Nat} {σ : Nat → Option (Nat × Nat)} {s s' : St0 E N} {a : Act} {w w' : World}

theorem namesCs_replace {cs r cs' : List (AC0 E N)} {off n : Nat} (h : replaceAt cs off r = some cs') (hn : n ∈ namesCs cs') : n ∈ namesCs cs ∨ n ∈ namesCs r := by
  obtain ⟨rfl, _⟩ := replaceAt_eq h
  obtain ⟨c, hc, hm⟩ := namesCs_sub.1 hn
  rcases List.mem_append.1 hc with hc | hc
  · rcases List.mem_append.1 hc with hc | hc
    · exact .inl (namesCs_sub.2 ⟨c, List.mem_of_mem_take hc, hm⟩)
    · exact .inr (namesCs_sub.2 ⟨c, hc, hm⟩)
  · exact .inl (namesCs_sub.2 ⟨c, List.mem_of_mem_drop hc, hm⟩)

/-- A variable turns. -/
theorem put_box (m : Mem P n0 β σ s w) {b : Nat} {e : BEnt (std E N)} {blk : Nat} {cells : Array Value} {el : TypeId} (he : s.getB b = some e) (hb : β b = some blk) (hheap : w.heap[blk]? = some (.cells cells el (0, 0)))
    {cs' : List (AC0 E N)} {cells' : Array Value} (hr : RelCs P n0 β σ s w cs' cells'.toList) (hcn : ∀ n, Fresh a s n → n ∉ namesCs cs') {wr : Wr (std E N)} (ht0 : wr.ts = []) (hbs : wr.bs = [(b, some { cs := cs', dirty := true })]) (hhs : wr.hs = []) :
    Mem P n0 β σ (s.apply wr) (w.setRow blk cells') ∧ Ext P (fun _ => False) β σ s w β σ (s.apply wr) (w.setRow blk cells') ∧ Tidy a (fun _ => False) s (s.apply wr) := by
  have gB := fun n => State.getB_apply1 s b (some { cs := cs', dirty := true }) wr hbs n
  have gH := fun n => State.getH_apply0 s wr hhs n
  have hin : InM β σ s blk := .inl ⟨b, e, he, hb⟩
  have hB : ∀ n e', (s.apply wr).getB n = some e' → ∃ e0, s.getB n = some e0 := fun n e' h => by
    rw [gB] at h
    by_cases hn : n = b
    · exact ⟨e, by rw [hn]; exact he⟩
    · rw [if_neg hn] at h; exact ⟨e', h⟩
  have oth : ∀ k, k ≠ blk → (w.setRow blk cells').heap[k]? = w.heap[k]? := fun k hk => setRow_other w blk k _ hk
  have x : Ext P (fun _ => False) β σ s w β σ (s.apply wr) (w.setRow blk cells') := by
    refine ⟨rfl, rfl, rfl, by simp, fun k hk hm => oth k (fun h => hm (h ▸ hin)), fun k hk => .inl ?_, fun n e' h _ => ⟨hB n e' h, rfl⟩, fun n h hh _ => by rw [gH] at hh; exact ⟨h, hh, rfl, rfl, rfl⟩⟩
    rcases hk with ⟨n, e', h, hb'⟩ | ⟨i, h, cap, hh, hf, hs⟩
    · obtain ⟨e0, h0⟩ := hB n e' h; exact .inl ⟨n, e0, h0, hb'⟩
    · rw [gH] at hh; exact .inr ⟨i, h, cap, hh, hf, hs⟩
  refine ⟨⟨fun n e' h => ?_, fun i h hh => ?_, fun n n' e1 e2 k h1 h2 => ?_, fun i i' h h' k c c' h1 h2 => ?_, fun n e1 i h k c h1 h2 h3 h4 => ?_⟩, x, ⟨fun n hf _ => ?_, fun n e' h hd => ?_, fun n e' h hd => by rw [gH] at h; exact h⟩⟩
  · rw [gB] at h
    by_cases hn : n = b
    · rw [if_pos hn] at h; cases h
      exact ⟨blk, cells', el, by rw [hn]; exact hb, setRow_heap w blk cells _ _ _ hheap, x.relCs (fun _ _ => id) hr⟩
    · rw [if_neg hn] at h
      obtain ⟨k, c1, el1, hk, hh, hr1⟩ := m.B n e' h
      exact ⟨k, c1, el1, hk, (oth k (fun e2 => hn (m.uB n b e' e blk h he (e2 ▸ hk) hb))).trans hh, x.relCs (fun _ _ => id) hr1⟩
  · rw [gH] at hh
    obtain ⟨t, ts, ht, hts, hrl, hm⟩ := m.H i h hh
    refine ⟨t, ts, ht, hts, hrl, ?_⟩
    rcases hm with hm | ⟨k, cap, c1, el1, hs, hheap1, hel, hsz, hcap, hnw, v, hv, hrep⟩
    · exact .inl hm
    · exact .inr ⟨k, cap, c1, el1, hs, (oth k (fun e2 => m.uX b e i h blk cap he hh hb (e2 ▸ hs))).trans hheap1, hel, hsz, hcap, hnw, v, hv, fun q j t' hq hj => x.rep (hrep q j t' hq hj)⟩
  · obtain ⟨e3, h3⟩ := hB n e1 h1
    obtain ⟨e4, h4⟩ := hB n' e2 h2
    exact fun h5 h6 => m.uB n n' e3 e4 k h3 h4 h5 h6
  · rw [gH] at h1 h2; exact m.uH i i' h h' k c c' h1 h2
  · obtain ⟨e3, h5⟩ := hB n e1 h1
    rw [gH] at h2
    exact m.uX n e3 i h k c h5 h2 h3 h4
  · refine ⟨fun k tv hk => ?_, fun k e1 he1 => ?_, fun k h hk => ?_⟩
    · rw [State.getT_apply0 s wr ht0] at hk; exact hf.t k tv hk
    · rw [gB] at he1
      by_cases hk : k = b
      · rw [if_pos hk] at he1; cases he1; exact ⟨by rw [hk]; exact (hf.b b e he).1, hcn n hf⟩
      · rw [if_neg hk] at he1; exact hf.b k e1 he1
    · rw [gH] at hk; exact hf.h k h hk
  · rw [gB] at h
    by_cases hn : n = b
    · rw [if_pos hn] at h; cases h; cases hd
    · rw [if_neg hn] at h; exact h

/-- The cells that a store lays. -/
def laid (cells : Array Value) (o : Nat) (us : List Value) : Array Value := (cells.toList.take o ++ us ++ cells.toList.drop (o + us.length)).toArray

theorem laid_size {cells : Array Value} {o : Nat} {us : List Value} (h : o + us.length ≤ cells.size) : (laid cells o us).size = cells.size := by
  simp only [laid, List.size_toArray, List.length_append, List.length_take, List.length_drop, Array.length_toList]; omega

theorem laid_get {cells : Array Value} {o : Nat} {us : List Value} (h : o + us.length ≤ cells.size) (j : Nat) : (laid cells o us)[j]? = if o ≤ j ∧ j < o + us.length then us[j - o]? else cells[j]? := by
  have hl : (cells.toList.take o).length = o := by rw [List.length_take]; exact Nat.min_eq_left (by simp; omega)
  simp only [laid, List.getElem?_toArray, List.append_assoc]
  by_cases h1 : j < o
  · rw [List.getElem?_append_left (by rw [hl]; exact h1), List.getElem?_take, if_pos h1, if_neg (by omega), Array.getElem?_toList]
  · rw [List.getElem?_append_right (by rw [hl]; omega), hl]
    by_cases h2 : j < o + us.length
    · rw [List.getElem?_append_left (by omega), if_pos ⟨by omega, h2⟩]
    · rw [List.getElem?_append_right (by omega), if_neg (by omega), List.getElem?_drop, Array.getElem?_toList]
      congr 1; omega

theorem cellsOf_info {T : TypeId} (h : 0 < P.cellsOf T) : ∃ ti, P.info? T = some ti ∧ ti.size = P.cellsOf T := by
  unfold Program.cellsOf at h ⊢
  cases hi : P.info? T with
  | none => rw [hi] at h; simp at h
  | some ti => exact ⟨ti, rfl, by simp⟩

/-- A store, on the machine. -/
theorem run_store_laid {T : TypeId} {blk o : Nat} {cells : Array Value} {el : TypeId} {x : Value} {us : List Value} (hx : x.cells.toList = us) (hlen : us.length = P.cellsOf T) (hpos : 0 < us.length)
    (hheap : w.heap[blk]? = some (.cells cells el (0, 0))) (hfit : o + us.length ≤ cells.size) (hone : ∀ v ∈ us, v.oneCell' = true) :
    (Instr.storeAt T (.pointer (some ⟨blk, o, none⟩)) x).run P w = .ok () (w.setRow blk (laid cells o us)) := by
  obtain ⟨ti, hi, hsz⟩ := cellsOf_info (P := P) (T := T) (by omega)
  have hst := run_storeCells_at (P := P) blk o el us 0 cells w hheap (by simpa using hfit) hone
  have hcs : x.cells.size = ti.size := by rw [hsz, ← hlen, ← hx]; simp
  simp only [Nat.add_zero] at hst
  simp [Instr.storeAt, Instr.sureAddr, storeVar, sizeOf, typeInfo, hi, hcs, hx, hst, laid, List.append_assoc] <;> simp [List.append_assoc] at hst <;> exact hst

theorem split3 {α : Type} {l : List α} {o n m : Nat} (h : o + m ≤ l.length) (hn : n = m) : l.take o ++ (l.drop o).take n ++ l.drop (o + ((l.drop o).take n).length) = l := by
  have : ((l.drop o).take n).length = n := by rw [List.length_take, List.length_drop]; omega
  rw [this, List.append_assoc, ← List.drop_drop, List.take_append_drop, List.take_append_drop]

theorem putE_rel {off sz inner : Nat} {i : Int} {v : List (AC0 E N)} {us : List Value} (hv : RelCs P n0 β σ s w v us) (hpos : 0 < v.length) (h0 : 0 ≤ i) : ∀ {k : Nat} {cs cs' : List (AC0 E N)} {vs : List Value}, putE (O := std E N) off sz inner i v k cs = some cs' → RelCs P n0 β σ s w cs vs →
    RelCs P n0 β σ s w cs' (if i < (k : Int) then vs.take (off + i.toNat * sz + inner) ++ us ++ vs.drop (off + i.toNat * sz + inner + us.length) else vs) ∧ (∀ n, n ∈ namesCs cs' → n ∈ namesCs cs) ∧ (i < (k : Int) → off + i.toNat * sz + inner + us.length ≤ vs.length)
  | 0, cs, cs', vs, h, hc => by
    simp only [putE] at h; cases h
    have : ¬ i < ((0 : Nat) : Int) := by omega
    rw [if_neg this]
    exact ⟨hc, fun _ h => h, fun h => absurd h this⟩
  | k + 1, cs, cs', vs, h, hc => by
    simp only [putE] at h
    split at h
    · cases h
    · rename_i old hold
      split at h
      · cases h
      · rename_i new hnew
        split at h
        · cases h
        · rename_i cs1 hrep
          obtain ⟨ho1, ho2⟩ := sliceOf_eq hold
          have hlv := RelCs.length hv
          have hlc := RelCs.length hc
          have hnames : ∀ n, n ∈ namesCs cs1 → n ∈ namesCs cs := fun n hn => by
            rcases namesCs_replace hrep hn with h | h
            · exact h
            · rw [mergeCs_names hnew] at h; simp at h
          have hfit : off + k * sz + inner + us.length ≤ vs.length := by
            have := congrArg List.length ho1
            rw [ho2, List.length_take, List.length_drop] at this
            omega
          by_cases hik : i = (k : Int)
          · have hb : (i == (k : Int)) = true := by simp [hik]
            have hi2 : i.toNat = k := by omega
            have h1 := mergeCs_rel (vs := us) hnew (fun _ => hv) (fun h => by rw [hb] at h; cases h)
            have h2 := replaceAt_rel hrep hc h1.1
            obtain ⟨r1, r2, r3⟩ := putE_rel hv hpos h0 h h2
            have hlt : ¬ i < (k : Int) := by omega
            rw [if_neg hlt] at r1
            rw [if_pos (by omega), hi2]
            exact ⟨r1, fun n hn => hnames n (r2 n hn), fun _ => hfit⟩
          · have hb : (i == (k : Int)) = false := by simp [hik]
            have h1 := mergeCs_rel (vs := (vs.drop (off + k * sz + inner)).take v.length) hnew (fun h => by rw [hb] at h; cases h) (fun _ => by rw [ho1]; exact RelCs.take _ (RelCs.drop _ hc))
            have h2 := replaceAt_rel hrep hc h1.1
            rw [split3 hfit hlv] at h2
            obtain ⟨r1, r2, r3⟩ := putE_rel hv hpos h0 h h2
            by_cases hlt : i < (k : Int)
            · rw [if_pos hlt] at r1; rw [if_pos (by omega)]
              exact ⟨r1, fun n hn => hnames n (r2 n hn), fun _ => r3 hlt⟩
            · rw [if_neg hlt] at r1; rw [if_neg (by omega)]
              exact ⟨r1, fun n hn => hnames n (r2 n hn), fun h => by omega⟩

/-! ### Rows -/

theorem putRow_length : ∀ (ps : List PV) (r : List PV) (off : Nat), (putRow r off ps).length = r.length
  | [], r, off => rfl
  | p :: ps, r, off => by simp [putRow, putRow_length ps]

theorem putRow_get : ∀ (ps : List PV) (r : List PV) (off j : Nat), off + ps.length ≤ r.length → (putRow r off ps)[j]? = if off ≤ j ∧ j < off + ps.length then ps[j - off]? else r[j]?
  | [], r, off, j, _ => by
    have : ¬ (off ≤ j ∧ j < off + ([] : List PV).length) := by simp
    rw [if_neg this]; rfl
  | p :: ps, r, off, j, h => by
    simp only [List.length_cons] at h
    simp only [putRow]
    rw [putRow_get ps (r.set off p) (off + 1) j (by simp; omega)]
    by_cases h1 : j = off
    · subst h1
      rw [if_neg (by omega), if_pos ⟨Nat.le_refl _, by simp⟩, Nat.sub_self]
      simp only [List.getElem?_cons_zero]
      rw [List.getElem?_set_self (by omega)]
    · rw [List.getElem?_set_ne (fun e => h1 e.symm)]
      by_cases h2 : off ≤ j ∧ j < off + (ps.length + 1)
      · rw [if_pos (by omega), if_pos (by simpa using h2)]
        obtain ⟨k, hk⟩ : ∃ k, j - off = k + 1 := ⟨j - off - 1, by omega⟩
        rw [hk, List.getElem?_cons_succ]
        congr 1; omega
      · rw [if_neg (by omega), if_neg (by simpa using h2)]

theorem applyA_not {α : Type} {k : Nat} : ∀ {ws : List (Nat × Option α)} {l : List (Nat × α)}, k ∉ ws.map (·.1) → alGet (applyA l ws) k = alGet l k
  | [], l, _ => rfl
  | (n, v) :: ws, l, h => by
    simp only [List.map_cons, List.mem_cons, not_or] at h
    simp only [applyA]
    rw [applyA_not h.2, alGet_alSet, if_neg h.1]

theorem pvAt_set {l : Rows} {i i' j : Nat} {r : List PV} (hi : i < l.length) : pvAt (l.set i r) i' j = if i' = i then cellAt r j else pvAt l i' j := by
  unfold pvAt rowAt
  by_cases h : i' = i
  · subst h; simp [List.getD, List.getElem?_set_self hi]
  · rw [if_neg h]; simp only [List.getD]; rw [List.getElem?_set_ne (fun e => h e.symm)]

theorem cellAt_put {ps r : List PV} {off j : Nat} (h : off + ps.length ≤ r.length) : cellAt (putRow r off ps) j = if off ≤ j ∧ j < off + ps.length then cellAt ps (j - off) else cellAt r j := by
  unfold cellAt
  simp only [List.getD]
  rw [putRow_get ps r off j h]
  split <;> rfl

theorem storeCs_ok (hn0 : n0.n ≤ w.heap.size) (m : Mem P n0 β σ s w) {T : TypeId} {p : AC0 E N} {pv x : Value} {v : List (AC0 E N)} {wr : Wr (std E N)} {k k' : Nat} (hp : RelC P n0 β σ s w p pv) (hv : RelCs P n0 β σ s w v x.cells.toList)
    (hvn : ∀ n, Fresh a s n → n ∉ namesCs v) (h : RM.run s (storeCs P T v p) k = .ok (wr, k')) :
    ∃ w', (Instr.storeAt T pv x).run P w = .ok () w' ∧ Mem P n0 β σ (s.apply wr) w' ∧ Ext P (fun _ => False) β σ s w β σ (s.apply wr) w' ∧ Tidy a (fun _ => False) s (s.apply wr) ∧ wr.ts = [] := by
  have hlv := RelCs.length hv
  have hone := RelCs.one hv
  cases p with
  | ptr b off =>
    obtain ⟨k1, h⟩ := RM.b_ok h
    cases he : s.getB b with
    | none => rw [he] at h; exact (RM.fail_ok h).elim
    | some e =>
      rw [he] at h
      obtain ⟨_, k2, h1, h2⟩ := RM.bind_ok h
      obtain ⟨cs, k3, h3, h4⟩ := RM.bind_ok h2
      cases RM.ret_ok h4
      have hg := RM.guard_ok h1
      simp only [Bool.and_eq_true] at hg
      have hlen := natBeq_iff.1 hg.1
      have hpos : 0 < v.length := Nat.le_of_ble_eq_true hg.2
      have hrep := RM.ofOpt_ok h3
      obtain ⟨blk, rfl, hbk⟩ := hp
      have hb := hbk e he
      obtain ⟨blk', cells, el, hb', hheap, hrc⟩ := m.B b e he
      rw [hb] at hb'; cases hb'
      have hfit : off + x.cells.toList.length ≤ cells.size := by
        have h1 := RelCs.length hrc
        rcases (replaceAt_eq hrep).2 with h | h
        · rw [h] at hpos; simp at hpos
        · rw [Array.length_toList] at h1; omega
      have hr := replaceAt_rel hrep hrc hv
      obtain ⟨q1, q2, q3⟩ := put_box m he hb hheap (cs' := cs) (cells' := laid cells off x.cells.toList) (by simpa [laid] using hr)
        (fun n hn hm => (namesCs_replace hrep hm).elim (hn.b b e he).2 (hvn n hn)) (wr := { bs := [(b, some { cs, dirty := true })] }) rfl rfl rfl
      exact ⟨_, run_store_laid rfl (by omega) (by omega) hheap hfit hone, q1, q2, q3, rfl⟩
  | aptr b off n sz i inner =>
    obtain ⟨k1, h⟩ := RM.b_ok h
    cases he : s.getB b with
    | none => rw [he] at h; exact (RM.fail_ok h).elim
    | some e =>
      rw [he] at h
      obtain ⟨_, k2, h1, h2⟩ := RM.bind_ok h
      obtain ⟨cs, k3, h3, h4⟩ := RM.bind_ok h2
      cases RM.ret_ok h4
      have hg := RM.guard_ok h1
      simp only [Bool.and_eq_true] at hg
      have hlen := natBeq_iff.1 hg.1
      have hpos : 0 < v.length := Nat.le_of_ble_eq_true hg.2
      have hrep := RM.ofOpt_ok h3
      obtain ⟨h0, hi, blk, rfl, hbk⟩ := hp
      have hb := hbk e he
      obtain ⟨blk', cells, el, hb', hheap, hrc⟩ := m.B b e he
      rw [hb] at hb'; cases hb'
      obtain ⟨r1, r2, r3⟩ := putE_rel hv hpos h0 hrep hrc
      rw [if_pos hi] at r1
      have hfit := r3 hi
      rw [Array.length_toList] at hfit
      obtain ⟨q1, q2, q3⟩ := put_box m he hb hheap (cs' := cs) (cells' := laid cells _ x.cells.toList) (by simpa [laid] using r1)
        (fun n hn hm => (hn.b b e he).2 (r2 n hm)) (wr := { bs := [(b, some { cs, dirty := true })] }) rfl rfl rfl
      exact ⟨_, run_store_laid rfl (by omega) (by omega) hheap hfit hone, q1, q2, q3, rfl⟩
  | eptr id i off =>
    obtain ⟨k1, h⟩ := RM.h_ok h
    cases hh : s.getH id with
    | none => rw [hh] at h; exact (RM.fail_ok h).elim
    | some en =>
      rw [hh] at h
      obtain ⟨_, k2, h1, h2⟩ := RM.bind_ok h
      have hfz : en.frozen = false := by simpa using RM.guard_ok h1
      split at h2
      case h_2 => exact (RM.fail_ok h2).elim
      rename_i tsT hfits
      obtain ⟨_, k3, h3, h4⟩ := RM.bind_ok h2
      obtain ⟨⟨ls, fr, nw⟩, k4, h5, h6⟩ := RM.bind_ok h4
      obtain ⟨_, k5, h7, h8⟩ := RM.bind_ok h6
      cases RM.ret_ok h8
      have hg3 := RM.guard_ok h3
      simp only [Bool.and_eq_true] at hg3
      have hl1 := natBeq_iff.1 hg3.1
      have hl2 := natBeq_iff.1 hg3.2
      have hg7 := RM.guard_ok h7
      simp only [Bool.and_eq_true, Bool.not_eq_true'] at hg7
      obtain ⟨hkind, hnot⟩ := hg7
      obtain ⟨le, hle, hT, htake⟩ := rowFits_eq hfits
      obtain ⟨i, rfl⟩ : ∃ j : Int, j = i := ⟨i, rfl⟩
      obtain ⟨h0, blk, o, hpv, hk⟩ := hp
      subst hpv
      obtain ⟨hi, ts, cap, hts, hs, ho⟩ := hk en hh
      rw [hle] at hts; cases hts
      subst ho
      obtain ⟨hTsz, hTpos⟩ := tysOf_size hT
      obtain ⟨t, ts2, ht, hts2, hrl, hm⟩ := m.H id en hh
      rw [hle] at hts2; cases hts2
      rcases hm with ⟨hn, _⟩ | ⟨blk', cap', cells, el, hs', hheap, hel, hsz, hcap, hnw, u, hu, hrep⟩
      · rw [hn] at hs; cases hs
      · rw [hs] at hs'; cases hs'
        have hoff : off + tsT.length ≤ le.length := by
          have := congrArg List.length htake
          rw [List.length_take, List.length_drop] at this
          omega
        have hi2 : (i : Int) < ((en.l.length : Nat) : Int) := hi
        have h02 : (0 : Int) ≤ i := h0
        have hiN : i.toNat < en.l.length := by omega
        have hfit0 : i.toNat * le.length + le.length ≤ cap * le.length := by
          have : (i.toNat + 1) * le.length ≤ cap * le.length := Nat.mul_le_mul_right _ (by omega)
          rwa [Nat.add_mul, Nat.one_mul] at this
        have hus : x.cells.toList.length = tsT.length := by omega
        have hfit : i.toNat * le.length + off + x.cells.toList.length ≤ cells.size := by omega
        obtain ⟨f1, f2, f3, f4⟩ := toLfs_ok m hv h5
        let hnew : HEnt (std E N) := { en with l := en.l.set i.toNat (putRow (rowAt en.l i.toNat) off (ls.map Leaf.pv)), nw := en.nw && nw, dirty := true }
        let wr : Wr (std E N) := { hs := fr ++ [(id, some hnew)] }
        let s1 := s.apply ({ hs := fr } : Wr (std E N))
        let w2 := w.setRow blk (laid cells (i.toNat * le.length + off) x.cells.toList)
        have gB := fun n => State.getB_apply0 s wr rfl n
        have gs : ∀ n, (s.apply wr).getH n = if n = id then some hnew else s1.getH n := fun n => by
          show alGet (applyA s.hp (fr ++ [(id, some hnew)])) n = _
          rw [applyA_append]; simp only [applyA]; exact alGet_alSet _ _ _ _
        have hget : (s.apply wr).getH id = some hnew := by rw [gs, if_pos rfl]
        have fget : ∀ n h', n ≠ id → (s.apply wr).getH n = some h' → ∃ h0, s.getH n = some h0 ∧ (h' = h0 ∨ h' = { h0 with frozen := true, dirty := true }) := fun n h' hn he => by
          rw [gs, if_neg hn] at he
          exact f1.pre.get rfl n h' he
        have hin : InM β σ s blk := .inr ⟨id, en, cap, hh, hfz, hs⟩
        have oth : ∀ q, q ≠ blk → w2.heap[q]? = w.heap[q]? := fun q hq => setRow_other w blk q _ hq
        have x0 : Ext P (fun _ => False) β σ s w β σ (s.apply wr) w2 := by
          refine ⟨rfl, rfl, rfl, by simp [w2], fun q _ hm => oth q (fun e => hm (e ▸ hin)), fun q hq => .inl ?_, fun n e he _ => ?_, fun n h' he _ => ?_⟩
          · rcases hq with ⟨n, e, he, hb⟩ | ⟨n, e, cap', he, hfz', hb⟩
            · rw [gB] at he; exact .inl ⟨n, e, he, hb⟩
            · by_cases hid : n = id
              · rw [hid] at hb; exact .inr ⟨id, en, cap', hh, hfz, hb⟩
              · obtain ⟨h0, hh0, h1⟩ := fget n e hid he
                rcases h1 with rfl | rfl
                · exact .inr ⟨n, e, cap', hh0, hfz', hb⟩
                · cases hfz'
          · rw [gB] at he; exact ⟨⟨e, he⟩, rfl⟩
          · by_cases hid : n = id
            · subst hid
              rw [hget] at he; cases he
              exact ⟨en, hh, rfl, rfl, by simp [hnew]⟩
            · obtain ⟨h0, hh0, h1⟩ := fget n h' hid he
              refine ⟨h0, hh0, rfl, ?_⟩
              rcases h1 with rfl | rfl <;> exact ⟨rfl, rfl⟩
        have hs1 : s1.getH id = some en := by
          show alGet (applyA s.hp fr) id = some en
          rw [applyA_not (fun hm => by rw [memN_iff.2 hm] at hnot; cases hnot)]
          exact hh
        have x1 : Ext P (fun _ => False) β σ s1 w β σ (s.apply wr) w2 := by
          have hin1 : InM β σ s1 blk := .inr ⟨id, en, cap, hs1, hfz, hs⟩
          refine ⟨rfl, rfl, rfl, by simp [w2], fun q _ hm => oth q (fun e => hm (e ▸ hin1)), fun q hq => .inl ?_, fun n e he _ => ?_, fun n h' he _ => ?_⟩
          · rcases hq with ⟨n, e, he, hb⟩ | ⟨n, e, cap', he, hfz', hb⟩
            · rw [gB] at he; exact .inl ⟨n, e, by show (s.apply _).getB n = _; rw [State.getB_apply0 s _ rfl]; exact he, hb⟩
            · by_cases hid : n = id
              · rw [hid] at hb; exact .inr ⟨id, en, cap', hs1, hfz, hb⟩
              · rw [gs, if_neg hid] at he
                exact .inr ⟨n, e, cap', he, hfz', hb⟩
          · rw [gB] at he; exact ⟨⟨e, by show (s.apply _).getB n = _; rw [State.getB_apply0 s _ rfl]; exact he⟩, rfl⟩
          · by_cases hid : n = id
            · subst hid
              rw [hget] at he; cases he
              exact ⟨en, hs1, rfl, rfl, by simp [hnew]⟩
            · rw [gs, if_neg hid] at he
              exact ⟨h', he, rfl, rfl, rfl⟩
        have hlr : ls.length = tsT.length := by omega
        have hrow : rowAt en.l i.toNat ∈ en.l := by
          unfold rowAt; rw [List.getD, List.getElem?_eq_getElem hiN]; exact List.getElem_mem hiN
        have hrowl : (rowAt en.l i.toNat).length = le.length := hrl _ hrow
        refine ⟨w2, run_store_laid rfl (by omega) (by omega) hheap hfit hone, put_own (id := id) m x0 (fun n e he => ?_) (fun n e q he hb => ?_) (fun n h' hn he => ?_) (fun n h' q cap' hn he hs => ?_) (fun h' he => ?_) (fun q cap' hq => ?_), x0,
          ⟨fun n hf _ => ?_, fun n e he hd => ?_, fun n e he hd => ?_⟩, rfl⟩
        · rw [gB] at he; exact ⟨e, he, rfl, fun _ _ h => h⟩
        · rw [gB] at he; exact oth q (fun e2 => m.uX n e id en blk cap he hh (e2 ▸ hb) hs)
        · obtain ⟨h0, hh0, h1⟩ := fget n h' hn he
          refine ⟨h0, hh0, ?_⟩
          rcases h1 with rfl | rfl
          · exact ⟨rfl, rfl, rfl, fun h => h, rfl⟩
          · exact ⟨rfl, rfl, rfl, (fun h => by cases h), rfl⟩
        · obtain ⟨h0, hh0, _⟩ := fget n h' hn he
          exact oth q (fun e2 => hn (m.uH n id h0 en blk cap' cap hh0 hh (e2 ▸ hs) (by assumption)))
        · rw [hget] at he; cases he
          refine ⟨t, le, ht, hle, fun r hr => ?_, .inr ⟨blk, cap, laid cells (i.toNat * le.length + off) x.cells.toList, el, hs, setRow_heap w blk cells _ _ _ hheap, hel, by rw [laid_size hfit]; exact hsz, by simp [hnew]; exact hcap,
            hnw.mono (fun h => by simp [hnew] at h; exact h.1), fun i' j => if i' = i.toNat ∧ off ≤ j ∧ j < off + tsT.length then x.cells.toList.getD (j - off) undef else u i' j, fun i' j hi' hj => ?_, fun i' j t' hi' hj => ?_⟩⟩
          · rcases List.mem_or_eq_of_mem_set hr with h | h
            · exact hrl r h
            · rw [h, putRow_length]; exact hrl _ hrow
          · have hi3 : i' < en.l.length := by simpa [hnew] using hi'
            rw [laid_get hfit]
            show _ = some (if i' = i.toNat ∧ off ≤ j ∧ j < off + tsT.length then x.cells.toList.getD (j - off) undef else u i' j)
            by_cases hc : i' = i.toNat ∧ off ≤ j ∧ j < off + tsT.length
            · obtain ⟨rfl, hc1, hc2⟩ := hc
              rw [if_pos (by omega)]
              simp only [hc1, hc2, and_self, if_true]
              have e1 : i.toNat * le.length + j - (i.toNat * le.length + off) = j - off := by omega
              rw [e1, List.getD, List.getElem?_eq_getElem (by omega)]; rfl
            · rw [if_neg hc, if_neg (fun h => hc ?_)]
              · exact hu i' j hi3 hj
              · rcases Nat.lt_trichotomy i' i.toNat with h1 | h1 | h1
                · have : (i' + 1) * le.length ≤ i.toNat * le.length := Nat.mul_le_mul_right _ h1
                  rw [Nat.add_mul, Nat.one_mul] at this; omega
                · subst h1; exact ⟨rfl, by omega, by omega⟩
                · have : (i.toNat + 1) * le.length ≤ i' * le.length := Nat.mul_le_mul_right _ h1
                  rw [Nat.add_mul, Nat.one_mul] at this; omega
          · have hi3 : i' < en.l.length := by simpa [hnew] using hi'
            have hj3 : j < le.length := (List.getElem?_eq_some_iff.1 hj).1
            show Rep P w2 (StB n0 β σ (s.apply wr) hnew.nw) t' (if i' = i.toNat ∧ off ≤ j ∧ j < off + tsT.length then x.cells.toList.getD (j - off) undef else u i' j) _
            rw [show hnew.l = en.l.set i.toNat (putRow (rowAt en.l i.toNat) off (ls.map Leaf.pv)) from rfl, pvAt_set hiN]
            have hold : ∀ i', i' < en.l.length → Rep P w2 (StB n0 β σ (s.apply wr) hnew.nw) t' (u i' j) (pvAt en.l i' j) := fun i' hi' =>
              (x0.rep (hrep i' j t' hi' hj)).st (fun b hb => ⟨hb.1, hb.2.mono (fun h => by simp [hnew] at h; exact h.1)⟩)
            by_cases hii : i' = i.toNat
            · subst hii
              rw [if_pos rfl, cellAt_put (by rw [List.length_map, hlr, hrowl]; exact hoff), List.length_map, hlr]
              by_cases hc : off ≤ j ∧ j < off + tsT.length
              · rw [if_pos ⟨rfl, hc⟩, if_pos hc]
                have hq : tsT[j - off]? = some t' := by
                  rw [← htake, List.getElem?_take, if_pos (by omega), List.getElem?_drop, show off + (j - off) = j by omega]; exact hj
                refine x1.rep (f4 tsT s1 hkind (f1.sub rfl rfl) (f1.frz rfl) hnew.nw (fun h => by simp [hnew] at h; exact h.2) (j - off) t' _ hq ?_)
                rw [List.getD, List.getElem?_eq_getElem (by omega)]; rfl
              · rw [if_neg (fun h => hc h.2), if_neg hc]
                exact hold _ hi3
            · rw [if_neg hii, if_neg (fun h => hii h.1)]
              exact hold _ hi3
        · rw [hs] at hq; cases hq
          refine ⟨fun n e he hb => ?_, fun n h' cap'' hn he hs2 => ?_⟩
          · rw [gB] at he; exact m.uX n e id en blk cap he hh hb hs
          · obtain ⟨h0, hh0, _⟩ := fget n h' hn he
            exact hn (m.uH n id h0 en blk cap'' cap hh0 hh hs2 hs)
        · refine ⟨fun q tv hq => ?_, fun q e he => ?_, fun q e he => ?_⟩
          · rw [State.getT_apply0 s wr rfl] at hq; exact hf.t q tv hq
          · rw [gB] at he; exact hf.b q e he
          · by_cases hq : q = id
            · rw [hq]; exact hf.h id en hh
            · obtain ⟨h0, hh0, _⟩ := fget q e hq he
              exact hf.h q h0 hh0
        · rw [gB] at he; exact he
        · by_cases hq : n = id
          · rw [hq, hget] at he; cases he; cases hd
          · obtain ⟨h0, hh0, h1⟩ := fget n e hq he
            rcases h1 with rfl | rfl
            · exact hh0
            · cases hd
  | _ => exact (RM.fail_ok h).elim

end
end Go.Px
