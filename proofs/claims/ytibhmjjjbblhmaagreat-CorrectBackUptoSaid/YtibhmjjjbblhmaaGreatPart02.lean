/- Part 2. -/
import Derived.Test.YtibhmjjjbblhmaaGreatPart01
import Derived.ChangeKeysEq
set_option linter.unusedVariables false
set_option linter.unusedSimpArgs false
section
namespace Go.Px
section
variable {E : Env} {N : Nat} {P : Program} {n0 : Nz} {nt : Nat} {β : Nat → Option Nat} {σ : Nat → Option (Nat × Nat)} {s : St0 E N} {a : Act} {w : World}
theorem RelCs.take : ∀ {cs : List (AC0 E N)} {vs : List Value} (n : Nat), RelCs P n0 β σ s w cs vs → RelCs P n0 β σ s w (cs.take n) (vs.take n)
 | cs, vs, 0, h => by simp [RelCs]
 | [], [], n + 1, h => by simp [RelCs]
 | c :: cs, v :: vs, n + 1, h => ⟨h.1, RelCs.take n h.2⟩
 | [], _ :: _, _ + 1, h => h.elim
 | _ :: _, [], _ + 1, h => h.elim
theorem RelCs.drop : ∀ {cs : List (AC0 E N)} {vs : List Value} (n : Nat), RelCs P n0 β σ s w cs vs → RelCs P n0 β σ s w (cs.drop n) (vs.drop n)
 | cs, vs, 0, h => h
 | [], [], n + 1, h => by simp [RelCs]
 | c :: cs, v :: vs, n + 1, h => RelCs.drop n h.2
 | [], _ :: _, _ + 1, h => h.elim
 | _ :: _, [], _ + 1, h => h.elim
theorem RelCs.append : ∀ {cs cs' : List (AC0 E N)} {vs vs' : List Value}, RelCs P n0 β σ s w cs vs → RelCs P n0 β σ s w cs' vs' → RelCs P n0 β σ s w (cs ++ cs') (vs ++ vs')
 | [], _, [], _, _, h => h
 | c :: cs, _, v :: vs, _, h, h' => ⟨h.1, RelCs.append h.2 h'⟩
 | [], _, _ :: _, _, h, _ => h.elim
 | _ :: _, _, [], _, h, _ => h.elim
theorem DC {α : Type} {l r : List α} {off n : Nat} (h : GM l off n = some r) : r = (l.drop off).take n ∧ r.length = n := by
 unfold GM at h
 simp only at h
 split at h
 ·rename_i hb; cases h; exact ⟨rfl, AA.1 hb⟩
 ·cases h
theorem A0 : ∀ {cs : List (AC0 E N)} {n : Nat}, n ∈ AB cs ↔ ∃ c ∈ cs, n ∈ c.names
 | [], n => by simp [AB]
 | c :: cs, n => by simp [AB, A0]
theorem cZ {cs : List (AC0 E N)} {n k : Nat} (h : n ∈ AB (cs.take k)) : n ∈ AB cs := by
 rw [A0] at *; obtain ⟨c, hc, hn⟩ := h; exact ⟨c, List.mem_of_mem_take hc, hn⟩
theorem cQ {cs : List (AC0 E N)} {n k : Nat} (h : n ∈ AB (cs.drop k)) : n ∈ AB cs := by
 rw [A0] at *; obtain ⟨c, hc, hn⟩ := h; exact ⟨c, List.mem_of_mem_drop hc, hn⟩
theorem DZ {cs r : List (AC0 E N)} {off k n : Nat} (h : GM cs off k = some r) (hn : n ∈ AB r) : n ∈ AB cs := by
 rw [(DC h).1] at hn; exact cQ (cZ hn)
theorem Cb {t : TypeId} {ts : List TypeId} (h : AK P t = some ts) : P.cellsOf t = ts.length ∧ 0 < ts.length := by
 unfold AK at h
 split at h
 ·split at h
  ·rename_i hb; cases h
   simp only [Bool.and_eq_true] at hb
   exact ⟨(AA.1 hb.1).symm, BL.1 hb.2⟩
  ·cases h
 ·cases h
theorem FA {t : TypeId} (h : 0 < P.cellsOf t) : ∃ i, P.info? t = some i := by
 unfold Program.cellsOf at h
 cases hi : P.info? t with
 | none => simp [hi] at h
 | some i => exact ⟨i, rfl⟩
theorem B4 {t : TypeId} {d : TypeDesc} (h : P.underlying t = some d) : ∃ i, P.info? t = some i := by
 unfold Program.underlying at h
 cases hi : P.info? t with
 | none => simp [hi] at h
 | some i => exact ⟨i, rfl⟩
theorem BG {t : TypeId} {i : TypeInfo} (h : P.info? t = some i) : (sizeOf t).run P w = .ok (P.cellsOf t) w := by
 simp [sizeOf, typeInfo, h, Program.cellsOf]
theorem FJ {t : TypeId} {d : TypeDesc} (h : P.underlying t = some d) : (isAgg t).run P w = .ok (AQ P t) w := by
 unfold isAgg AQ
 simp only [Sem.run_bind, run_underlying h, Result.andThen_ok, h]
 cases d <;> rfl
theorem Mb {t e : TypeId} : AG P t = .sl e ↔ P.underlying t = some (.slice e) := by
 unfold AG
 constructor
 ·intro h; split at h <;> simp_all
 ·intro h; rw [h]
theorem Wg {t e : TypeId} (h : VX P t = some e) : P.underlying t = some (.slice e) := by
 unfold VX at h
 split at h
 ·rename_i hu; cases h; exact hu
 ·cases h
theorem Wh {t : TypeId} {k : IntKind} (h : AG P t = .int k) : P.underlying t = some (.int k) := by
 unfold AG at h; split at h <;> simp_all
theorem fh {t : TypeId} (h : AG P t = .bool) : P.underlying t = some .bool := by
 unfold AG at h; split at h <;> simp_all
theorem Wb {t : TypeId} (h : AG P t = .str) : P.underlying t = some .string := by
 unfold AG at h; split at h <;> simp_all
theorem jU {St : Nat → Prop} {t : TypeId} {v : Value} {p : PV} {k : IntKind} (h : Rep P w St t v p) (hk : AG P t = .int k) : v = .int k (pvI p) := by
 cases h <;> simp_all
theorem iI {St : Nat → Prop} {t : TypeId} {v : Value} {p : PV} (h : Rep P w St t v p) (hk : AG P t = .bool) : v = .bool (pvB p) := by
 cases h <;> simp_all
theorem iu {St : Nat → Prop} {t : TypeId} {v : Value} {p : PV} (h : Rep P w St t v p) (hk : AG P t = .str) : v = .string (pvS p) := by
 cases h <;> simp_all
theorem jv {St : Nat → Prop} {t e : TypeId} {v : Value} {p : PV} (h : Rep P w St t v p) (hk : AG P t = .sl e) : Rep P w St t v (.rows (pvL p)) := by
 cases h with
 | int h => simp_all
 | bool h => simp_all
 | str h => simp_all
 | sl v h hts hl hr hc hm hv => exact .sl v h hts hl hr hc hm hv
theorem Pz {nw : Bool} {l : Rows} {i : Int} (vs : Nat → Value) : ∀ {j : Nat} {ts : List TypeId} {cs : List (AC0 E N)}, Mm P nw l i j ts = some cs →
    (∀ q t', ts[q]? = some t' → Rep P w (StB n0 β σ s nw) t' (vs (j + q)) (AJ l i.toNat (j + q))) →
    RelCs P n0 β σ s w cs ((List.range ts.length).map fun q => vs (j + q)) ∧ AB cs = []
  | j, [], cs, h, _ => by simp only [Mm] at h; cases h; exact ⟨trivial, rfl⟩
  | j, t :: ts, cs, h, hv => by
    simp only [Mm] at h
    split at h
    · cases h
    · rename_i r hr
      obtain ⟨ih, ihn⟩ := Pz vs hr (fun q t' hq => by
        have := hv (q + 1) t' (by simpa using hq)
        rwa [show j + (q + 1) = j + 1 + q by omega] at this)
      have h0 := hv 0 t (by simp)
      simp only [Nat.add_zero] at h0
      have hl : ((List.range (t :: ts).length).map fun q => vs (j + q)) = vs j :: (List.range ts.length).map fun q => vs (j + 1 + q) := by
        simp only [List.length_cons, List.range_succ_eq_map, List.map_cons, Nat.add_zero, List.map_map]
        congr 1
        apply List.map_congr_left; intro q _; simp [Nat.add_assoc, Nat.add_comm 1 q]
      rw [hl]
      split at h
      · rename_i k hk; cases h; exact ⟨⟨jU h0 hk, ih⟩, by simp [AB, AC.names, ihn]⟩
      · rename_i hk; cases h; exact ⟨⟨iI h0 hk, ih⟩, by simp [AB, AC.names, ihn]⟩
      · rename_i hk; cases h; exact ⟨⟨iu h0 hk, ih⟩, by simp [AB, AC.names, ihn]⟩
      · rename_i e hk; cases h; exact ⟨⟨⟨t, hk, jv h0 hk⟩, ih⟩, by simp [AB, AC.names, ihn]⟩
      · cases h
theorem SZ {e t : TypeId} {off : Nat} {ts : List TypeId} (h : Rk P e off t = some ts) : ∃ le, AK P e = some le ∧ AK P t = some ts ∧ (le.drop off).take ts.length = ts := by
 unfold Rk at h
 split at h
 ·rename_i l r hl hr
  split at h
  ·rename_i hb; cases h; exact ⟨l, hl, hr, HN.1 hb⟩
  ·cases h
 ·cases h
theorem getElem?_of_sub {α : Type} {le ts : List α} {off : Nat} (h : (le.drop off).take ts.length = ts) {q : Nat} {t : α} (hq : ts[q]? = some t) : le[off + q]? = some t := by
 have hlt : q < ts.length := (List.getElem?_eq_some_iff.1 hq).1
 rw [← h, List.getElem?_take, if_pos hlt, List.getElem?_drop] at hq
 exact hq
theorem GC {blk off : Nat} {cells : Array Value} {el : TypeId} {fr : Nat × Nat} (h : w.heap[blk]? = some (.cells cells el fr)) : w.cell? ⟨blk, off, none⟩ = cells[off]? := by
 simp [World.cell?, h]
theorem Mt (blk off j : Nat) : (⟨blk, off, none⟩ : Addr).add j = ⟨blk, off + j, none⟩ := by unfold Addr.add; split <;> simp_all
theorem Lb {T : TypeId} {n : Nat} (h : M1 P T n = true) : (∃ d, P.underlying T = some d) ∧ (AQ P T = true ∨ n = 1) := by
 unfold M1 at h
 simp only [Bool.and_eq_true, Bool.or_eq_true] at h
 exact ⟨Option.isSome_iff_exists.1 h.1, h.2.imp id AA.1⟩
theorem Og {T : TypeId} {blk off : Nat} {cs : List (AC0 E N)} {vs : List Value} (hr : RelCs P n0 β σ s w cs vs) (hag : M1 P T cs.length = true)
    (hn : vs.length = P.cellsOf T) (h : ∀ j v, vs[j]? = some v → w.cell? ⟨blk, off + j, none⟩ = some v) :
    ∃ x, (loadVar T ⟨blk, off, none⟩).run P w = .ok x w ∧ RelVal P n0 β σ s w { agg := AQ P T, cs } x := by
  obtain ⟨⟨d, hu⟩, hag⟩ := Lb hag
  obtain ⟨i, hi⟩ := B4 hu
  cases hb : AQ P T with
  | true =>
    have hl := run_loadCells_list (P := P) w ⟨blk, off, none⟩ vs (fun j v hj => by rw [Mt]; exact h j v hj)
    rw [hn] at hl
    exact ⟨.agg vs.toArray, by simp [loadVar, FJ hu, hb, BG hi, hl], by simpa [Value.cells] using hr, _, rfl⟩
  | false =>
    have h1 : vs.length = 1 := by
      rcases hag with h | h
      · rw [hb] at h; cases h
      · rw [← RelCs.length hr]; exact h
    match vs, h1 with
    | [v], _ =>
      have hc := h 0 v rfl
      simp only [Nat.add_zero] at hc
      have ho := RelCs.one hr v (by simp)
      exact ⟨v, by simp [loadVar, FJ hu, hb, run_load, hc], by rw [BE ho]; exact hr, ho⟩
theorem jI {nw nw' : Bool} {b : Nat} (h : StB n0 β σ s nw b) : StB n0 β σ s (nw && nw') b :=
 ⟨h.1, h.2.mono (fun e => by simp_all)⟩
theorem gb {nw nw' : Bool} {b : Nat} (h : StB n0 β σ s nw' b) : StB n0 β σ s (nw && nw') b :=
 ⟨h.1, h.2.mono (fun e => by simp_all)⟩
theorem Rep.st {St St' : Nat → Prop} {t : TypeId} {v : Value} {p : PV} (h : Rep P w St t v p) (hs : ∀ b, St b → St' b) : Rep P w St' t v p :=
 h.mono (fun b _ hlt => ⟨rfl, hlt⟩) (fun b hb _ => hs b hb)
theorem fC {b : Bool} {x y c : AC0 E N} {v : Value} (h : Xp (O := std E N) b x y = some c) (ht : b = true → RelC P n0 β σ s w x v) (hf : b = false → RelC P n0 β σ s w y v) :
    RelC P n0 β σ s w c v ∧ c.names = [] := by
  unfold Xp at h
  split at h
  · split at h
    · rename_i k i k' j hk
      cases h
      have := G0.1 hk
      subst this
      cases b
      · exact ⟨hf rfl, rfl⟩
      · exact ⟨ht rfl, rfl⟩
    · cases h
  · cases h; cases b
    · exact ⟨hf rfl, rfl⟩
    · exact ⟨ht rfl, rfl⟩
  · cases h; cases b
    · exact ⟨hf rfl, rfl⟩
    · exact ⟨ht rfl, rfl⟩
  · split at h
    · rename_i e nw l e' nw' l' he
      cases h
      have := AA.1 he
      subst this
      refine ⟨?_, rfl⟩
      cases b
      · obtain ⟨t, h1, h2⟩ := hf rfl
        exact ⟨t, h1, h2.st fun _ => gb⟩
      · obtain ⟨t, h1, h2⟩ := ht rfl
        exact ⟨t, h1, h2.st fun _ => jI⟩
    · cases h
  · cases h
theorem HW {b : Bool} : ∀ {xs ys cs : List (AC0 E N)} {vs : List Value}, B7 (O := std E N) b xs ys = some cs → (b = true → RelCs P n0 β σ s w xs vs) → (b = false → RelCs P n0 β σ s w ys vs) →
    RelCs P n0 β σ s w cs vs ∧ AB cs = [] ∧ cs.length = xs.length
  | [], [], cs, vs, h, ht, hf => by
    simp only [B7] at h; cases h
    cases b
    · exact ⟨hf rfl, rfl, rfl⟩
    · exact ⟨ht rfl, rfl, rfl⟩
  | x :: xs, y :: ys, cs, vs, h, ht, hf => by
    simp only [B7] at h
    split at h
    · rename_i c r hc hr
      cases h
      match vs with
      | [] => cases b
              · exact (hf rfl).elim
              · exact (ht rfl).elim
      | v :: vs =>
        obtain ⟨r1, n1⟩ := fC (P := P) (n0 := n0) (β := β) (σ := σ) (s := s) (w := w) (v := v) hc (fun e => (ht e).1) (fun e => (hf e).1)
        obtain ⟨r2, n2, l2⟩ := HW hr (fun e => (ht e).2) (fun e => (hf e).2)
        exact ⟨⟨r1, r2⟩, by simp [AB, n1, n2], by simp [l2]⟩
    · cases h
  | [], _ :: _, cs, vs, h, _, _ => by simp [B7] at h
  | _ :: _, [], cs, vs, h, _, _ => by simp [B7] at h
theorem Vy {b : Bool} : ∀ {xs ys cs : List (AC0 E N)}, B7 (O := std E N) b xs ys = some cs → cs.length = ys.length
 | [], [], cs, h => by simp only [B7] at h; cases h; rfl
 | x :: xs, y :: ys, cs, h => by
  simp only [B7] at h
  split at h
  ·rename_i c r hc hr; cases h; simp [Vy hr]
  ·cases h
 | [], _ :: _, cs, h => by simp [B7] at h
 | _ :: _, [], cs, h => by simp [B7] at h
theorem Tx {f : Nat → Option (List (AC0 E N))} {i : Int} (vs : Nat → List Value) : ∀ {n : Nat} {r : List (AC0 E N)}, O4 (O := std E N) f i n = some r → 0 ≤ i → i ≤ (n : Int) →
    (∀ k c, k ≤ n → f k = some c → RelCs P n0 β σ s w c (vs k)) → RelCs P n0 β σ s w r (vs i.toNat)
  | 0, r, h, h0, hn, hv => by
    have : i.toNat = 0 := by omega
    rw [this]
    exact hv 0 r (Nat.le_refl _) h
  | k + 1, r, h, h0, hn, hv => by
    simp only [O4] at h
    split at h
    · rename_i r1 c hr1 hc
      have hcs := hv (k + 1) c (Nat.le_refl _) hc
      have key : (i == ((k + 1 : Nat) : Int)) = false → RelCs P n0 β σ s w r1 (vs i.toNat) := fun hb => by
        have hne : i ≠ ((k + 1 : Nat) : Int) := by simpa using hb
        exact Tx vs hr1 h0 (by omega) (fun k' c' hk' => hv k' c' (by omega))
      exact (HW (P := P) (n0 := n0) (β := β) (σ := σ) (s := s) (w := w) (vs := vs i.toNat) h
        (fun hb => by
          have : i = ((k + 1 : Nat) : Int) := by simpa using hb
          rw [show i.toNat = k + 1 by omega]; exact hcs) key).1
    · cases h
theorem Ju {b : Bool} : ∀ {xs ys cs : List (AC0 E N)}, B7 (O := std E N) b xs ys = some cs → AB cs = []
 | [], [], cs, h => by simp only [B7] at h; cases h; rfl
 | x :: xs, y :: ys, cs, h => by
  simp only [B7] at h
  split at h
  ·rename_i c r hc hr
   cases h
   have h1 := Ju hr
   have h2 : c.names = [] := by
    unfold Xp at hc
    split at hc
    ·split at hc
     ·cases hc; rfl
     ·cases hc
    ·cases hc; rfl
    ·cases hc; rfl
    ·split at hc
     ·cases hc; rfl
     ·cases hc
    ·cases hc
   simp [AB, h1, h2]
  ·cases h
 | [], _ :: _, cs, h => by simp [B7] at h
 | _ :: _, [], cs, h => by simp [B7] at h
theorem V1 {f : Nat → Option (List (AC0 E N))} {i : Int} {n : Nat} {r : List (AC0 E N)} (h : O4 (O := std E N) f i n = some r) :
    ∀ m ∈ AB r, ∃ c, f 0 = some c ∧ m ∈ AB c := by
  cases n with
  | zero => exact fun m hm => ⟨r, h, hm⟩
  | succ n =>
    simp only [O4] at h
    split at h
    · rw [Ju h]; simp
    · cases h
theorem UF {f : Nat → Option (List (AC0 E N))} {i : Int} {k : Nat} (hf : ∀ n c, f n = some c → c.length = k) : ∀ {n : Nat} {r : List (AC0 E N)}, O4 (O := std E N) f i n = some r → r.length = k
 | 0, r, h => hf 0 r h
 | n + 1, r, h => by
  simp only [O4] at h
  split at h
  ·rename_i r1 c hr1 hc
   rw [Vy h]
   exact UF hf hr1
  ·cases h
def ij (P : Program) (n0 : Nz) (β : Nat → Option Nat) (σ : Nat → Option (Nat × Nat)) (s : St0 E N) (w : World) (T : TypeId) (v : Value) (cs : List (AC0 E N)) : Prop :=
 ∃ blk off vs, v = .pointer (some ⟨blk, off, none⟩) ∧ vs.length = P.cellsOf T ∧ RelCs P n0 β σ s w cs vs ∧
  ∀ j x, vs[j]? = some x → w.cell? ⟨blk, off + j, none⟩ = some x
theorem Um (m : Mem P n0 β σ s w) {b off : Nat} {e : BEnt (std E N)} {v : Value} (he : s.getB b = some e) (hp : Jl β s b off v) :
    ∃ blk cells el, v = .pointer (some ⟨blk, off, none⟩) ∧ β b = some blk ∧ w.heap[blk]? = some (.cells cells el (0, 0)) ∧ RelCs P n0 β σ s w e.cs cells.toList := by
  obtain ⟨blk, rfl, hb⟩ := hp
  obtain ⟨blk', cells, el, hb', hh, hr⟩ := m.B b e he
  have := hb e he
  rw [hb'] at this
  cases this
  exact ⟨blk, cells, el, rfl, hb', hh, hr⟩
theorem Mk {blk : Nat} {cells : Array Value} {el : TypeId} {fr : Nat × Nat} (h : w.heap[blk]? = some (.cells cells el fr)) (off n j : Nat) (x : Value)
    (hj : ((cells.toList.drop off).take n)[j]? = some x) : w.cell? ⟨blk, off + j, none⟩ = some x := by
  rw [GC h]
  rw [List.getElem?_take] at hj
  split at hj
  · rw [List.getElem?_drop] at hj; simpa using hj
  · cases hj
theorem gR (m : Mem P n0 β σ s w) {T : TypeId} {p : AC0 E N} {v : Value} {cs : List (AC0 E N)} {k k' : Nat} (hp : RelC P n0 β σ s w p v)
    (h : RM.run s (bI P T p) k = .ok (cs, k')) : ij P n0 β σ s w T v cs ∧ ∀ n, Fresh a s n → n ∉ AB cs := by
  cases p with
  | ptr b off =>
    obtain ⟨k1, h⟩ := RM.b_ok h
    cases he : s.getB b with
    | none => rw [he] at h; exact (RM.fail_ok h).elim
    | some e =>
      rw [he] at h
      have hs := RM.ofOpt_ok h
      obtain ⟨blk, cells, el, rfl, hb, hh, hr⟩ := Um m he hp
      obtain ⟨e1, e2⟩ := DC hs
      have hrr := RelCs.take (P.cellsOf T) (RelCs.drop off hr)
      rw [← e1] at hrr
      exact ⟨⟨blk, off, _, rfl, (RelCs.length hrr).symm.trans e2, hrr, fun j x hj => Mk hh off _ j x hj⟩,
        fun n hn hm => (hn.b b e he).2 (DZ hs hm)⟩
  | aptr b off n sz i inner =>
    obtain ⟨k1, h⟩ := RM.b_ok h
    obtain ⟨h0, hlt, hp⟩ := hp
    cases he : s.getB b with
    | none => rw [he] at h; exact (RM.fail_ok h).elim
    | some e =>
      rw [he] at h
      obtain ⟨blk, cells, el, rfl, hb, hh, hr⟩ := Um m he hp
      cases n with
      | zero => exact (RM.fail_ok h).elim
      | succ n =>
        have hs := RM.ofOpt_ok h
        obtain ⟨i, rfl⟩ : ∃ j : Int, j = i := ⟨i, rfl⟩
        have h0' : (0 : Int) ≤ i := h0
        have hlt' : i < ((n + 1 : Nat) : Int) := hlt
        have key := Tx (P := P) (n0 := n0) (β := β) (σ := σ) (s := s) (w := w) (fun k => (cells.toList.drop (off + k * sz + inner)).take (P.cellsOf T)) hs h0' (by omega)
          (fun k c hk hc => by
            have := RelCs.take (P.cellsOf T) (RelCs.drop (off + k * sz + inner) hr)
            rwa [← (DC hc).1] at this)
        have hlen : cs.length = P.cellsOf T := UF (fun k c hc => (DC hc).2) hs
        refine ⟨⟨blk, _, _, rfl, (RelCs.length key).symm.trans hlen, key, fun j x hj => Mk hh _ _ j x hj⟩, fun m hm hx => ?_⟩
        obtain ⟨c, hc, hmc⟩ := V1 hs m hx
        exact (hm.b b e he).2 (DZ hc hmc)
  | eptr id i off =>
    obtain ⟨k1, h⟩ := RM.h_ok h
    obtain ⟨h0, blk, o, rfl, hk⟩ := hp
    cases he : s.getH id with
    | none => rw [he] at h; exact (RM.fail_ok h).elim
    | some e =>
      rw [he] at h
      simp only at h
      split at h
      · rename_i ts hf
        have hs := RM.ofOpt_ok h
        obtain ⟨hi, ts', cap, hts', hsg, rfl⟩ := hk e he
        obtain ⟨t, le, ht, hle, hrl, hm⟩ := m.H id e he
        rw [hle] at hts'; cases hts'
        obtain ⟨le', hle', hT, hsub⟩ := SZ hf
        rw [hle] at hle'; cases hle'
        rcases hm with ⟨hn, _⟩ | ⟨blk', cap', cells, el, hsg', hh, hel, hsz, hcap, hnw, v, hv, hrep⟩
        · rw [hn] at hsg; cases hsg
        · rw [hsg'] at hsg; cases hsg
          obtain ⟨i, rfl⟩ : ∃ j : Int, j = i := ⟨i, rfl⟩
          have hin : i.toNat < List.length e.l := by
            have h0' : (0 : Int) ≤ i := h0
            have hi' : i < ((List.length e.l : Nat) : Int) := hi
            omega
          obtain ⟨hr, hnm⟩ := Pz (P := P) (n0 := n0) (β := β) (σ := σ) (s := s) (w := w) (fun q => v i.toNat q) hs (fun q t' hq => hrep i.toNat (off + q) t' hin (getElem?_of_sub hsub hq))
          have hlen : ts.length = P.cellsOf T := (Cb hT).1.symm
          refine ⟨⟨blk, _, _, rfl, by simpa using hlen, hr, fun j x hj => ?_⟩, fun m _ => by rw [hnm]; simp⟩
          simp only [List.getElem?_map, Option.map_eq_some_iff] at hj
          obtain ⟨q, hq, rfl⟩ := hj
          obtain ⟨hqlt, rfl⟩ := List.getElem?_eq_some_iff.1 hq
          simp only [List.length_range] at hqlt
          simp only [List.getElem_range]
          rw [GC hh, Nat.add_assoc]
          have hb := (List.getElem?_eq_some_iff.1 (getElem?_of_sub hsub (List.getElem?_eq_getElem hqlt))).1
          exact hv i.toNat (off + j) hin hb
      · exact (RM.fail_ok h).elim
  | iptr e nw l i off =>
    simp only [bI] at h
    split at h
    · rename_i ts hf
      have hs := RM.ofOpt_ok h
      obtain ⟨h0, hi, t, le, blk, boff, len, cap, ht, hle, hrep, rfl⟩ := hp
      obtain ⟨le', hle', hT, hsub⟩ := SZ hf
      rw [hle] at hle'; cases hle'
      obtain ⟨i, rfl⟩ : ∃ j : Int, j = i := ⟨i, rfl⟩
      have h0' : (0 : Int) ≤ i := h0
      have hi' : i < ((List.length l : Nat) : Int) := hi
      have hin : i.toNat < List.length l := by omega
      cases hrep with
      | sl v ht' hts hl hr hc hm hv =>
        rw [ht] at ht'; cases ht'
        rw [hle] at hts; cases hts
        rcases hm with hm | ⟨b, o, ha, hb, hlt, hcell⟩
        · rw [← hl] at hm; omega
        · cases ha
          have hin' : i.toNat < len := by rw [← hl]; exact hin
          obtain ⟨hr, hnm⟩ := Pz (P := P) (n0 := n0) (β := β) (σ := σ) (s := s) (w := w) (fun q => v i.toNat q) hs (fun q t' hq => hv i.toNat (off + q) t' hin' (getElem?_of_sub hsub hq))
          have hlen : ts.length = P.cellsOf T := (Cb hT).1.symm
          refine ⟨⟨blk, _, _, rfl, by simpa using hlen, hr, fun j x hj => ?_⟩, fun m _ => by rw [hnm]; simp⟩
          simp only [List.getElem?_map, Option.map_eq_some_iff] at hj
          obtain ⟨q, hq, rfl⟩ := hj
          obtain ⟨hqlt, rfl⟩ := List.getElem?_eq_some_iff.1 hq
          simp only [List.length_range] at hqlt
          simp only [List.getElem_range]
          have hb := (List.getElem?_eq_some_iff.1 (getElem?_of_sub hsub (List.getElem?_eq_getElem hqlt))).1
          have := hcell i.toNat (off + j) hin' hb
          rw [← this]; congr 2; omega
    · exact (RM.fail_ok h).elim
  | int k i => exact (RM.fail_ok h).elim
  | bool b => exact (RM.fail_ok h).elim
  | str x => exact (RM.fail_ok h).elim
  | nil e => exact (RM.fail_ok h).elim
  | imm e nw l => exact (RM.fail_ok h).elim
  | own e id => exact (RM.fail_ok h).elim
  | fn f caps => exact (RM.fail_ok h).elim
  | nilptr => exact (RM.fail_ok h).elim
end
end Go.Px
end
section
namespace Go.Px
section
variable {E : Env} {N : Nat} {P : Program} {n0 : Nz} {nt : Nat} {β : Nat → Option Nat} {σ : Nat → Option (Nat × Nat)} {s : St0 E N} {a : Act} {w : World}
theorem X5 {c : AC0 E N} {v : Value} (h : RelC P n0 β σ s w c v) : RelVal P n0 β σ s w { agg := false, cs := [c] } v :=
 ⟨by rw [BE (RelC.one h)]; exact ⟨h, trivial⟩, RelC.one h⟩
theorem Aj {c : AC0 E N} {v : Value} (h : RelC P n0 β σ s w c v) : RelAV P n0 β σ s w (one c) v := X5 h
theorem D5 {c : AC0 E N} {v : Value} (h : RelVal P n0 β σ s w { agg := false, cs := [c] } v) : RelC P n0 β σ s w c v := by
 obtain ⟨h1, h2⟩ := h
 rw [BE h2] at h1
 exact h1.1
theorem LM {cs : List (AC0 E N)} {v : Value} (h : RelVal P n0 β σ s w { agg := true, cs } v) : ∃ vs, v = .agg vs ∧ RelCs P n0 β σ s w cs vs.toList := by
 obtain ⟨h1, vs, rfl⟩ := h
 exact ⟨vs, rfl, h1⟩
theorem YV {n : Nat} {p p' : AC0 E N} {v : Value} (h : Eb n p = some p') (hp : RelC P n0 β σ s w p v) :
    ∃ blk o, v = .pointer (some ⟨blk, o, none⟩) ∧ RelC P n0 β σ s w p' (.pointer (some ⟨blk, o + n, none⟩)) ∧ p'.names = p.names := by
  cases p with
  | ptr b off =>
    simp only [Eb, Option.some.injEq] at h; subst h
    obtain ⟨blk, rfl, hb⟩ := hp
    exact ⟨blk, off, rfl, ⟨blk, rfl, hb⟩, rfl⟩
  | aptr b off m sz i inner =>
    simp only [Eb, Option.some.injEq] at h; subst h
    obtain ⟨h0, h1, blk, rfl, hb⟩ := hp
    exact ⟨blk, _, rfl, ⟨h0, h1, blk, by rw [Nat.add_assoc _ inner n], hb⟩, rfl⟩
  | eptr id i off =>
    simp only [Eb, Option.some.injEq] at h; subst h
    obtain ⟨h0, blk, o, rfl, hk⟩ := hp
    refine ⟨blk, o, rfl, ⟨h0, blk, o + n, rfl, fun e he => ?_⟩, rfl⟩
    obtain ⟨hi, ts, cap, hts, hs, ho⟩ := hk e he
    exact ⟨hi, ts, cap, hts, hs, by rw [ho, Nat.add_assoc]⟩
  | iptr e nw l i off =>
    simp only [Eb, Option.some.injEq] at h; subst h
    obtain ⟨h0, h1, t, ts, blk, boff, len, cap, ht, hts, hr, rfl⟩ := hp
    exact ⟨blk, _, rfl, ⟨h0, h1, t, ts, blk, boff, len, cap, ht, hts, hr, by rw [Nat.add_assoc, Nat.add_assoc]⟩, rfl⟩
  | int k i => simp [Eb] at h
  | bool b => simp [Eb] at h
  | str x => simp [Eb] at h
  | nil e => simp [Eb] at h
  | imm e nw l => simp [Eb] at h
  | own e id => simp [Eb] at h
  | fn f caps => simp [Eb] at h
  | nilptr => simp [Eb] at h
theorem UT {T : TypeId} {f : Nat} {fd : Field} (h : PL P T f = some fd) : ∃ fs, P.underlying T = some (.struct fs) ∧ fs[f]? = some fd := by
 unfold PL at h
 split at h
 ·rename_i fs hu; exact ⟨fs, hu, by simpa using h⟩
 ·cases h
theorem cx {T : TypeId} {f : Nat} {fd : Field} {blk o : Nat} (h : PL P T f = some fd) (hs : P.cellsOf fd.type ≠ 0) :
    (Instr.fieldAt T (.pointer (some ⟨blk, o, none⟩)) f).run P w = .ok (.pointer (some ⟨blk, o + fd.offset, none⟩)) w := by
  obtain ⟨fs, hu, hf⟩ := UT h
  obtain ⟨i, hi⟩ := FA (P := P) (t := fd.type) (by omega)
  simp [Instr.fieldAt, run_underlying hu, hf, Instr.sureAddr, fieldPlace, BG hi, hs, Mt]
theorem gG {T : TypeId} {f : Nat} {fd : Field} {vs : Array Value} {cs r : List (AC0 E N)} (h : PL P T f = some fd) (hr : RelCs P n0 β σ s w cs vs.toList)
    (hsl : GM cs fd.offset (P.cellsOf fd.type) = some r) (hag : M1 P fd.type r.length = true) :
    ∃ x, (Instr.field T (.agg vs) f).run P w = .ok x w ∧ RelVal P n0 β σ s w { agg := AQ P fd.type, cs := r } x := by
  obtain ⟨fs, hu, hf⟩ := UT h
  obtain ⟨e1, e2⟩ := DC hsl
  obtain ⟨⟨d, hud⟩, hag⟩ := Lb hag
  obtain ⟨i, hi⟩ := B4 hud
  have hrr := RelCs.take (P.cellsOf fd.type) (RelCs.drop fd.offset hr)
  rw [← e1] at hrr
  cases hb : AQ P fd.type with
  | true =>
    refine ⟨.agg (vs.extract fd.offset (fd.offset + P.cellsOf fd.type)), by simp [Instr.field, run_underlying hu, hf, part, FJ hud, hb, BG hi, asAgg], ?_, _, rfl⟩
    simp only [Value.cells, Array.toList_extract, List.extract_eq_take_drop, Nat.add_sub_cancel_left]
    exact hrr
  | false =>
    have h1 : r.length = 1 := by
      rcases hag with h | h
      · rw [hb] at h; cases h
      · exact h
    have hlen := RelCs.length hrr
    rw [h1] at hlen
    match hx : (vs.toList.drop fd.offset).take (P.cellsOf fd.type), hlen with
    | [x], _ =>
      rw [hx] at hrr
      have hc : vs[fd.offset]? = some x := by
        have : ((vs.toList.drop fd.offset).take (P.cellsOf fd.type))[0]? = some x := by rw [hx]; rfl
        rw [List.getElem?_take] at this
        split at this
        · rw [List.getElem?_drop] at this; simpa using this
        · cases this
      refine ⟨x, by simp [Instr.field, run_underlying hu, hf, part, FJ hud, hb, asAgg, hc], ?_⟩
      have ho := RelCs.one hrr x (by simp)
      exact ⟨by rw [BE ho]; exact hrr, ho⟩
theorem bu {T : TypeId} {off : Nat} {vs : Array Value} {r : List (AC0 E N)} (hr : RelCs P n0 β σ s w r ((vs.toList.drop off).take (P.cellsOf T)))
    (hl : r.length = P.cellsOf T) (hag : M1 P T r.length = true) :
    ∃ x, (part T vs off).run P w = .ok x w ∧ RelVal P n0 β σ s w { agg := AQ P T, cs := r } x := by
  obtain ⟨⟨d, hud⟩, hag⟩ := Lb hag
  obtain ⟨i, hi⟩ := B4 hud
  cases hb : AQ P T with
  | true =>
    refine ⟨.agg (vs.extract off (off + P.cellsOf T)), by simp [part, FJ hud, hb, BG hi], ?_, _, rfl⟩
    simp only [Value.cells, Array.toList_extract, List.extract_eq_take_drop, Nat.add_sub_cancel_left]
    exact hr
  | false =>
    have h1 : r.length = 1 := by
      rcases hag with h | h
      · rw [hb] at h; cases h
      · exact h
    have hlen := RelCs.length hr
    rw [h1] at hlen
    match hx : (vs.toList.drop off).take (P.cellsOf T), hlen with
    | [x], _ =>
      rw [hx] at hr
      have hc : vs[off]? = some x := by
        have : ((vs.toList.drop off).take (P.cellsOf T))[0]? = some x := by rw [hx]; rfl
        rw [List.getElem?_take] at this
        split at this
        · rw [List.getElem?_drop] at this; simpa using this
        · cases this
      refine ⟨x, by simp [part, FJ hud, hb, hc], ?_⟩
      have ho := RelCs.one hr x (by simp)
      exact ⟨by rw [BE ho]; exact hr, ho⟩
theorem R9 {y : Operand} (h : Gd y = true) : ∃ k n, y = .const (.int k n) ∧ n ≠ 0 := by
 unfold Gd at h
 split at h
 ·rename_i k n; exact ⟨k, n, rfl, by simpa using h⟩
 ·cases h
theorem HG (op : BinOp) (T : TypeId) (x y : Operand) (u v : Value) (h : u.oneCell' = true) (hi : u ≠ .nilIface) : (eqGuard op T x y u v).run P w = .ok () w := by
 unfold eqGuard
 cases op <;> first | rfl | skip
 all_goals
  simp only [Bool.not_true, Bool.false_eq_true, if_false]
  cases u <;> first | rfl | (simp [Value.oneCell'] at h; done) | (exact (hi rfl).elim)
theorem gm {op : BinOp} {i j : Int} {c : Bool} (h : kE (O := std E N) op i j = some c) (T : TypeId) (k : IntKind) :
    (binOp op T (.int k i) (.int k j)).run P w = .ok (.bool c) w := by
  cases op <;> first | (cases h; done) | (have h' := Option.some.inj h; subst h'; simp [binOp, Op.intCmp, bne, iLt, iLe])
theorem ii {t : TypeId} {x y : AC0 E N} {u v : Value} {b : Bool} {d : Nat} (h : eqC (O := std E N) x y = some b) (hx : RelC P n0 β σ s w x u) (hy : RelC P n0 β σ s w y v)
    (kx : Rq (AG P t) x = true) (ky : Rq (AG P t) y = true) : (Op.equalIn (d + 1) t u v).run P w = .ok b w := by
  unfold eqC at h
  split at h
  · rename_i k i k' j
    split at h
    · rename_i hk
      have := G0.1 hk; subst this
      cases h
      have hu : u = .int k i := hx
      have hv : v = .int k j := hy
      subst hu; subst hv
      unfold Rq at kx
      split at kx
      · rename_i _ _ kk k2 i2 hlk hc
        exact run_equalIn_int w d t k _ i j (Wh hlk)
      all_goals (first | (rename_i hc; cases hc; done) | cases kx)
    · cases h
  · rename_i i j
    cases h
    have hu : u = .bool i := hx
    have hv : v = .bool j := hy
    subst hu; subst hv
    unfold Rq at kx
    split at kx
    · rename_i hc; cases hc
    · rename_i hlk hc; exact run_equalIn_bool' w d t i j (fh hlk)
    · rename_i hc; cases hc
    · cases kx
  · rename_i i j
    cases h
    have hu : u = .string i := hx
    have hv : v = .string j := hy
    subst hu; subst hv
    unfold Rq at kx
    split at kx
    · rename_i hc; cases hc
    · rename_i hc; cases hc
    · rename_i hlk hc; exact run_equalIn_string w d t i j (Wb hlk)
    · cases kx
  · cases h
theorem Bm {a b : Option (List Nat)} (h : NR a b = true) : ∃ l, a = some l ∧ b = some l := by
 unfold NR at h
 split at h
 ·rename_i x y; exact ⟨x, rfl, by rw [HN.1 h]⟩
 ·cases h
theorem fQ {x y : AC0 E N} {xs ys : List (AC0 E N)} {b : Bool} (h : IA (O := std E N) (x :: xs) (y :: ys) = some b) :
    ∃ b1 b2, eqC x y = some b1 ∧ IA xs ys = some b2 ∧ b = (b1 && b2) := by
  cases xs with
  | nil =>
    cases ys with
    | nil =>
      simp only [IA] at h
      have h2 : eqC x y = some b := h
      exact ⟨b, true, h2, rfl, by simp⟩
    | cons y2 ys =>
      simp only [IA] at h
      split at h
      · rename_i a r ha hr; cases hr
      · cases h
  | cons x2 xs =>
    cases ys with
    | nil =>
      simp only [IA] at h
      split at h
      · rename_i a r ha hr; cases hr
      · cases h
    | cons y2 ys =>
      simp only [IA] at h
      split at h
      · rename_i a r ha hr; cases h; exact ⟨a, r, ha, hr, rfl⟩
      · cases h
theorem RD : ∀ {xs1 ys1 xs2 ys2 : List (AC0 E N)} {b : Bool}, xs1.length = ys1.length → IA (O := std E N) (xs1 ++ xs2) (ys1 ++ ys2) = some b →
    ∃ b1 b2, IA xs1 ys1 = some b1 ∧ IA xs2 ys2 = some b2 ∧ b = (b1 && b2)
  | [], [], xs2, ys2, b, _, h => ⟨true, b, rfl, h, by simp⟩
  | x :: xs1, y :: ys1, xs2, ys2, b, hl, h => by
    obtain ⟨b1, b2, h1, h2, rfl⟩ := fQ h
    obtain ⟨b3, b4, h3, h4, rfl⟩ := RD (by simpa using hl) h2
    refine ⟨b1 && b3, b4, ?_, h4, by rw [Bool.and_assoc]⟩
    cases xs1 with
    | nil =>
      cases ys1 with
      | nil => cases h3; show eqC x y = some (b1 && true); rw [h1, Bool.and_true]
      | cons => simp at hl
    | cons x2 xs1 =>
      cases ys1 with
      | nil => simp at hl
      | cons y2 ys1 => simp only [IA, h1, h3]
  | [], _ :: _, _, _, _, hl, _ => by simp at hl
  | _ :: _, [], _, _, _, hl, _ => by simp at hl
theorem GA : ∀ {ts1 ts2 : List TypeId} {xs1 xs2 : List (AC0 E N)}, ts1.length = xs1.length → BF P (ts1 ++ ts2) (xs1 ++ xs2) = true → BF P ts1 xs1 = true ∧ BF P ts2 xs2 = true
 | [], ts2, [], xs2, _, h => ⟨rfl, h⟩
 | t :: ts1, ts2, x :: xs1, xs2, hl, h => by
  simp only [List.cons_append, BF] at h
  split at h
  ·rename_i hk
   obtain ⟨h1, h2⟩ := GA (by simpa using hl) h
   exact ⟨by simp only [BF, hk]; exact h1, h2⟩
  ·cases h
 | [], _, _ :: _, _, hl, _ => by simp at hl
 | _ :: _, _, [], _, hl, _ => by simp at hl
theorem B8 : ∀ {ts : List TypeId} {xs : List (AC0 E N)}, BF P ts xs = true → ts.length = xs.length
 | [], [], _ => rfl
 | t :: ts, x :: xs, h => by
  simp only [BF] at h
  split at h
  ·simp [B8 h]
  ·cases h
 | [], _ :: _, h => by simp [BF] at h
 | _ :: _, [], h => by simp [BF] at h
def Hu (P : Program) (T : TypeId) (vs : List Value) : Value := match AQ P T, vs with
 | true, vs => .agg vs.toArray
 | false, [v] => v
 | _, _ => undef
theorem Qt {T : TypeId} {off : Nat} {vs : Array Value} {d : TypeDesc} (hu : P.underlying T = some d) {l : List Value} (hl : l = (vs.toList.drop off).take (P.cellsOf T))
    (hn : l.length = P.cellsOf T) (hag : AQ P T = true ∨ P.cellsOf T = 1) : (part T vs off).run P w = .ok (Hu P T l) w := by
  obtain ⟨i, hi⟩ := B4 hu
  cases hb : AQ P T with
  | true =>
    simp only [part, Sem.run_bind, FJ hu, hb, Result.andThen_ok, if_true, BG hi, Sem.run_map, Sem.run_pure, Hu]
    congr 2
    apply Array.ext'
    rw [hl]
    simp [List.extract_eq_take_drop]
  | false =>
    have h1 : P.cellsOf T = 1 := by rcases hag with h | h; (rw [hb] at h; cases h); exact h
    match l, hn.trans h1 with
    | [x], _ =>
      have hc : vs[off]? = some x := by
        have : ((vs.toList.drop off).take (P.cellsOf T))[0]? = some x := by rw [← hl]; rfl
        rw [List.getElem?_take] at this
        split at this
        · rw [List.getElem?_drop] at this; simpa using this
        · cases this
      simp [part, FJ hu, hb, hc, Hu]
theorem Xg {n : Nat} {t : TypeId} (h : Sk P n t = true) : ∃ d ts, P.underlying t = some d ∧ AK P t = some ts ∧ (AQ P t = true ∨ ts.length = 1) := by
 cases n with
 | zero => cases h
 | succ n =>
  unfold Sk at h
  split at h
  ·rename_i hu; obtain ⟨l, h1, h2⟩ := Bm h; cases h2; exact ⟨_, _, hu, h1, .inr rfl⟩
  ·rename_i hu; obtain ⟨l, h1, h2⟩ := Bm h; cases h2; exact ⟨_, _, hu, h1, .inr rfl⟩
  ·rename_i hu; obtain ⟨l, h1, h2⟩ := Bm h; cases h2; exact ⟨_, _, hu, h1, .inr rfl⟩
  ·rename_i fs hu
   simp only [Bool.and_eq_true] at h
   obtain ⟨l, h1, h2⟩ := Bm h.2
   exact ⟨_, _, hu, h1, .inl (by unfold AQ; rw [hu])⟩
  ·rename_i k e hu
   simp only [Bool.and_eq_true] at h
   obtain ⟨l, h1, h2⟩ := Bm h.2
   exact ⟨_, _, hu, h1, .inl (by unfold AQ; rw [hu])⟩
  ·cases h
theorem RelCs.split {xs : List (AC0 E N)} {vs : List Value} (n : Nat) (h : RelCs P n0 β σ s w xs vs) : RelCs P n0 β σ s w (xs.take n) (vs.take n) ∧ RelCs P n0 β σ s w (xs.drop n) (vs.drop n) :=
 ⟨RelCs.take n h, RelCs.drop n h⟩
theorem RI : ∀ (n d : Nat) (T : TypeId) (ts : List TypeId) (xs ys : List (AC0 E N)) (vs us : List Value) (b : Bool), n ≤ d → Sk P n T = true → AK P T = some ts →
    RelCs P n0 β σ s w xs vs → RelCs P n0 β σ s w ys us → BF P ts xs = true → BF P ts ys = true → IA (O := std E N) xs ys = some b →
    (Op.equalIn d T (Hu P T vs) (Hu P T us)).run P w = .ok b w
  | 0, d, T, ts, xs, ys, vs, us, b, hd, h, _, _, _, _, _, _ => by cases h
  | n + 1, d, T, ts, xs, ys, vs, us, b, hd, h, hts, hx, hy, kx, ky, he => by
    obtain ⟨d, rfl⟩ : ∃ d', d = d' + 1 := ⟨d - 1, by omega⟩
    have lx := (B8 kx).trans (RelCs.length hx)
    have ly := (B8 ky).trans (RelCs.length hy)
    have base : ∀ (hb : AQ P T = false) (h1 : AK P T = some [T]), (Op.equalIn (d + 1) T (Hu P T vs) (Hu P T us)).run P w = .ok b w := by
      intro hb h1
      rw [hts] at h1; cases h1
      match xs, ys, vs, us, lx, ly, B8 kx, B8 ky with
      | [x], [y], [v], [u], _, _, _, _ =>
        simp only [Hu, hb]
        simp only [IA] at he
        refine ii he hx.1 hy.1 (t := T) ?_ ?_
        · simp only [BF] at kx; split at kx <;> first | assumption | cases kx
        · simp only [BF] at ky; split at ky <;> first | assumption | cases ky
    unfold Sk at h
    split at h
    · rename_i hu; obtain ⟨l, h1, h2⟩ := Bm h; cases h2; exact base (by unfold AQ; rw [hu]) h1
    · rename_i hu; obtain ⟨l, h1, h2⟩ := Bm h; cases h2; exact base (by unfold AQ; rw [hu]) h1
    · rename_i hu; obtain ⟨l, h1, h2⟩ := Bm h; cases h2; exact base (by unfold AQ; rw [hu]) h1
    · rename_i fs hu
      simp only [Bool.and_eq_true, Bool.not_eq_true'] at h
      obtain ⟨⟨⟨hst, hfa⟩, hall⟩, hcat⟩ := h
      obtain ⟨l, h1, h2⟩ := Bm hcat
      rw [hts] at h1; cases h1
      have hag : AQ P T = true := by unfold AQ; rw [hu]
      have hfo : P.fieldsOf T = fs := by unfold Program.fieldsOf; rw [hu]
      simp only [Hu, hag]
      rw [run_equalIn_struct w d T _ _ (by rw [hfo]; exact hu) hst, hfo]
      have key : ∀ (fl : List Field) (off : Nat) (tl : List TypeId) (xs ys : List (AC0 E N)) (b : Bool), SQ P off fl = true → (fl.all fun f => Sk P n f.type) = true →
          Ls (fl.map fun f => AK P f.type) = some tl → RelCs P n0 β σ s w xs (vs.drop off) → RelCs P n0 β σ s w ys (us.drop off) → BF P tl xs = true → BF P tl ys = true →
          IA (O := std E N) xs ys = some b → (Op.eqFields d vs.toArray us.toArray fl).run P w = .ok b w := by
        intro fl
        induction fl with
        | nil =>
          intro off tl xs ys b _ _ hc _ _ kx ky he
          simp only [List.map_nil, Ls] at hc; cases hc
          cases xs with
          | cons => simp [BF] at kx
          | nil =>
            cases ys with
            | cons => simp [BF] at ky
            | nil => cases he; simp [Op.eqFields]
        | cons f fl ih =>
          intro off tl xs ys b hfa hall hc hx hy kx ky he
          simp only [SQ] at hfa
          split at hfa
          · rename_i hfo
            simp only [Bool.and_eq_true, bne_iff_ne, ne_eq] at hfo
            have hoff := AA.1 hfo.1
            simp only [List.all_cons, Bool.and_eq_true] at hall
            simp only [List.map_cons] at hc
            cases heq : AK P f.type with
            | none => rw [heq] at hc; simp [Ls] at hc
            | some t1 =>
              rw [heq] at hc
              simp only [Ls] at hc
              split at hc
              · rename_i t2 ht2
                cases hc
                obtain ⟨hsz, hpos⟩ := Cb heq
                obtain ⟨dd, ts', hdu, hts', hagg⟩ := Xg hall.1
                rw [heq] at hts'; cases hts'
                have kxl := B8 kx
                have kyl := B8 ky
                simp only [List.length_append] at kxl kyl
                have ex : xs = xs.take t1.length ++ xs.drop t1.length := (List.take_append_drop _ _).symm
                have ey : ys = ys.take t1.length ++ ys.drop t1.length := (List.take_append_drop _ _).symm
                rw [ex] at kx; rw [ey] at ky; rw [ex, ey] at he
                obtain ⟨kx1, kx2⟩ := GA (by simp; omega) kx
                obtain ⟨ky1, ky2⟩ := GA (by simp; omega) ky
                obtain ⟨b1, b2, e1, e2, rfl⟩ := RD (by simp; omega) he
                obtain ⟨rx1, rx2⟩ := RelCs.split t1.length hx
                obtain ⟨ry1, ry2⟩ := RelCs.split t1.length hy
                have p1 := Qt (P := P) (w := w) (T := f.type) (off := f.offset) (vs := vs.toArray) hdu (l := (vs.drop off).take t1.length) (by rw [hoff, hsz]) (by rw [hsz, ← RelCs.length rx1]; simp; omega) (by rw [hsz]; exact hagg)
                have p2 := Qt (P := P) (w := w) (T := f.type) (off := f.offset) (vs := us.toArray) hdu (l := (us.drop off).take t1.length) (by rw [hoff, hsz]) (by rw [hsz, ← RelCs.length ry1]; simp; omega) (by rw [hsz]; exact hagg)
                have p3 := RI n d f.type t1 _ _ _ _ b1 (by omega) hall.1 heq rx1 ry1 kx1 ky1 e1
                rw [List.drop_drop] at rx2 ry2
                have p4 := ih (off + P.cellsOf f.type) t2 _ _ b2 hfa hall.2 ht2 (by rw [hsz]; exact rx2) (by rw [hsz]; exact ry2) kx2 ky2 e2
                simp only [Op.eqFields, ne_eq, hfo.2, not_false_eq_true, if_true, Sem.run_bind, p1, p2, p3, Result.andThen_ok]
                cases b1
                · simp
                · simpa using p4
              · cases hc
          · cases hfa
      have := key fs.toList 0 ts xs ys b hfa hall h2 (by simpa using hx) (by simpa using hy) kx ky he
      exact this
    · rename_i k e hu
      simp only [Bool.and_eq_true] at h
      obtain ⟨hek, hcat⟩ := h
      obtain ⟨l, h1, h2⟩ := Bm hcat
      rw [hts] at h1; cases h1
      have hag : AQ P T = true := by unfold AQ; rw [hu]
      obtain ⟨dd, te, hdu, hte, hagg⟩ := Xg hek
      obtain ⟨hsz, hpos⟩ := Cb hte
      obtain ⟨i, hi⟩ := B4 hdu
      simp only [Hu, hag]
      rw [run_equalIn_array w d _ _ hu hi, List.range_eq_range']
      rw [hte] at h2
      simp only [Option.map_some, Option.some.injEq] at h2
      have key : ∀ (k q : Nat) (xs ys : List (AC0 E N)) (b : Bool), RelCs P n0 β σ s w xs (vs.drop (q * te.length)) → RelCs P n0 β σ s w ys (us.drop (q * te.length)) →
          BF P (DN k te) xs = true → BF P (DN k te) ys = true → IA (O := std E N) xs ys = some b →
          (Op.eqItems d e (P.cellsOf e) vs.toArray us.toArray (List.range' q k)).run P w = .ok b w := by
        intro k
        induction k with
        | zero =>
          intro q xs ys b _ _ kx ky he
          simp only [DN] at kx ky
          cases xs with
          | cons => simp [BF] at kx
          | nil =>
            cases ys with
            | cons => simp [BF] at ky
            | nil => cases he; simp [Op.eqItems]
        | succ k ih =>
          intro q xs ys b hx hy kx ky he
          simp only [DN] at kx ky
          have kxl := B8 kx
          have kyl := B8 ky
          simp only [List.length_append] at kxl kyl
          have ex : xs = xs.take te.length ++ xs.drop te.length := (List.take_append_drop _ _).symm
          have ey : ys = ys.take te.length ++ ys.drop te.length := (List.take_append_drop _ _).symm
          rw [ex] at kx; rw [ey] at ky; rw [ex, ey] at he
          obtain ⟨kx1, kx2⟩ := GA (by simp; omega) kx
          obtain ⟨ky1, ky2⟩ := GA (by simp; omega) ky
          obtain ⟨b1, b2, e1, e2, rfl⟩ := RD (by simp; omega) he
          obtain ⟨rx1, rx2⟩ := RelCs.split te.length hx
          obtain ⟨ry1, ry2⟩ := RelCs.split te.length hy
          have p1 := Qt (P := P) (w := w) (T := e) (off := q * P.cellsOf e) (vs := vs.toArray) hdu (l := (vs.drop (q * te.length)).take te.length) (by rw [hsz]) (by rw [hsz, ← RelCs.length rx1]; simp; omega) (by rw [hsz]; exact hagg)
          have p2 := Qt (P := P) (w := w) (T := e) (off := q * P.cellsOf e) (vs := us.toArray) hdu (l := (us.drop (q * te.length)).take te.length) (by rw [hsz]) (by rw [hsz, ← RelCs.length ry1]; simp; omega) (by rw [hsz]; exact hagg)
          have p3 := RI n d e te _ _ _ _ b1 (by omega) hek hte rx1 ry1 kx1 ky1 e1
          rw [List.drop_drop] at rx2 ry2
          have hq : q * te.length + te.length = (q + 1) * te.length := by rw [Nat.add_mul, Nat.one_mul]
          rw [hq] at rx2 ry2
          have p4 := ih (q + 1) _ _ b2 rx2 ry2 kx2 ky2 e2
          simp only [List.range'_succ, Op.eqItems, Sem.run_bind, p1, p2, p3, Result.andThen_ok]
          cases b1
          · simp
          · simpa using p4
      rw [← h2] at kx ky
      exact key k 0 xs ys b (by simpa using hx) (by simpa using hy) kx ky he
    · cases h
end
end Go.Px
end
section
namespace Go.Px
section
variable {E : Env} {N : Nat} {P : Program} {n0 : Nz} {nt : Nat} {β : Nat → Option Nat} {σ : Nat → Option (Nat × Nat)} {s : St0 E N} {a : Act} {w : World}
theorem Eg {α : Type} : ∀ {l : List α} {off : Nat} {r l' : List α}, CW l off r = some l' → l' = l.take off ++ r ++ l.drop (off + r.length) ∧ (r = [] ∨ off + r.length ≤ l.length)
 | l, off, [], l', h => by simp only [CW] at h; cases h; simp
 | [], off, y :: ys, l', h => by simp [CW] at h
 | x :: l, 0, y :: ys, l', h => by
  simp only [CW, Option.map_eq_some_iff] at h
  obtain ⟨m, hm, rfl⟩ := h
  obtain ⟨h1, h2⟩ := Eg hm
  refine ⟨by rw [h1]; simp [Nat.add_comm], .inr ?_⟩
  rcases h2 with rfl | h2
  ·simp
  ·simp at h2 ⊢; omega
 | x :: l, n + 1, y :: ys, l', h => by
  simp only [CW, Option.map_eq_some_iff] at h
  obtain ⟨m, hm, rfl⟩ := h
  obtain ⟨h1, h2⟩ := Eg hm
  refine ⟨by rw [h1]; simp only [List.take_succ_cons, List.cons_append, List.length_cons, List.cons.injEq, true_and]; rw [show n + 1 + (ys.length + 1) = n + (ys.length + 1) + 1 by omega, List.drop_succ_cons], .inr ?_⟩
  rcases h2 with h2 | h2
  ·cases h2
  ·simp at h2 ⊢; omega
theorem J3 {cs r cs' : List (AC0 E N)} {off : Nat} {vs us : List Value} (h : CW cs off r = some cs') (hc : RelCs P n0 β σ s w cs vs) (hr : RelCs P n0 β σ s w r us) :
    RelCs P n0 β σ s w cs' (vs.take off ++ us ++ vs.drop (off + us.length)) := by
  obtain ⟨rfl, _⟩ := Eg h
  have hl := RelCs.length hr
  refine RelCs.append (RelCs.append (RelCs.take off hc) hr) ?_
  rw [hl]
  exact RelCs.drop _ hc
theorem YX {cs r cs' : List (AC0 E N)} {off n : Nat} (h : CW cs off r = some cs') (hn : n ∈ AB cs') : n ∈ AB cs ∨ n ∈ AB r := by
 obtain ⟨rfl, _⟩ := Eg h
 rw [A0] at hn
 obtain ⟨c, hc, hm⟩ := hn
 rw [List.mem_append, List.mem_append] at hc
 rcases hc with (hc | hc) | hc
 ·exact .inl (A0.2 ⟨c, List.mem_of_mem_take hc, hm⟩)
 ·exact .inr (A0.2 ⟨c, hc, hm⟩)
 ·exact .inl (A0.2 ⟨c, List.mem_of_mem_drop hc, hm⟩)
theorem ar {α : Type} (l : List α) (k : Nat) (v : α) (rest : List α) (h : k + (rest.length + 1) ≤ l.length) :
    (l.set k v).take (k + 1) ++ rest ++ (l.set k v).drop (k + 1 + rest.length) = l.take k ++ (v :: rest) ++ l.drop (k + (rest.length + 1)) := by
  have h1 : (l.set k v).take (k + 1) = l.take k ++ [v] := by
    apply List.ext_getElem?
    intro j
    simp only [List.getElem?_take, List.getElem?_set, List.getElem?_append, List.length_take]
    by_cases hj : j < k
    · have : ¬ k = j := by omega
      simp [hj, this, show j < k + 1 by omega, show j < min k l.length by omega]
    · by_cases hjk : j = k
      · subst hjk
        have : j < l.length := by omega
        simp [this, show ¬ j < min j l.length by omega, show j - min j l.length = 0 by omega]
      · have h2 : ¬ j < k + 1 := by omega
        have h3 : min k l.length = k := by omega
        simp [h2, h3, hj]
        omega
  have h2 : (l.set k v).drop (k + 1 + rest.length) = l.drop (k + (rest.length + 1)) := by
    apply List.ext_getElem?
    intro j
    simp only [List.getElem?_drop, List.getElem?_set]
    have : ¬ k = k + 1 + rest.length + j := by omega
    simp [this]
    congr 1
    omega
  rw [h1, h2]
  simp
theorem ZR (off : Nat) : ∀ (xs : List Value) (k : Nat) (cs : Array Value), off + k + xs.length ≤ cs.size →
    ((xs.zipIdx k).foldl (fun cs (x : Value × Nat) => cs.setIfInBounds (off + x.2) x.1) cs).toList = cs.toList.take (off + k) ++ xs ++ cs.toList.drop (off + k + xs.length)
  | [], k, cs, h => by simp
  | x :: xs, k, cs, h => by
    simp only [List.zipIdx_cons, List.foldl_cons]
    rw [ZR off xs (k + 1) _ (by simp at h ⊢; omega)]
    simp only [Array.toList_setIfInBounds]
    have := ar cs.toList (off + k) x xs (by simp at h ⊢; omega)
    simpa [Nat.add_assoc] using this
theorem fD (off : Nat) (v cells : Array Value) (h : off + v.size ≤ cells.size) :
    (v.zipIdx.foldl (fun cs (x : Value × Nat) => cs.setIfInBounds (off + x.2) x.1) cells).toList = cells.toList.take off ++ v.toList ++ cells.toList.drop (off + v.size) := by
  rw [← Array.foldl_toList]
  have := ZR off v.toList 0 cells (by simpa using h)
  simpa [Array.toList_zipIdx] using this
theorem S7 (hs : Sim P n0 nt β σ s a w) {ctx : List (Nat × Bool)} (hf : Facts a ctx) {place : Nat → Option (Nat × TypeId)} {place' : Nat → Option (Nat × Nat)}
    (hpl : ∀ i off T, place i = some (off, T) → place' i = some (off, P.cellsOf T)) : ∀ {parts : List (Nat × Operand)} {cs cs' : List (AC0 E N)} {cells : Array Value} {m m' : Nat},
    RM.run s (VI P place ctx parts cs) m = .ok (cs', m') → RelCs P n0 β σ s w cs cells.toList →
    ∃ cells', Instr.fill place' cells (parts.map fun (i, x) => (i, a.eval x)) = some cells' ∧ RelCs P n0 β σ s w cs' cells'.toList ∧ cs'.length = cs.length ∧
      ∀ n, Fresh a s n → n ∉ AB cs → n ∉ AB cs'
  | [], cs, cs', cells, m, m', h, hr => by cases RM.ret_ok h; exact ⟨cells, rfl, hr, rfl, fun n _ h => h⟩
  | (i, x) :: parts, cs, cs', cells, m, m', h, hr => by
    simp only [VI] at h
    split at h
    · exact (RM.fail_ok h).elim
    · rename_i off T hp
      obtain ⟨v, m1, h1, h2⟩ := RM.bind_ok h
      obtain ⟨u, m2, h3, h4⟩ := RM.bind_ok h2
      have hg := RM.guard_ok h3
      simp only [Bool.and_eq_true] at hg
      have hsz := AA.1 hg.1
      have hpos := BL.1 hg.2
      obtain ⟨hv, hn⟩ := Jd hs hf h1
      split at h4
      · rename_i cs2 hcs2
        have hlen := RelCs.length hv.1
        have hvs : (a.eval x).cells.size = P.cellsOf T := by rw [← hsz, hlen]; simp
        obtain ⟨e1, e2⟩ := Eg hcs2
        have hcl := RelCs.length hr
        have hrr := J3 hcs2 hr hv.1
        simp only [List.map_cons, Instr.fill, hpl i off T hp, hvs]
        by_cases hfit : off + P.cellsOf T ≤ cells.size
        · have hne : ¬ (P.cellsOf T ≠ P.cellsOf T ∨ off + P.cellsOf T > cells.size) := by omega
          have hfc := fD off (a.eval x).cells cells (by omega)
          have hrr' : RelCs P n0 β σ s w cs2 ((a.eval x).cells.zipIdx.foldl (fun cs (x : Value × Nat) => cs.setIfInBounds (off + x.2) x.1) cells).toList := by
            rw [hfc]; simpa using hrr
          obtain ⟨cells', f1, f2, f3, f4⟩ := S7 hs hf hpl h4 hrr'
          refine ⟨cells', ?_, f2, ?_, fun n hf hc => f4 n hf (fun hx => (YX hcs2 hx).elim hc (hn n hf))⟩
          · simpa [hfit, Nat.not_lt.2 hfit] using f1
          · rw [f3, e1]
            simp
            have : v.cs.length = P.cellsOf T := hsz
            have : cells.toList.length = cells.size := by simp
            omega
        · exfalso
          rcases e2 with h0 | h0
          · rw [h0] at hpos; simp at hpos
          · have : cells.toList.length = cells.size := by simp
            omega
      · exact (RM.fail_ok h4).elim
theorem Lc {T : TypeId} {z : Val (std E N)} (h : SR P T = some z) : ∃ i v, P.info? T = some i ∧ i.zero = some v ∧ (zeroValue T).run P w = .ok v w ∧
    RelVal P n0 β σ s w z v ∧ AB z.cs = [] ∧ ∀ u ∈ v.cells.toList, u.oneCell' = true := by
  unfold SR at h
  split at h
  · rename_i i hi
    split at h
    · rename_i v hv
      obtain ⟨r, n, o⟩ := Xu (n0 := n0) (β := β) (σ := σ) (s := s) (w := w) h
      exact ⟨i, v, hi, hv, by simp [zeroValue, typeInfo, hi, hv], r, n, o⟩
    · cases h
  · cases h
theorem Ai {op : BinOp} {T : TypeId} {x y : Operand} {u v r : Value} (h1 : (eqGuard op T x y u v).run P w = .ok () w) (h2 : (binOp op T u v).run P w = .ok r w) :
    (do eqGuard op T x y u v; binOp op T u v : Sem Value).run P w = .ok r w := by
  simp only [Sem.run_bind, h1, Result.andThen_ok, h2]
theorem gj {op : BinOp} {T yT : TypeId} {x y : Operand} {p q : Val (std E N)} {u v : Value} {as : List Bool} {r : AV (std E N)} {fr : List (Nat × Option (HEnt (std E N)))} {m m' : Nat}
    (hp : RelVal P n0 β σ s w p u) (hq : RelVal P n0 β σ s w q v) (hy : ∀ k n, y = .const (.int k n) → v = .int k n)
    (h : RM.run s (eY P op T y p q) m = .ok ((as, r, fr), m')) (has : ∀ b ∈ as, b = true) :
    ∃ z, (do eqGuard op T x y u v; binOp op T u v : Sem Value).run P w = .ok z w ∧ RelAV P n0 β σ s w r z ∧ r.names = [] ∧ fr = [] := by
  obtain ⟨pa, pc⟩ := p
  obtain ⟨qa, qc⟩ := q
  unfold eY at h
  simp only at h
  split at h
  ·
    rename_i k i k' j
    have hu : u = .int k i := D5 hp
    have hv : v = .int k' j := D5 hq
    split at h
    · exact (RM.fail_ok h).elim
    · rename_i hk
      have := G0.1 hk
      subst this
      subst hu; subst hv
      have hg : ∀ op, (eqGuard op T x y (.int k i) (.int k j)).run P w = .ok () w := fun op => HG op T x y _ _ rfl (by simp)
      split at h
      · cases RM.ret_ok h; exact ⟨_, Ai (hg _) (by simp [binOp, Op.intArith]), Aj rfl, rfl, rfl⟩
      · cases RM.ret_ok h; exact ⟨_, Ai (hg _) (by simp [binOp, Op.intArith]), Aj rfl, rfl, rfl⟩
      · cases RM.ret_ok h; exact ⟨_, Ai (hg _) (by simp [binOp, Op.intArith]), Aj rfl, rfl, rfl⟩
      · have hj : (j : Int) ≠ 0 := by
          cases hn : Gd y with
          | true => obtain ⟨k2, n2, rfl, hn2⟩ := R9 hn; have := hy _ _ rfl; cases this; exact hn2
          | false =>
            rw [hn] at h
            cases RM.ret_ok h
            have := has _ (List.mem_singleton.2 rfl)
            have h2 : (!((j : Int) == (0 : Int))) = true := this
            intro h0; rw [h0] at h2; simp at h2
        have hz : (binOp .quo T (.int k i) (.int k j)).run P w = .ok (.int k (k.wrap (Int.tdiv i j))) w := by simp [binOp, Op.intDiv, hj]
        cases hn : Gd y with
        | true => rw [hn] at h; cases RM.ret_ok h; exact ⟨_, Ai (hg _) hz, Aj rfl, rfl, rfl⟩
        | false => rw [hn] at h; cases RM.ret_ok h; exact ⟨_, Ai (hg _) hz, Aj rfl, rfl, rfl⟩
      · have hj : (j : Int) ≠ 0 := by
          cases hn : Gd y with
          | true => obtain ⟨k2, n2, rfl, hn2⟩ := R9 hn; have := hy _ _ rfl; cases this; exact hn2
          | false =>
            rw [hn] at h
            cases RM.ret_ok h
            have := has _ (List.mem_singleton.2 rfl)
            have h2 : (!((j : Int) == (0 : Int))) = true := this
            intro h0; rw [h0] at h2; simp at h2
        have hz : (binOp .rem T (.int k i) (.int k j)).run P w = .ok (.int k (Int.tmod i j)) w := by simp [binOp, Op.intDiv, hj]
        cases hn : Gd y with
        | true => rw [hn] at h; cases RM.ret_ok h; exact ⟨_, Ai (hg _) hz, Aj rfl, rfl, rfl⟩
        | false => rw [hn] at h; cases RM.ret_ok h; exact ⟨_, Ai (hg _) hz, Aj rfl, rfl, rfl⟩
      · split at h
        · rename_i c hc
          cases RM.ret_ok h
          exact ⟨_, Ai (hg _) (gm hc T k), Aj rfl, rfl, rfl⟩
        · exact (RM.fail_ok h).elim
  ·
    rename_i x1 y1
    have hu : u = .string x1 := D5 hp
    have hv : v = .string y1 := D5 hq
    subst hu; subst hv
    have hg : ∀ op, (eqGuard op T x y (.string x1) (.string y1)).run P w = .ok () w := fun op => HG op T x y _ _ rfl (by simp)
    split at h
    · cases RM.ret_ok h; exact ⟨_, Ai (hg _) (by simp only [binOp_string_eql, Sem.run_pure]), Aj rfl, rfl, rfl⟩
    · cases RM.ret_ok h; exact ⟨_, Ai (hg _) (by simp only [binOp_string_neq, Sem.run_pure]), Aj rfl, rfl, rfl⟩
    · cases RM.ret_ok h; exact ⟨_, Ai (hg _) (by simp only [binOp_string_lss, Sem.run_pure]), Aj rfl, rfl, rfl⟩
    · cases RM.ret_ok h
      have h1 := has _ List.mem_cons_self
      have h2 := has _ (List.mem_cons_of_mem _ List.mem_cons_self)
      have h1 := of_decide_eq_true (show decide _ = true from h1)
      have h2 := of_decide_eq_true (show decide _ = true from h2)
      have h3 : ((ByteArray.size x1 : Nat) : Int) ≤ 17592186044416 := h1.2.1
      have h4 : ((ByteArray.size y1 : Nat) : Int) ≤ 17592186044416 := h2.2.1
      refine ⟨_, Ai (hg _) ?_, Aj rfl, rfl, rfl⟩
      have h5 : ¬ (((ByteArray.size x1 + ByteArray.size y1 : Nat) : Int) > IntKind.i64.max) := by
        simp only [IntKind.max, IntKind.signed, IntKind.bits]; simp; omega
      simp [binOp, Op.stringOp]
      omega
    · exact (RM.fail_ok h).elim
  ·
    rename_i hni hns
    have gen : ∀ (b : Bool) (ts : List TypeId), AK P T = some ts → (pa == AQ P T && qa == AQ P T && Sk P CF T && !P.eqGuardType P.depth T && BF P ts pc && BF P ts qc) = true →
        IA (O := std E N) pc qc = some b → ∃ z : Unit, ((do eqGuard .eql T x y u v; binOp .eql T u v : Sem Value).run P w = .ok (.bool b) w ∧ (do eqGuard .neq T x y u v; binOp .neq T u v : Sem Value).run P w = .ok (.bool !b) w) ∧ z = () := by
      intro b ts hts hc he
      simp only [Bool.and_eq_true, beq_iff_eq, Bool.not_eq_true'] at hc
      obtain ⟨⟨⟨⟨⟨h1, h2⟩, h3⟩, h4⟩, h5⟩, h6⟩ := hc
      refine ⟨(), ?_, rfl⟩
      have heq := RI (P := P) (n0 := n0) (β := β) (σ := σ) (s := s) (w := w) CF 10000 T ts pc qc u.cells.toList v.cells.toList b (by simp [CF]) h3 hts hp.1 hq.1 h5 h6 he
      cases hag : AQ P T with
      | true =>
        rw [hag] at h1 h2
        subst h1; subst h2
        obtain ⟨us, rfl, _⟩ := LM hp
        obtain ⟨vs, rfl, _⟩ := LM hq
        have hm : ∀ xs : Array Value, Hu P T (Value.agg xs).cells.toList = .agg xs := fun xs => by simp [Hu, hag, Value.cells]
        rw [hm, hm] at heq
        exact ⟨Ai (run_eqGuard_agg w _ T x y us vs h4) (by rw [run_eql_struct, heq]; rfl), Ai (run_eqGuard_agg w _ T x y us vs h4) (by rw [run_neq_struct, heq]; rfl)⟩
      | false =>
        rw [hag] at h1 h2
        subst h1; subst h2
        have ou := hp.2
        have ov := hq.2
        simp only at ou ov
        have lp := RelCs.length hp.1
        have lq := RelCs.length hq.1
        rw [BE ou] at lp
        rw [BE ov] at lq
        match pc, qc, lp, lq with
        | [c1], [c2], _, _ =>
          have r1 := D5 hp
          have r2 := D5 hq
          have he2 : eqC (O := std E N) c1 c2 = some b := he
          unfold eqC at he2
          split at he2
          · exact (hni _ _ _ _ rfl rfl rfl rfl).elim
          · rename_i i j _ _
            cases he2
            have hu : u = .bool i := r1
            have hv : v = .bool j := r2
            subst hu; subst hv
            have hm : ∀ c : Bool, Hu P T (Value.bool c).cells.toList = .bool c := fun c => by simp [Hu, hag, Value.cells]
            rw [hm, hm] at heq
            exact ⟨Ai (HG _ T x y _ _ rfl (by simp)) (by simp only [binOp, Op.equal, Op.maxDepth, Sem.run_bind, heq, Result.andThen_ok, Sem.run_pure]),
              Ai (HG _ T x y _ _ rfl (by simp)) (by simp only [binOp, Op.equal, Op.maxDepth, Sem.run_bind, heq, Result.andThen_ok, Sem.run_pure])⟩
          · exact (hns _ _ rfl rfl rfl rfl).elim
          · cases he2
    split at h
    · exact (RM.fail_ok h).elim
    · rename_i ts hts
      split at h
      · rename_i b hc he
        cases RM.ret_ok h
        obtain ⟨z, hz, rfl⟩ := gen b ts hts hc he
        exact ⟨_, hz.1, Aj rfl, rfl, rfl⟩
      · rename_i b hc he
        cases RM.ret_ok h
        obtain ⟨z, hz, rfl⟩ := gen b ts hts hc he
        exact ⟨_, hz.2, Aj rfl, rfl, rfl⟩
      · exact (RM.fail_ok h).elim
theorem HR (k : IntKind) (i : Int) : (asIntOf (.int k i)).run P w = .ok (k, i) w := rfl
theorem Yn (hs : Sim P n0 nt β σ s a w) {T : TypeId} {p : AC0 E N} {ix : Operand} {v : Value} {k : IntKind} {i : Int} {as : List Bool} {r : AV (std E N)}
    {fr : List (Nat × Option (HEnt (std E N)))} {m m' : Nat} (hp : RelC P n0 β σ s w p v) (hc : ∀ k' n, ix = .const (.int k' n) → i = n)
    (h : RM.run s (RW P T p ix i) m = .ok ((as, r, fr), m')) (has : ∀ b ∈ as, b = true) :
    ∃ z, (Instr.indexAt T v (.int k i)).run P w = .ok z w ∧ RelAV P n0 β σ s w r z ∧ (∀ n ∈ r.names, n ∈ p.names) ∧ fr = [] := by
  unfold RW at h
  split at h
  ·
    rename_i n e hu
    obtain ⟨_, m1, hg, h2⟩ := RM.bind_ok h
    clear h
    obtain ⟨ti, hti⟩ := FA (BL.1 (RM.guard_ok hg))
    have run : ∀ (blk o : Nat), v = .pointer (some ⟨blk, o, none⟩) → 0 ≤ i → i < (n : Int) →
        (Instr.indexAt T v (.int k i)).run P w = .ok (.pointer (some ⟨blk, o + i.toNat * P.cellsOf e, none⟩)) w := by
      intro blk o hv h0 h1
      subst hv
      simp [Instr.indexAt, HR, run_underlying hu, Instr.sureAddr, h0, h1, BG hti, Mt]
    split at h2
    · rename_i k' c
      have hic := hc _ _ rfl
      subst hic
      split at h2
      · rename_i p' hd hp'
        cases RM.ret_ok h2
        have hb : 0 ≤ i ∧ i < (n : Int) := of_decide_eq_true hd
        obtain ⟨blk, o, hv, hr, hn⟩ := YV hp' hp
        exact ⟨_, run blk o hv hb.1 hb.2, Aj hr, fun n hm => by simpa [AV.names, one, AB, hn] using hm, rfl⟩
      · exact (RM.fail_ok h2).elim
    · split at h2
      · rename_i b off
        cases RM.ret_ok h2
        have h1 : decide (0 ≤ i ∧ i < (n : Int)) = true := has _ List.mem_cons_self
        have hb : 0 ≤ i ∧ i < (n : Int) := of_decide_eq_true h1
        obtain ⟨blk, hv, hk⟩ := hp
        exact ⟨_, run blk off hv hb.1 hb.2, Aj ⟨hb.1, hb.2, blk, rfl, hk⟩, fun n hm => by simpa [AV.names, one, AB, AC.names] using hm, rfl⟩
      · exact (RM.fail_ok h2).elim
  ·
    rename_i e hu
    have run : ∀ (blk o len cap : Nat) (ts : List TypeId), AK P e = some ts → v = .slice (some ⟨blk, o, none⟩) len cap → 0 ≤ i → i < (len : Int) →
        (Instr.indexAt T v (.int k i)).run P w = .ok (.pointer (some ⟨blk, o + i.toNat * ts.length, none⟩)) w := by
      intro blk o len cap ts hts hv h0 h1
      obtain ⟨hsz, hpos⟩ := Cb hts
      obtain ⟨ti, hti⟩ := FA (P := P) (t := e) (by omega)
      subst hv
      simp [Instr.indexAt, HR, run_underlying hu, h0, h1, BG hti, Mt, hsz]
    split at h
    · rename_i e' id
      obtain ⟨⟨eb, l, nb⟩, m1, hrow, h2⟩ := RM.bind_ok h
      obtain ⟨_, m2, hg, h3⟩ := RM.bind_ok h2
      clear h h2
      have he := AA.1 (RM.guard_ok hg)
      subst he
      cases RM.ret_ok h3
      obtain ⟨m3, hrow⟩ := RM.h_ok hrow
      cases hh : s.getH id with
      | none => rw [hh] at hrow; exact (RM.fail_ok hrow).elim
      | some e1 =>
        rw [hh] at hrow
        have hrr := RM.ret_ok hrow
        simp only [Prod.mk.injEq] at hrr
        obtain ⟨rfl, rfl, rfl⟩ := hrr
        have h1 : decide (0 ≤ i ∧ i < ((List.length e1.l : Nat) : Int)) = true := has _ List.mem_cons_self
        have hb : 0 ≤ i ∧ i < ((List.length e1.l : Nat) : Int) := of_decide_eq_true h1
        obtain ⟨_, hk⟩ := hp
        obtain ⟨he1, ho⟩ := hk e1 hh
        obtain ⟨t, ts, ht, hts, hrl, hm⟩ := hs.M.H id e1 hh
        rcases ho with ⟨blk, cap, hsg, hv⟩ | ⟨_, hz, _⟩
        · rw [he1] at hts
          refine ⟨_, run blk 0 _ cap ts hts hv hb.1 hb.2, Aj ⟨hb.1, blk, _, rfl, fun h2 hh2 => ?_⟩, fun n hm => by simpa [AV.names, one, AB, AC.names] using hm, rfl⟩
          rw [hh] at hh2; cases hh2
          exact ⟨hb.2, ts, cap, by rw [he1]; exact hts, hsg, by omega⟩
        · rw [hz] at hb; omega
    · rename_i e' nw l
      obtain ⟨_, m2, hg, h3⟩ := RM.bind_ok h
      clear h
      have he := AA.1 (RM.guard_ok hg)
      subst he
      cases RM.ret_ok h3
      have h1 : decide (0 ≤ i ∧ i < ((List.length l : Nat) : Int)) = true := has _ List.mem_cons_self
      have hb : 0 ≤ i ∧ i < ((List.length l : Nat) : Int) := of_decide_eq_true h1
      obtain ⟨t, ht, hrep⟩ := hp
      have hrep2 := hrep
      cases hrep with
      | @sl _ e2 ts a len cap _ vv ht' hts hl hr hc' hm hv =>
        rw [ht] at ht'; cases ht'
        rcases hm with hm | ⟨b, off, ha, hb1, hlt, hcell⟩
        · rw [hm] at hl; rw [hl] at hb; omega
        · subst ha
          refine ⟨_, run b off len cap ts hts rfl hb.1 (by rw [← hl]; exact hb.2), Aj ⟨hb.1, hb.2, t, ts, b, off, len, cap, ht, hts, hrep2, by simp⟩, fun n hm => by simp [AV.names, one, AB, AC.names] at hm, rfl⟩
    · cases RM.ret_ok h
      have h1 : (false : Bool) = true := has _ List.mem_cons_self
      cases h1
    · exact (RM.fail_ok h).elim
  · exact (RM.fail_ok h).elim
theorem eI {T : TypeId} {p : Val (std E N)} {ix : Operand} {v : Value} {k : IntKind} {i : Int} {as : List Bool} {r : AV (std E N)}
    {fr : List (Nat × Option (HEnt (std E N)))} {m m' : Nat} (hp : RelVal P n0 β σ s w p v) (hc : ∀ k' n, ix = .const (.int k' n) → i = n)
    (h : RM.run s (Yl P T p ix i) m = .ok ((as, r, fr), m')) (has : ∀ b ∈ as, b = true) :
    ∃ z, (Instr.index T v (.int k i)).run P w = .ok z w ∧ RelAV P n0 β σ s w r z ∧ (∀ n ∈ r.names, n ∈ AB p.cs) ∧ fr = [] := by
  obtain ⟨pa, pc⟩ := p
  unfold Yl at h
  simp only at h
  split at h
  ·
    rename_i x hu
    cases RM.ret_ok h
    have hv : v = .string x := D5 hp
    subst hv
    have h1 : decide (0 ≤ i ∧ i < ((ByteArray.size x : Nat) : Int)) = true := has _ List.mem_cons_self
    have hb : 0 ≤ i ∧ i < ((ByteArray.size x : Nat) : Int) := of_decide_eq_true h1
    have hlt : i.toNat < ByteArray.size x := by omega
    refine ⟨_, ?_, Aj rfl, fun n hm => by simp [AV.names, one, AB, AC.names] at hm, rfl⟩
    have hg : x[i.toNat]? = some x[i.toNat] := ByteArray.getElem?_lt' x i.toNat hlt
    have hdat : x.data.toList.getD i.toNat 0 = x[i.toNat] := by
      have : i.toNat < x.data.toList.length := by simpa using hlt
      simp [List.getD, List.getElem?_eq_getElem this]
      rfl
    simp only [Instr.index, Sem.run_bind, HR, Result.andThen_ok, run_underlying hu, hb.1, if_true, hg, Sem.run_pure, NB, hdat]
  ·
    rename_i n e hu
    obtain ⟨vs, rfl, hr⟩ := LM hp
    split at h
    · rename_i k' c
      have hic := hc _ _ rfl
      subst hic
      split at h
      · rename_i r' hd hsl
        obtain ⟨_, m1, hg, h2⟩ := RM.bind_ok h
        clear h
        have hag := RM.guard_ok hg
        cases RM.ret_ok h2
        have hb : 0 ≤ i ∧ i < (n : Int) := of_decide_eq_true hd
        obtain ⟨e1, e2⟩ := DC hsl
        have hrr := RelCs.take (P.cellsOf e) (RelCs.drop (i.toNat * P.cellsOf e) hr)
        rw [← e1] at hrr
        obtain ⟨⟨d, hud⟩, _⟩ := Lb hag
        obtain ⟨ti, hti⟩ := B4 hud
        obtain ⟨z, hz, hrel⟩ := bu hrr e2 hag
        exact ⟨z, by simp [Instr.index, HR, run_underlying hu, hb.1, hb.2, BG hti, hz], hrel, fun n hm => DZ hsl hm, rfl⟩
      · exact (RM.fail_ok h).elim
    · split at h
      · exact (RM.fail_ok h).elim
      · rename_i n
        split at h
        · rename_i r' hpk
          obtain ⟨_, m1, hg, h2⟩ := RM.bind_ok h
          clear h
          have hag := RM.guard_ok hg
          cases RM.ret_ok h2
          have h1 : decide (0 ≤ i ∧ i < ((n + 1 : Nat) : Int)) = true := has _ List.mem_cons_self
          have hb : 0 ≤ i ∧ i < ((n + 1 : Nat) : Int) := of_decide_eq_true h1
          have hrr := Tx (P := P) (n0 := n0) (β := β) (σ := σ) (s := s) (w := w) (fun k => (vs.toList.drop (k * P.cellsOf e)).take (P.cellsOf e)) hpk hb.1 (by omega)
            (fun k c hk hc => by
              have := RelCs.take (P.cellsOf e) (RelCs.drop (k * P.cellsOf e) hr)
              rwa [← (DC hc).1] at this)
          have e2 : r'.length = P.cellsOf e := UF (fun k c hc => (DC hc).2) hpk
          obtain ⟨⟨d, hud⟩, _⟩ := Lb hag
          obtain ⟨ti, hti⟩ := B4 hud
          obtain ⟨z, hz, hrel⟩ := bu hrr e2 hag
          have hb2 : i < (n : Int) + 1 := by omega
          refine ⟨z, by simp [Instr.index, HR, run_underlying hu, hb.1, hb2, BG hti, hz], hrel, fun q hm => ?_, rfl⟩
          obtain ⟨c, hc, hmc⟩ := V1 hpk q hm
          exact DZ hc hmc
        · exact (RM.fail_ok h).elim
  · exact (RM.fail_ok h).elim
theorem RJ {ctx : List (Nat × Bool)} {x : Option Operand} (h : Ud x = true) : x = none ∨ ∃ k, x = some (.const (.int k 0)) := by
 unfold Ud at h
 split at h
 ·exact .inl rfl
 ·rename_i k n; exact .inr ⟨k, by rw [of_decide_eq_true h]⟩
 ·cases h
theorem Sz (hs : Sim P n0 nt β σ s a w) {ctx : List (Nat × Bool)} (hf : Facts a ctx) {d i : Int} {x : Option Operand} {m m' : Nat} (h : RM.run s (YQ (O := std E N) ctx d x) m = .ok (i, m')) :
    (x = none ∧ i = d) ∨ ∃ o k, x = some o ∧ a.eval o = .int k i := by
  cases x with
  | none => exact .inl ⟨rfl, (RM.ret_ok h).symm⟩
  | some o => obtain ⟨k, hk⟩ := YM hs hf h; exact .inr ⟨o, k, rfl, hk⟩
theorem Iy {k : IntKind} {i : Int} {y : Nat} {code : BoundsCode} (h0 : 0 ≤ i) (h1 : i ≤ (y : Int)) : (Instr.sliceBound (.int k i) y code).run P w = .ok i.toNat w := by
 simp [Instr.sliceBound, HR, h0, h1]
theorem Q5 {isSl : Bool} {len cap : Nat} {lo hi : Option Value} {l h : Int} (hlo : (lo = none ∧ l = 0) ∨ ∃ k, lo = some (.int k l)) (hhi : (hi = none ∧ h = len) ∨ ∃ k, hi = some (.int k h))
    (h0 : 0 ≤ l) (h1 : l ≤ h) (h2 : h ≤ (len : Int)) (h3 : len ≤ cap) : (Instr.sliceBounds isSl len cap lo hi none).run P w = .ok (l.toNat, h.toNat, cap) w := by
  have e2 : ((h.toNat : Nat) : Int) = h := by omega
  rcases hhi with ⟨rfl, rfl⟩ | ⟨k2, rfl⟩
  · rcases hlo with ⟨rfl, rfl⟩ | ⟨k1, rfl⟩
    · simp [Instr.sliceBounds]
    · simp [Instr.sliceBounds, Iy h0 h1]
  · have hb := fun code => Iy (P := P) (w := w) (k := k2) (i := h) (y := cap) (code := code) (by omega) (by omega)
    rcases hlo with ⟨rfl, rfl⟩ | ⟨k1, rfl⟩
    · cases isSl <;> simp [Instr.sliceBounds, hb]
    · have hl := fun code => Iy (P := P) (w := w) (k := k1) (i := l) (y := h.toNat) (code := code) h0 (by omega)
      cases isSl <;> simp [Instr.sliceBounds, hb, hl]
theorem Rep.sub {St : Nat → Prop} {t : TypeId} {av : Option Addr} {len cap : Nat} {l : Rows} (h : Rep P w St t (.slice av len cap) (.rows l)) {lo hi : Nat} (h1 : lo ≤ hi) (h2 : hi ≤ len) {e : TypeId} {ts : List TypeId}
    (ht : AG P t = .sl e) (hts : AK P e = some ts) :
    Rep P w St t (.slice (if cap = lo then av else av.map (·.add (lo * ts.length))) (hi - lo) (cap - lo)) (.rows ((l.take hi).drop lo)) := by
  cases h with
  | @sl _ e' ts' _ _ _ _ v ht' hts' hl hr hc hm hv =>
    rw [ht] at ht'; cases ht'
    rw [hts] at hts'; cases hts'
    have hlen : ((l.take hi).drop lo).length = hi - lo := by simp; omega
    have hrow : ∀ i, i < hi - lo → Ax ((l.take hi).drop lo) i = Ax l (lo + i) := fun i hi' => by
      simp only [Ax, List.getD, List.getElem?_drop, List.getElem?_take]
      rw [if_pos (by omega)]
    refine .sl (fun i j => v (lo + i) j) ht hts hlen (fun r hr' => hr r (List.mem_of_mem_take (List.mem_of_mem_drop hr'))) (by omega) ?_ (fun i j t' hi' hj => ?_)
    · by_cases hz : hi - lo = 0
      · exact .inl hz
      · rcases hm with hm | ⟨b, off, ha, hb, hlt, hcell⟩
        · omega
        · refine .inr ⟨b, off + lo * ts.length, ?_, hb, hlt, fun i j hi' hj => ?_⟩
          · have : ¬ cap = lo := by omega
            rw [if_neg this, ha]
            simp [Mt]
          · have := hcell (lo + i) j (by omega) hj
            rw [← this]
            congr 2
            rw [Nat.add_mul]; omega
    · have := hv (lo + i) j t' (by omega) hj
      unfold AJ at this ⊢
      rwa [hrow i hi']
def FrOK (s : St0 E N) (fr : List (Nat × Option (HEnt (std E N)))) : Prop :=
 ∀ n v, (n, v) ∈ fr → ∃ h, s.getH n = some h ∧ v = some { h with frozen := true, dirty := true }
theorem gL {fr : List (Nat × Option (HEnt (std E N)))} : ∀ {l : List (Nat × HEnt (std E N))}, (∀ n v, (n, v) ∈ fr → ∃ h, AE s.hp n = some h ∧ v = some { h with frozen := true, dirty := true }) →
    (∀ k h', AE l k = some h' → ∃ h, AE s.hp k = some h ∧ (h' = h ∨ h' = { h with frozen := true, dirty := true })) →
    ∀ k h', AE (A5 l fr) k = some h' → ∃ h, AE s.hp k = some h ∧ (h' = h ∨ h' = { h with frozen := true, dirty := true }) := by
  induction fr with
  | nil => intro l _ hl k h' hk; exact hl k h' hk
  | cons x fr ih =>
    intro l hfr hl k h' hk
    obtain ⟨n, v⟩ := x
    simp only [A5] at hk
    refine ih (fun n v hm => hfr n v (List.mem_cons_of_mem _ hm)) (fun k h' hk => ?_) k h' hk
    rw [BM] at hk
    split at hk
    · rename_i hkn
      obtain ⟨h, h1, h2⟩ := hfr n v List.mem_cons_self
      rw [h2] at hk
      cases hk
      exact ⟨h, by rw [hkn]; exact h1, .inr rfl⟩
    · exact hl k h' hk
theorem FrOK.get {fr : List (Nat × Option (HEnt (std E N)))} (h : FrOK s fr) {wr : Wr (std E N)} (hw : wr.hs = fr) (k : Nat) (h' : HEnt (std E N)) (hk : (s.apply wr).getH k = some h') :
    ∃ h, s.getH k = some h ∧ (h' = h ∨ h' = { h with frozen := true, dirty := true }) := by
  unfold State.apply State.getH at hk
  rw [hw] at hk
  exact gL h (fun k h' hk => ⟨h', hk, .inl rfl⟩) k h' hk
theorem FrOK.sub {fr : List (Nat × Option (HEnt (std E N)))} (h : FrOK s fr) {wr : Wr (std E N)} (hw : wr.hs = fr) (hb : wr.bs = []) : Sub s (s.apply wr) where
 b n e he := ⟨e, by rw [State.getB_apply0 s wr hb] at he; exact he, rfl⟩
 h n h' hk := by
  obtain ⟨h0, hh, h1⟩ := h.get hw n h' hk
  refine ⟨h0, hh, ?_⟩
  rcases h1 with rfl | rfl
  ·exact ⟨rfl, rfl, rfl, id⟩
  ·exact ⟨rfl, rfl, rfl, fun h => by cases h⟩
theorem RL {α : Type} {k : Nat} {v : Option α} {l : List (Nat × α)} {ws : List (Nat × Option α)} (h : ∀ x ∈ ws, x.1 = k → x.2 = v) (hm : ∃ x ∈ ws, x.1 = k) : AE (A5 l ws) k = v := by
 induction ws generalizing l with
 | nil => obtain ⟨x, hx, _⟩ := hm; simp at hx
 | cons y ws ih =>
  obtain ⟨n, u⟩ := y
  simp only [A5]
  by_cases hex : ∃ x ∈ ws, x.1 = k
  ·exact ih (fun x hx => h x (List.mem_cons_of_mem _ hx)) hex
  ·rw [US ws _ k (fun x hx he => hex ⟨x, hx, he⟩), BM]
   obtain ⟨x, hx, he⟩ := hm
   rcases List.mem_cons.1 hx with rfl | hx
   ·rw [if_pos he.symm]; exact h _ List.mem_cons_self he
   ·exact (hex ⟨x, hx, he⟩).elim
theorem dY (m : Mem P n0 β σ s w) {id : Nat} {h : HEnt (std E N)} {v : Value} (hh : s.getH id = some h) (hfz : h.frozen = true) (ho : bk σ id h.l.length v) :
    ∃ t, AG P t = .sl h.e ∧ Rep P w (StB n0 β σ s h.nw) t v (.rows h.l) := by
  obtain ⟨t, ts, ht, hts, hrl, hm⟩ := m.H id h hh
  refine ⟨t, ht, ?_⟩
  rcases ho with ⟨blk, cap, hs, rfl⟩ | ⟨hs, hz, x, rfl⟩
  · rcases hm with ⟨hn, _⟩ | ⟨blk', cap', cells, el, hs', hheap, hel, hsz, hcap, hnw, u, hu, hrep⟩
    · rw [hn] at hs; cases hs
    · rw [hs'] at hs; cases hs
      refine .sl u ht hts rfl hrl hcap (.inr ⟨blk, 0, rfl, ⟨fun hin => ?_, hnw⟩, CR hheap, fun i j hi hj => ?_⟩) hrep
      · rcases hin with ⟨b, e, he, hb⟩ | ⟨id', h', cap', hh', hf', hs2⟩
        · exact m.uX b e id h blk cap he hh hb hs'
        · have := m.uH id id' h h' blk cap cap' hh hh' hs' hs2
          subst this
          rw [hh] at hh'; cases hh'
          rw [hfz] at hf'; cases hf'
      · rw [GC hheap]
        simpa using hu i j hi hj
  · have hl : h.l = [] := List.length_eq_zero_iff.1 hz
    rw [hl]
    exact .sl (fun _ _ => undef) ht hts (by simp) (by simp) (Nat.le_refl _) (.inl rfl) (fun i j t' hi => by omega)
theorem ek (hs : Sim P n0 nt β σ s a w) {ctx : List (Nat × Bool)} (hf : Facts a ctx) {T : TypeId} {c : AC0 E N} {lo hi mx : Option Operand} {v : Value} {as : List Bool} {r : AV (std E N)}
    {fr : List (Nat × Option (HEnt (std E N)))} {m m' : Nat} (hp : RelC P n0 β σ s w c v) (h : RM.run s (ZE P ctx T c lo hi mx) m = .ok ((as, r, fr), m')) (has : ∀ b ∈ as, b = true) :
    ∃ z, (Instr.sliceAt T v (lo.map a.eval) (hi.map a.eval) (mx.map a.eval)).run P w = .ok z w ∧ RelAV P n0 β σ (s.apply { hs := fr }) w r z ∧ r.names = [] ∧ FrOK s fr := by
  have frn : FrOK s ([] : List (Nat × Option (HEnt (std E N)))) := fun n v hm => by simp at hm
  have sub0 : ∀ {c : AC0 E N} {z : Value}, RelC P n0 β σ s w c z → RelC P n0 β σ (s.apply { hs := [] }) w c z := fun {c z} hr =>
    ((frn.sub (wr := { hs := [] }) rfl rfl).ext P (fun _ => False) β σ w).relC (fun _ _ => id) hr
  have notarr : ∀ {d : TypeDesc} {v : Value} {lo hi mx : Option Value}, P.underlying T = some d → (∀ n e, d ≠ .array n e) → (Instr.sliceAt T v lo hi mx).run P w = (Instr.slice T v lo hi mx).run P w := by
    intro d v lo hi mx hu hd
    unfold Instr.sliceAt
    rw [Sem.run_bind, run_underlying hu, Result.andThen_ok]
    cases d <;> first | rfl | exact (hd _ _ rfl).elim
  unfold ZE at h
  split at h
  ·
    rename_i m0
    split at h
    · rename_i e' e nw l hu h1 h2 h3
      split at h
      · rename_i hee
        have := AA.1 hee
        subst this
        cases RM.ret_ok h
        obtain ⟨t, ht, hrep⟩ := hp
        cases hrep with
        | @sl _ e2 ts av len cap _ vv ht' hts hl hr hc hm hv =>
          rw [ht] at ht'; cases ht'
          obtain ⟨hsz, hpos⟩ := Cb hts
          have hpos' := hpos
          rw [← hsz] at hpos'
          obtain ⟨ti, hti⟩ := FA hpos'
          simp only [Bool.and_eq_true] at h2
          have e1 := RJ (ctx := ctx) h1
          have e2 : ∃ k, hi = some (.const (.int k 0)) := by
            rcases RJ (ctx := ctx) h2.1 with rfl | h
            · simp at h2
            · exact h
          have e3 : ∃ k, (some m0 : Option Operand) = some (.const (.int k 0)) := by
            rcases RJ (ctx := ctx) h3 with h | h
            · cases h
            · exact h
          obtain ⟨k2, rfl⟩ := e2
          obtain ⟨k3, e3⟩ := e3
          cases e3
          have hb := fun (k : IntKind) (y : Nat) code => Iy (P := P) (w := w) (k := k) (i := 0) (y := y) (code := code) (by omega) (by omega)
          refine ⟨.slice av 0 0, ?_, sub0 (X5 ⟨t, ts, ht, hts, av, rfl⟩ |> D5) |> Aj, rfl, frn⟩
          rw [notarr hu (by simp)]
          rcases e1 with rfl | ⟨k1, rfl⟩
          · simp [Instr.slice, run_underlying hu, Instr.sliceBounds, Act.eval, hb, BG hti]
          · simp [Instr.slice, run_underlying hu, Instr.sliceBounds, Act.eval, hb, BG hti]
      · exact (RM.fail_ok h).elim
    · exact (RM.fail_ok h).elim
  · split at h
    ·
      rename_i hu
      split at h
      case h_2 => exact (RM.fail_ok h).elim
      rename_i x
      obtain ⟨l, m1, h1, h2⟩ := RM.bind_ok h
      obtain ⟨u, m2, h3, h4⟩ := RM.bind_ok h2
      cases RM.ret_ok h4
      have hv : v = .string x := hp
      subst hv
      have hb : decide (0 ≤ (l : Int) ∧ (l : Int) ≤ u ∧ u ≤ ((ByteArray.size x : Nat) : Int)) = true := has _ List.mem_cons_self
      have hb := of_decide_eq_true hb
      have b1 := Sz hs hf h1
      have b2 := Sz hs hf h3
      have hsb := Q5 (P := P) (w := w) (isSl := false) (len := ByteArray.size x) (cap := ByteArray.size x) (lo := lo.map a.eval) (hi := hi.map a.eval) (l := l) (h := u)
        (by rcases b1 with ⟨rfl, rfl⟩ | ⟨o, k, rfl, hk⟩
            · exact .inl ⟨rfl, rfl⟩
            · exact .inr ⟨k, by simp [hk]⟩)
        (by rcases b2 with ⟨rfl, rfl⟩ | ⟨o, k, rfl, hk⟩
            · exact .inl ⟨rfl, rfl⟩
            · exact .inr ⟨k, by simp [hk]⟩) hb.1 hb.2.1 hb.2.2 (Nat.le_refl _)
      refine ⟨_, ?_, Aj (c := .str _) rfl, rfl, frn⟩
      rw [notarr hu (by simp)]
      simp [Instr.slice, run_underlying hu, hsb]
    ·
      rename_i e' hu
      obtain ⟨⟨e, l, nw⟩, m1, hrow, h2⟩ := RM.bind_ok h
      obtain ⟨_, m2, hg, h3⟩ := RM.bind_ok h2
      obtain ⟨lb, m3, h4, h5⟩ := RM.bind_ok h3
      obtain ⟨ub, m4, h6, h7⟩ := RM.bind_ok h5
      obtain ⟨lb, rfl⟩ : ∃ j : Int, j = lb := ⟨lb, rfl⟩
      obtain ⟨ub, rfl⟩ : ∃ j : Int, j = ub := ⟨ub, rfl⟩
      have hee := AA.1 (RM.guard_ok hg)
      have b1 := Sz hs hf h4
      have b2 := Sz hs hf h6
      have run : ∀ (av : Option Addr) (len cap : Nat) (ts : List TypeId), v = .slice av len cap → AK P e' = some ts → l.length = len → len ≤ cap →
          0 ≤ lb → lb ≤ ub → ub ≤ ((List.length l : Nat) : Int) →
          (Instr.sliceAt T v (lo.map a.eval) (hi.map a.eval) none).run P w =
            .ok (.slice (if cap = Int.toNat lb then av else av.map (·.add (Int.toNat lb * ts.length))) (Int.toNat ub - Int.toNat lb) (cap - Int.toNat lb)) w := by
        intro av len cap ts hv hts hl hc c1 c2 c3
        obtain ⟨hsz, hpos⟩ := Cb hts
        obtain ⟨ti, hti⟩ := FA (P := P) (t := e') (by omega)
        subst hv
        have hsb := Q5 (P := P) (w := w) (isSl := true) (len := len) (cap := cap) (lo := lo.map a.eval) (hi := hi.map a.eval) (l := lb) (h := ub)
          (by rcases b1 with ⟨rfl, rfl⟩ | ⟨o, k, rfl, hk⟩
              · exact .inl ⟨rfl, rfl⟩
              · exact .inr ⟨k, by simp [hk]⟩)
          (by rcases b2 with ⟨rfl, rfl⟩ | ⟨o, k, rfl, hk⟩
              · exact .inl ⟨rfl, by show ((List.length l : Nat) : Int) = _; rw [hl]⟩
              · exact .inr ⟨k, by simp [hk]⟩) c1 c2 (by rw [← hl]; exact c3) hc
        rw [notarr hu (by simp)]
        simp [Instr.slice, run_underlying hu, hsb, BG hti, hsz]
      cases c with
      | own e0 id =>
        obtain ⟨m5, hrow⟩ := RM.h_ok hrow
        obtain ⟨m6, h8⟩ := RM.h_ok h7
        cases hh : s.getH id with
        | none => rw [hh] at hrow; exact (RM.fail_ok hrow).elim
        | some en =>
          rw [hh] at hrow h8
          have hrr := RM.ret_ok hrow
          simp only [Prod.mk.injEq] at hrr
          obtain ⟨rfl, rfl, rfl⟩ := hrr
          subst hee
          have hr8 := RM.ret_ok h8
          simp only [Prod.mk.injEq] at hr8
          obtain ⟨rfl, rfl, rfl⟩ := hr8
          have hb : decide (0 ≤ lb ∧ lb ≤ ub ∧ ub ≤ ((List.length en.l : Nat) : Int)) = true := has _ List.mem_cons_self
          have hb := of_decide_eq_true hb
          have frk : FrOK s [(id, some { en with frozen := true, dirty := true })] := fun n v hm => by
            simp only [List.mem_singleton, Prod.mk.injEq] at hm
            obtain ⟨rfl, rfl⟩ := hm
            exact ⟨en, hh, rfl⟩
          have sub := frk.sub (wr := { hs := [(id, some { en with frozen := true, dirty := true })] }) rfl rfl
          have hm1 := sub.mem hs.M
          have hget : (s.apply { hs := [(id, some { en with frozen := true, dirty := true })] }).getH id = some { en with frozen := true, dirty := true } := by
            unfold State.apply State.getH
            simp only [A5, BM, if_true]
          obtain ⟨_, hk⟩ := hp
          obtain ⟨he1, ho⟩ := hk en hh
          obtain ⟨t, ht, hrep⟩ := dY (h := { en with frozen := true, dirty := true }) hm1 hget rfl ho
          obtain ⟨t2, ts, ht2, hts, _⟩ := hs.M.H id en hh
          cases hv : v with
          | slice av len cap =>
            rw [hv] at hrep
            have hlen : List.length en.l = len := by cases hrep; assumption
            have hc : len ≤ cap := by cases hrep; assumption
            have hsub := Rep.sub hrep (lo := Int.toNat lb) (hi := Int.toNat ub) (by have := hb.2.1; omega) (by have := hb.2.2; omega) ht hts
            rw [← hv]
            exact ⟨_, run av len cap ts hv hts hlen hc hb.1 hb.2.1 hb.2.2, Aj ⟨t, ht, hsub⟩, rfl, frk⟩
          | _ => rw [hv] at hrep; cases hrep
      | imm e0 nw0 l0 =>
        have hrr := RM.ret_ok hrow
        simp only [Prod.mk.injEq] at hrr
        obtain ⟨rfl, rfl, rfl⟩ := hrr
        subst hee
        cases RM.ret_ok h7
        have hb : decide (0 ≤ lb ∧ lb ≤ ub ∧ ub ≤ ((List.length l0 : Nat) : Int)) = true := has _ List.mem_cons_self
        have hb := of_decide_eq_true hb
        obtain ⟨t, ht, hrep⟩ := hp
        have hrep2 := hrep
        cases hrep with
        | @sl _ e2 ts av len cap _ vv ht' hts hl hr hc hm hv =>
          rw [ht] at ht'; cases ht'
          have hsub := Rep.sub hrep2 (lo := Int.toNat lb) (hi := Int.toNat ub) (by have := hb.2.1; omega) (by have := hb.2.2; omega) ht hts
          exact ⟨_, run av len cap ts rfl hts hl hc hb.1 hb.2.1 hb.2.2, Aj (sub0 ⟨t, ht, hsub⟩), rfl, frn⟩
      | nil e0 =>
        have hrr := RM.ret_ok hrow
        simp only [Prod.mk.injEq] at hrr
        obtain ⟨rfl, rfl, rfl⟩ := hrr
        subst hee
        cases RM.ret_ok h7
        have hb : decide (0 ≤ lb ∧ lb ≤ ub ∧ ub ≤ ((List.length ([] : Rows) : Nat) : Int)) = true := has _ List.mem_cons_self
        have hb := of_decide_eq_true hb
        obtain ⟨t, ts, ht, hts, av, rfl⟩ := hp
        have hrep : Rep P w (StB n0 β σ s true) t (.slice av 0 0) (.rows []) := .sl (fun _ _ => undef) ht hts rfl (by simp) (Nat.le_refl _) (.inl rfl) (fun i j t' hi => by omega)
        have hsub := Rep.sub hrep (lo := Int.toNat lb) (hi := Int.toNat ub) (by have := hb.2.1; omega) (by have := hb.2.2; simp at this; omega) ht hts
        exact ⟨_, run av 0 0 ts rfl hts rfl (Nat.le_refl _) hb.1 hb.2.1 hb.2.2, Aj (sub0 ⟨t, ht, hsub⟩), rfl, frn⟩
      | int k i => exact (RM.fail_ok hrow).elim
      | bool b => exact (RM.fail_ok hrow).elim
      | str x => exact (RM.fail_ok hrow).elim
      | ptr b off => exact (RM.fail_ok hrow).elim
      | aptr b off n sz i inner => exact (RM.fail_ok hrow).elim
      | eptr id i off => exact (RM.fail_ok hrow).elim
      | iptr e nw l i off => exact (RM.fail_ok hrow).elim
      | fn f caps => exact (RM.fail_ok hrow).elim
      | nilptr => exact (RM.fail_ok hrow).elim
    · exact (RM.fail_ok h).elim
end
end Go.Px
end
section
namespace Go.Px
section
variable {E : Env} {N : Nat} {P : Program} {n0 : Nz} {nt : Nat} {β : Nat → Option Nat} {σ : Nat → Option (Nat × Nat)} {s : St0 E N} {a : Act} {w : World}
theorem ZZ (hs : Sim P n0 nt β σ s a w) {ctx : List (Nat × Bool)} (hf : Facts a ctx) : ∀ {xs : List Operand} {l : List (Nat × Nat)} {m m' : Nat}, RM.run s (cJ P ctx xs) m = .ok (l, m') →
    (xs.map a.eval).length = l.length ∧ (∀ (i b o : Nat), l[i]? = some (b, o) → ∃ x : Value, (xs.map a.eval)[i]? = some x ∧ Jl β s b o x) ∧ ∀ n, Fresh a s n → n ∉ l.map (·.1)
  | [], l, m, m', h => by cases RM.ret_ok h; simp
  | x :: xs, l, m, m', h => by
    obtain ⟨c, m1, h1, h2⟩ := RM.bind_ok h
    obtain ⟨hc, _, hn⟩ := EU hs hf h1
    cases c with
    | ptr b off =>
      obtain ⟨l1, m2, h3, h4⟩ := RM.bind_ok h2
      cases RM.ret_ok h4
      obtain ⟨e1, e2, e3⟩ := ZZ hs hf h3
      refine ⟨by simpa using e1, fun i b' o' hi => ?_, fun n hf hm => ?_⟩
      · cases i with
        | zero => simp at hi; obtain ⟨rfl, rfl⟩ := hi; exact ⟨_, rfl, hc⟩
        | succ i => exact e2 i b' o' (by simpa using hi)
      · rcases List.mem_cons.1 hm with h | h
        · exact hn n hf (by simp [AC.names, h])
        · exact e3 n hf h
    | _ => exact (RM.fail_ok h2).elim
theorem Yw (hs : Sim P n0 nt β σ s a w) {ctx : List (Nat × Bool)} (hf : Facts a ctx) {T : TypeId} : ∀ {xs : List Operand} {cs : List (AC0 E N)} {m m' : Nat}, RM.run s (eh P ctx T xs) m = .ok (cs, m') →
    RelCs P n0 β σ s w cs (xs.map a.eval)
  | [], cs, m, m', h => by cases RM.ret_ok h; trivial
  | x :: xs, cs, m, m', h => by
    obtain ⟨c, m1, h1, h2⟩ := RM.bind_ok h
    obtain ⟨l, m2, h3, h4⟩ := RM.bind_ok h2
    cases RM.ret_ok h4
    exact ⟨(EU hs hf h1).1, Yw hs hf h3⟩
theorem Yt {lt : Int → Int → Bool} {f : Value → Value → Sem Value} (hfn : ∀ (k : IntKind) (x y : Int), f (.int k x) (.int k y) = pure (.int k (cond (lt y x) y x))) :
    ∀ {r : List (AC0 E N)} {c m : AC0 E N} {v : Value} {vs : List Value}, Up (O := std E N) lt c r = some m → RelC P n0 β σ s w c v → RelCs P n0 β σ s w r vs →
    ∃ z, (vs.foldlM f v).run P w = .ok z w ∧ RelC P n0 β σ s w m z ∧ (r ≠ [] → m.names = []) ∧ (r = [] → m = c)
  | [], c, m, v, vs, h, hc, hr => by
    cases vs with
    | cons => exact hr.elim
    | nil =>
      have : m = c := by cases c <;> (simp only [Up, Option.some.injEq] at h; exact h.symm)
      subst this
      exact ⟨v, by simp, hc, fun h => (h rfl).elim, fun _ => rfl⟩
  | y :: r, c, m, v, vs, h, hc, hr => by
    cases vs with
    | nil => exact hr.elim
    | cons u vs =>
      cases c with
      | int k x =>
        cases y with
        | int k' y' =>
          simp only [Up] at h
          split at h
          · rename_i hk
            have := G0.1 hk; subst this
            have hv : v = .int k x := hc
            have hu : u = .int k y' := hr.1
            subst hv; subst hu
            have hc2 : RelC P n0 β σ s w (AC.int (O := std E N) k (cond (lt y' x) y' x)) (.int k (cond (lt y' x) y' x)) := rfl
            obtain ⟨z, hz, hm, hn, he⟩ := Yt hfn h hc2 hr.2
            refine ⟨z, ?_, hm, fun _ => ?_, fun h => by cases h⟩
            · simp only [List.foldlM_cons, Sem.run_bind, hfn, Sem.run_pure, Result.andThen_ok]
              exact hz
            · cases hr' : r with
              | nil => rw [he hr']; rfl
              | cons a b => exact hn (by rw [hr']; simp)
          · cases h
        | _ => simp [Up] at h
      | _ => simp [Up] at h
theorem fP (hs : Sim P n0 nt β σ s a w) {ctx : List (Nat × Bool)} (hf : Facts a ctx) {ty : TypeId} {n : Nat} {x y : Operand} {as : List Bool} {r : AV (std E N)}
    {fr : List (Nat × Option (HEnt (std E N)))} {m m' : Nat} (h : RM.run s (fX P ctx ty n x y) m = .ok ((as, r, fr), m')) :
    ∃ c z, a.tmps.getD n undef = .bool c ∧ z = (if c then a.eval x else a.eval y) ∧ RelAV P n0 β σ s w r z ∧ r.names = [] ∧ fr = [] := by
  obtain ⟨m1, h⟩ := RM.t_ok h
  cases hg : s.getT n with
  | none => rw [hg] at h; exact (RM.fail_ok h).elim
  | some tv =>
    rw [hg] at h
    simp only at h
    split at h
    · rename_i c hin hv
      obtain ⟨u, m2, h1, h2⟩ := RM.bind_ok h
      obtain ⟨v, m3, h3, h4⟩ := RM.bind_ok h2
      have hn : a.tmps.getD n undef = .bool c := by
        rcases hs.T n _ hg with ⟨_, hr⟩ | ⟨hnf, _⟩
        · rw [hv] at hr
          exact D5 hr
        · exact (hnf (hf.of_in hin)).elim
      split at h4
      · rename_i cs hag hm
        cases RM.ret_ok h4
        have hag' : u.agg = v.agg := by simpa using hag
        refine ⟨c, _, hn, rfl, ?_, Ju hm, rfl⟩
        cases c with
        | true =>
          have hf2 : Facts a ((n, true) :: ctx) := fun k b hk => by
            rcases List.mem_cons.1 hk with e | hk
            · cases e; exact hn
            · exact hf k b hk
          obtain ⟨hr, _⟩ := Jd hs hf2 h1
          obtain ⟨h5, _, _⟩ := HW (P := P) (n0 := n0) (β := β) (σ := σ) (s := s) (w := w) (vs := (a.eval x).cells.toList) hm (fun _ => hr.1) (fun e => by cases e)
          exact ⟨h5, hr.2⟩
        | false =>
          have hf2 : Facts a ((n, false) :: ctx) := fun k b hk => by
            rcases List.mem_cons.1 hk with e | hk
            · cases e; exact hn
            · exact hf k b hk
          obtain ⟨hr, _⟩ := Jd hs hf2 h3
          obtain ⟨h5, _, _⟩ := HW (P := P) (n0 := n0) (β := β) (σ := σ) (s := s) (w := w) (vs := (a.eval y).cells.toList) hm (fun e => by cases e) (fun _ => hr.1)
          refine ⟨h5, ?_⟩
          have := hr.2
          simp only [hag']
          exact this
      · exact (RM.fail_ok h4).elim
    · exact (RM.fail_ok h).elim
theorem RelVals.get : ∀ {cs : List (Val (std E N))} {vs : List Value}, RelVals P n0 β σ s w cs vs → ∀ {i : Nat} {c : Val (std E N)}, cs[i]? = some c → ∃ v, vs[i]? = some v ∧ RelVal P n0 β σ s w c v
 | c :: cs, x :: vs, h, 0, c', hc => by simp at hc; subst hc; exact ⟨x, rfl, h.1⟩
 | c :: cs, x :: vs, h, i + 1, c', hc => by
  obtain ⟨v, hv, hr⟩ := RelVals.get h.2 (i := i) (by simpa using hc)
  exact ⟨v, by simpa using hv, hr⟩
 | [], _, _, i, c', hc => by simp at hc
 | _ :: _, [], h, _, _, _ => h.elim
theorem Zx {cs : List (Val (std E N))} {i : Nat} {c : Val (std E N)} (hc : cs[i]? = some c) {n : Nat} (hn : n ∈ AB c.cs) : n ∈ BO cs := by
 induction cs generalizing i with
 | nil => simp at hc
 | cons x cs ih =>
  cases i with
  | zero => simp at hc; subst hc; simp [BO, hn]
  | succ i => simp only [BO, List.mem_append]; exact .inr (ih (by simpa using hc))
theorem CM {o : Oper} {x : Sem Value} {z : Value} (he : execOp a.eval o = (do pure (.value (← x)))) (hx : x.run P w = .ok z w) : (execOp a.eval o).run P w = .ok (.value z) w := by
 rw [he]; simp [hx]
theorem gV (hs : Sim P n0 nt β σ s a w) {ctx : List (Nat × Bool)} (hf : Facts a ctx) {o : Oper} {as : List Bool} {r : AV (std E N)}
    {fr : List (Nat × Option (HEnt (std E N)))} {m m' : Nat} (h : RM.run s (Uw P ctx o.type o.op) m = .ok ((as, r, fr), m')) (has : ∀ b ∈ as, b = true) :
    ∃ z, (execOp a.eval o).run P w = .ok (.value z) w ∧ RelAV P n0 β σ (s.apply { hs := fr }) w r z ∧ (∀ n, Fresh a s n → n ∉ r.names) ∧ FrOK s fr := by
  have frn : FrOK s ([] : List (Nat × Option (HEnt (std E N)))) := fun n v hm => by simp at hm
  have sub0 : ∀ {c : AV (std E N)} {z : Value}, RelAV P n0 β σ s w c z → RelAV P n0 β σ (s.apply { hs := [] }) w c z := fun {c z} hr =>
    ((frn.sub (wr := { hs := [] }) rfl rfl).ext P (fun _ => False) β σ w).relAV (fun _ _ => id) hr
  have one0 : ∀ {c : AC0 E N} {z : Value}, RelC P n0 β σ s w c z → RelAV P n0 β σ (s.apply { hs := [] }) w (one c) z := fun {c z} hr => sub0 (Aj hr)
  have nm : ∀ {c : AC0 E N}, c.names = [] → ∀ n, Fresh a s n → n ∉ (one c).names := fun {c} hc n _ => by simp [AV.names, one, AB, hc]
  cases hop : o.op with
  | move x =>
    rw [hop] at h
    obtain ⟨v, m1, h1, h2⟩ := RM.bind_ok h
    cases RM.ret_ok h2
    obtain ⟨hr, hn⟩ := Qd hs hf h1
    exact ⟨a.eval x, by simp [execOp, hop], sub0 hr, hn, frn⟩
  | assign x =>
    rw [hop] at h
    obtain ⟨v, m1, h1, h2⟩ := RM.bind_ok h
    cases RM.ret_ok h2
    obtain ⟨hr, hn⟩ := Qd hs hf h1
    exact ⟨a.eval x, by simp [execOp, hop], sub0 hr, hn, frn⟩
  | pick c x y =>
    rw [hop] at h
    cases c with
    | tmp n =>
      obtain ⟨c, z, h1, h2, h3, h4, rfl⟩ := fP hs hf h
      have hc : a.eval (.tmp n) = .bool c := h1
      refine ⟨z, ?_, sub0 h3, fun n _ => by rw [h4]; simp, frn⟩
      simp only [execOp, hop, Sem.run_bind, hc, asBool, Sem.run_pure, Result.andThen_ok, h2]
    | const c => exact (RM.fail_ok h).elim
    | func f => exact (RM.fail_ok h).elim
    | global g => exact (RM.fail_ok h).elim
  | build T parts =>
    rw [hop] at h
    simp only [Uw] at h
    split at h
    · exact (RM.fail_ok h).elim
    · rename_i z hz
      split at h
      · exact (RM.fail_ok h).elim
      · rename_i hag
        obtain ⟨i, v, hi, hiz, hzv, hr, hn, ho⟩ := Lc (n0 := n0) (β := β) (σ := σ) (s := s) (w := w) hz
        obtain ⟨za, zc⟩ := z
        simp only at hag
        subst hag
        obtain ⟨vs, rfl, hrz⟩ := LM hr
        obtain ⟨cs, m1, h1, h2⟩ := RM.bind_ok h
        cases RM.ret_ok h2
        split at h1
        · rename_i fs hu
          obtain ⟨_, m2, hg, h3⟩ := RM.bind_ok h1
          have hinfo : ∀ f ∈ fs.toList, ∃ i, P.info? f.type = some i := fun f hfm => by
            have := List.all_eq_true.1 (RM.guard_ok hg) f hfm
            exact Option.isSome_iff_exists.1 this
          have hmap : (fs.mapM fun f => do pure (f.offset, ← sizeOf f.type) : Sem (Array (Nat × Nat))).run P w = .ok (fs.map fun f => (f.offset, P.cellsOf f.type)) w := by
            rw [Array.mapM_eq_mapM_toList]
            have : ∀ l : List Field, (∀ f ∈ l, ∃ i, P.info? f.type = some i) → (l.mapM fun f => do pure (f.offset, ← sizeOf f.type) : Sem (List (Nat × Nat))).run P w = .ok (l.map fun f => (f.offset, P.cellsOf f.type)) w := by
              intro l
              induction l with
              | nil => intro _; simp
              | cons f l ih =>
                intro hl
                obtain ⟨i, hi⟩ := hl f List.mem_cons_self
                rw [List.mapM_cons]
                simp only [Sem.run_bind, BG hi, Result.andThen_ok, Sem.run_pure, ih (fun g hg => hl g (List.mem_cons_of_mem _ hg)), List.map_cons]
            simp only [Sem.run_map, this fs.toList hinfo, Result.andThen_ok]
            congr 1
            apply Array.ext'
            simp
          obtain ⟨cells', f1, f2, f3, f4⟩ := S7 hs hf (place := fun i => (fs.toList[i]?).map fun (f : Field) => (f.offset, f.type))
            (place' := ((fs.map fun f => (f.offset, P.cellsOf f.type))[·]?)) (fun i off T hp => by
              simp only [Option.map_eq_some_iff, Prod.mk.injEq] at hp
              obtain ⟨f, hf, rfl, rfl⟩ := hp
              have : fs[i]? = some f := by simpa using hf
              simp [this]) h3 hrz
          refine ⟨.agg cells', CM (x := Instr.build T (parts.map fun (i, x) => (i, a.eval x))) (by simp [execOp, hop]) ?_, sub0 ⟨f2, _, rfl⟩, fun n hnf => f4 n hnf (by rw [hn]; simp), frn⟩
          have hl : (parts.map fun (i, x) => (i, a.eval x)).toList = parts.toList.map fun (i, x) => (i, a.eval x) := by simp
          simp only [Instr.build, Sem.run_bind, hzv, Result.andThen_ok, run_underlying hu, hmap, hl, Value.cells, f1, Sem.run_pure]
        · rename_i n e hu
          obtain ⟨_, m2, hg, h3⟩ := RM.bind_ok h1
          obtain ⟨i, hi⟩ := FA (BL.1 (RM.guard_ok hg))
          obtain ⟨cells', f1, f2, f3, f4⟩ := S7 hs hf (place := fun i => some (i * P.cellsOf e, e)) (place' := fun i => some (i * P.cellsOf e, P.cellsOf e)) (fun i off T hp => by
              simp only [Option.some.injEq, Prod.mk.injEq] at hp
              obtain ⟨rfl, rfl⟩ := hp
              rfl) h3 hrz
          refine ⟨.agg cells', CM (x := Instr.build T (parts.map fun (i, x) => (i, a.eval x))) (by simp [execOp, hop]) ?_, sub0 ⟨f2, _, rfl⟩, fun n hnf => f4 n hnf (by rw [hn]; simp), frn⟩
          have hl : (parts.map fun (i, x) => (i, a.eval x)).toList = parts.toList.map fun (i, x) => (i, a.eval x) := by simp
          simp only [Instr.build, Sem.run_bind, hzv, Result.andThen_ok, run_underlying hu, BG hi, hl, Value.cells, f1, Sem.run_pure]
        · exact (RM.fail_ok h1).elim
  | load T p =>
    rw [hop] at h
    obtain ⟨c, m1, h1, h2⟩ := RM.bind_ok h
    obtain ⟨cs, m2, h3, h4⟩ := RM.bind_ok h2
    obtain ⟨_, m3, h5, h6⟩ := RM.bind_ok h4
    have hag := RM.guard_ok h5
    cases RM.ret_ok h6
    obtain ⟨hc, _, _⟩ := EU hs hf h1
    obtain ⟨⟨blk, off, vs, hv, hl, hr, hcell⟩, hn⟩ := gR hs.M hc h3
    obtain ⟨z, hz, hrel⟩ := Og hr hag hl hcell
    refine ⟨z, CM (x := Instr.loadAt T (a.eval p)) (by simp [execOp, hop]) (by simp [Instr.loadAt, hv, Instr.sureAddr, hz]), sub0 hrel, fun n hn' => hn n hn', frn⟩
  | nilCheck x =>
    rw [hop] at h
    obtain ⟨c, m1, h1, h2⟩ := RM.bind_ok h
    obtain ⟨hc, _, hn⟩ := EU hs hf h1
    have fin : ∀ c' : AC0 E N, c = c' → (∃ blk o, a.eval x = .pointer (some ⟨blk, o, none⟩)) → ∃ z, (execOp a.eval o).run P w = .ok (.value z) w ∧ RelAV P n0 β σ (s.apply { hs := [] }) w (one c') z ∧ (∀ n, Fresh a s n → n ∉ (one c').names) := by
      rintro c' rfl ⟨blk, o', hv⟩
      refine ⟨a.eval x, by simp [execOp, hop, hv], one0 hc, fun n hf hm => hn n hf (by simpa [AV.names, one, AB] using hm)⟩
    cases c with
    | ptr b off => cases RM.ret_ok h2; obtain ⟨z, z1, z2, z3⟩ := fin _ rfl (by obtain ⟨blk, hv, _⟩ := hc; exact ⟨_, _, hv⟩); exact ⟨z, z1, z2, z3, frn⟩
    | eptr id i off => cases RM.ret_ok h2; obtain ⟨z, z1, z2, z3⟩ := fin _ rfl (by obtain ⟨_, blk, o', hv, _⟩ := hc; exact ⟨_, _, hv⟩); exact ⟨z, z1, z2, z3, frn⟩
    | iptr e nw l i off => cases RM.ret_ok h2; obtain ⟨z, z1, z2, z3⟩ := fin _ rfl (by obtain ⟨_, _, _, _, blk, _, _, _, _, _, _, hv⟩ := hc; exact ⟨_, _, hv⟩); exact ⟨z, z1, z2, z3, frn⟩
    | aptr b off n sz i inner => cases RM.ret_ok h2; obtain ⟨z, z1, z2, z3⟩ := fin _ rfl (by obtain ⟨_, _, blk, hv, _⟩ := hc; exact ⟨_, _, hv⟩); exact ⟨z, z1, z2, z3, frn⟩
    | _ => exact (RM.fail_ok h2).elim
  | binOp op T x y yT =>
    rw [hop] at h
    obtain ⟨p, m1, h1, h2⟩ := RM.bind_ok h
    obtain ⟨q, m2, h3, h4⟩ := RM.bind_ok h2
    obtain ⟨hp, _⟩ := Jd hs hf h1
    obtain ⟨hq, _⟩ := Jd hs hf h3
    obtain ⟨z, hz, hr, hn, rfl⟩ := gj (yT := yT) (x := x) hp hq (fun k n hy => by rw [hy]; rfl) h4 has
    exact ⟨z, CM (by simp [execOp, hop]) hz, sub0 hr, fun n _ => by rw [hn]; simp, frn⟩
  | unOp op T x =>
    rw [hop] at h
    obtain ⟨c, m1, h1, h2⟩ := RM.bind_ok h
    obtain ⟨hc, ho, hnn⟩ := EU hs hf h1
    split at h2
    · rename_i b
      cases RM.ret_ok h2
      have hv : a.eval x = .bool b := hc
      exact ⟨.bool !b, CM (x := Op.unary .not (a.eval x)) (by simp [execOp, hop]) (by rw [hv]; rfl), one0 (c := .bool _) rfl, nm rfl, frn⟩
    · rename_i k i
      cases RM.ret_ok h2
      have hv : a.eval x = .int k i := hc
      exact ⟨.int k (k.wrap (0 - i)), CM (x := Op.unary .neg (a.eval x)) (by simp [execOp, hop]) (by rw [hv]; rfl), one0 (c := .int _ _) rfl, nm rfl, frn⟩
    · exact (RM.fail_ok h2).elim
  | convert src dst x =>
    rw [hop] at h
    obtain ⟨c, m1, h1, h2⟩ := RM.bind_ok h
    obtain ⟨hc, ho, hnn⟩ := EU hs hf h1
    unfold Zm at h2
    split at h2
    · exact (RM.fail_ok h2).elim
    · rename_i d hu
      split at h2
      · rename_i k k' i hk
        cases RM.ret_ok h2
        have hv : a.eval x = .int k' i := hc
        refine ⟨.int k (k.wrap i), CM (x := Go.convert src dst (a.eval x)) (by simp [execOp, hop]) ?_, one0 (c := .int _ _) rfl, nm rfl, frn⟩
        simp only [Go.convert, Sem.run_bind, run_underlying hu, run_underlying (Wh hk), Result.andThen_ok, hv]
        cases d <;> rfl
      · rename_i x' hk
        cases RM.ret_ok h2
        have hv : a.eval x = .string x' := hc
        refine ⟨.string x', CM (x := Go.convert src dst (a.eval x)) (by simp [execOp, hop]) ?_, one0 (c := .str _) rfl, nm rfl, frn⟩
        simp only [Go.convert, Sem.run_bind, run_underlying hu, run_underlying (Wb hk), Result.andThen_ok, hv]
        cases d <;> rfl
      · exact (RM.fail_ok h2).elim
  | extract x i =>
    rw [hop] at h
    obtain ⟨v, m1, h1, h2⟩ := RM.bind_ok h
    obtain ⟨hr, hn⟩ := Qd hs hf h1
    cases v with
    | val v => exact (RM.fail_ok h2).elim
    | tup vs =>
      simp only at h2
      split at h2
      · rename_i v hv
        cases RM.ret_ok h2
        obtain ⟨us, hu, hrs⟩ := hr
        obtain ⟨z, hz, hrz⟩ := hrs.get hv
        refine ⟨z, CM (x := Instr.extract (a.eval x) i) (by simp [execOp, hop]) ?_, sub0 hrz, fun n hf hm => hn n hf (Zx hv hm), frn⟩
        rw [hu]
        have : us[i]? = some z := by simpa using hz
        simp [Instr.extract, this]
      · exact (RM.fail_ok h2).elim
  | field T x f =>
    rw [hop] at h
    obtain ⟨v, m1, h1, h2⟩ := RM.bind_ok h
    obtain ⟨hr, hn⟩ := Jd hs hf h1
    obtain ⟨va, vc⟩ := v
    simp only at h2
    split at h2
    · exact (RM.fail_ok h2).elim
    · rename_i fd hfd
      split at h2
      · rename_i cs hsl
        obtain ⟨_, m2, h3, h4⟩ := RM.bind_ok h2
        have hag := RM.guard_ok h3
        cases RM.ret_ok h4
        obtain ⟨us, hu, hrs⟩ := LM hr
        obtain ⟨z, hz, hrel⟩ := gG hfd hrs hsl hag
        refine ⟨z, CM (x := Instr.field T (a.eval x) f) (by simp [execOp, hop]) (by rw [hu]; exact hz), sub0 hrel, fun n hf hm => hn n hf (DZ hsl hm), frn⟩
      · exact (RM.fail_ok h2).elim
  | fieldAddr T x f =>
    rw [hop] at h
    obtain ⟨c, m1, h1, h2⟩ := RM.bind_ok h
    obtain ⟨hc, _, hn⟩ := EU hs hf h1
    split at h2
    · exact (RM.fail_ok h2).elim
    · rename_i fd hfd
      obtain ⟨_, m2, h3, h4⟩ := RM.bind_ok h2
      have hg := RM.guard_ok h3
      split at h4
      · rename_i p hp
        cases RM.ret_ok h4
        obtain ⟨blk, off, hv, hr, hnm⟩ := YV hp hc
        refine ⟨_, CM (x := Instr.fieldAt T (a.eval x) f) (by simp [execOp, hop]) (by rw [hv]; exact cx hfd (by simpa [BD] using hg)), one0 hr, fun n hf hm => hn n hf (by simpa [AV.names, one, AB, hnm] using hm), frn⟩
      · exact (RM.fail_ok h4).elim
  | indexAddr T x ix =>
    rw [hop] at h
    obtain ⟨c, m1, h1, h2⟩ := RM.bind_ok h
    obtain ⟨i, m2, h3, h4⟩ := RM.bind_ok h2
    obtain ⟨hc, _, hn⟩ := EU hs hf h1
    obtain ⟨k, hk⟩ := YM hs hf h3
    obtain ⟨z, hz, hr, hnm, rfl⟩ := Yn (k := k) hs hc (fun k' n hx => by rw [hx] at hk; cases hk; rfl) h4 has
    exact ⟨z, CM (x := Instr.indexAt T (a.eval x) (a.eval ix)) (by simp [execOp, hop]) (by rw [hk]; exact hz), sub0 hr, fun n hf hm => hn n hf (hnm n hm), frn⟩
  | index T x ix =>
    rw [hop] at h
    obtain ⟨v, m1, h1, h2⟩ := RM.bind_ok h
    obtain ⟨i, m2, h3, h4⟩ := RM.bind_ok h2
    obtain ⟨hc, hn⟩ := Jd hs hf h1
    obtain ⟨k, hk⟩ := YM hs hf h3
    obtain ⟨z, hz, hr, hnm, rfl⟩ := eI (k := k) hc (fun k' n hx => by rw [hx] at hk; cases hk; rfl) h4 has
    exact ⟨z, CM (x := Instr.index T (a.eval x) (a.eval ix)) (by simp [execOp, hop]) (by rw [hk]; exact hz), sub0 hr, fun n hf hm => hn n hf (hnm n hm), frn⟩
  | slice T x lo hi mx =>
    rw [hop] at h
    obtain ⟨c, m1, h1, h2⟩ := RM.bind_ok h
    obtain ⟨hc, _, hn⟩ := EU hs hf h1
    obtain ⟨z, hz, hr, hnm, hfr⟩ := ek hs hf hc h2 has
    exact ⟨z, CM (by simp [execOp, hop]) hz, hr, fun n _ => by rw [hnm]; simp, hfr⟩
  | makeFunc fn first caps =>
    rw [hop] at h
    cases fn with
    | func f =>
      simp only [Uw] at h
      split at h
      · rename_i hfirst
        obtain ⟨l, m1, h1, h2⟩ := RM.bind_ok h
        cases RM.ret_ok h2
        obtain ⟨e1, e2, e3⟩ := ZZ hs hf h1
        have hf0 : first = #[] := Array.toList_eq_nil_iff.1 hfirst
        refine ⟨.func (.func f) #[] (caps.map a.eval), CM (x := Instr.makeFunc (.func f) (first.map a.eval) (caps.map a.eval)) (by simp [execOp, hop]) (by subst hf0; simp [Instr.makeFunc]), one0 ⟨caps.toList.map a.eval, ?_, e1, e2⟩, fun n hf hm => e3 n hf (by simpa [AV.names, one, AB, AC.names] using hm), frn⟩
        congr 1
        apply Array.ext'
        simp
      · exact (RM.fail_ok h).elim
    | _ => exact (RM.fail_ok h).elim
  | call c =>
    rw [hop] at h
    obtain ⟨callee, args, argTypes⟩ := c
    cases callee with
    | value f => exact (RM.fail_ok h).elim
    | invoke x y => exact (RM.fail_ok h).elim
    | builtin b =>
      have hex : ∀ (x : Sem Value), builtin b argTypes o.type (args.map fun | .const _ => true | _ => false) (args.map a.eval) = (do pure (.value (← x))) →
          execOp a.eval o = (do pure (.value (← x))) := by
        intro x hx
        simp only [execOp, hop, resolve]
        simp only [pure_bind, invoke]
        exact hx
      cases b with
      | len =>
        simp only [Uw] at h
        split at h
        · rename_i x T ha hT
          have ha' : args = #[x] := by apply Array.ext'; simpa using ha
          have hT' : argTypes = #[T] := by apply Array.ext'; simpa using hT
          subst ha'; subst hT'
          split at h
          · rename_i n e hu
            cases RM.ret_ok h
            refine ⟨goInt n, CM (hex (Builtin.len_ #[T] o.type #[a.eval x]) (by simp [builtin])) ?_, one0 (c := .int _ _) rfl, nm rfl, frn⟩
            simp [Builtin.len_, run_underlying hu]
          · rename_i hu
            obtain ⟨c, m1, h1, h2⟩ := RM.bind_ok h
            obtain ⟨hc, _, _⟩ := EU hs hf h1
            cases c with
            | str y =>
              cases RM.ret_ok h2
              have hv : a.eval x = .string y := hc
              refine ⟨goInt (ByteArray.size y), CM (hex (Builtin.len_ #[T] o.type #[a.eval x]) (by simp [builtin])) ?_, one0 (c := .int _ _) rfl, nm rfl, frn⟩
              simp [Builtin.len_, run_underlying hu, hv]
            | _ => exact (RM.fail_ok h2).elim
          · rename_i e hu
            obtain ⟨c, m1, h1, h2⟩ := RM.bind_ok h
            obtain ⟨⟨e', l, nb⟩, m2, h3, h4⟩ := RM.bind_ok h2
            cases RM.ret_ok h4
            obtain ⟨hc, _, _⟩ := EU hs hf h1
            have key : ∃ av cap, a.eval x = .slice av (List.length l) cap := by
              cases c with
              | nil e0 =>
                have hrr := RM.ret_ok h3
                simp only [Prod.mk.injEq] at hrr
                obtain ⟨_, rfl, _⟩ := hrr
                obtain ⟨t, ts, ht, hts, av, hv⟩ := hc
                exact ⟨av, 0, hv⟩
              | imm e0 nw0 l0 =>
                have hrr := RM.ret_ok h3
                simp only [Prod.mk.injEq] at hrr
                obtain ⟨_, rfl, _⟩ := hrr
                obtain ⟨t, ht, hrep⟩ := hc
                generalize a.eval x = vv at hrep
                cases hrep with
                | @sl _ e2 ts av len cap _ vv ht' hts hl hr hc hm hv => exact ⟨av, cap, by rw [hl]⟩
              | own e0 id =>
                obtain ⟨m5, h3⟩ := RM.h_ok h3
                cases hh : s.getH id with
                | none => rw [hh] at h3; exact (RM.fail_ok h3).elim
                | some en =>
                  rw [hh] at h3
                  have hrr := RM.ret_ok h3
                  simp only [Prod.mk.injEq] at hrr
                  obtain ⟨_, rfl, _⟩ := hrr
                  obtain ⟨_, hk⟩ := hc
                  obtain ⟨_, ho⟩ := hk en hh
                  rcases ho with ⟨blk, cap, _, hv⟩ | ⟨_, hz, av, hv⟩
                  · exact ⟨_, cap, hv⟩
                  · exact ⟨av, 0, by rw [hz]; exact hv⟩
              | _ => exact (RM.fail_ok h3).elim
            obtain ⟨av, cap, hv⟩ := key
            refine ⟨goInt (List.length l), CM (hex (Builtin.len_ #[T] o.type #[a.eval x]) (by simp [builtin])) ?_, one0 (c := .int _ _) rfl, nm rfl, frn⟩
            simp [Builtin.len_, run_underlying hu, hv]
          · exact (RM.fail_ok h).elim
        · exact (RM.fail_ok h).elim
      | min =>
        obtain ⟨cs, m1, h1, h2⟩ := RM.bind_ok h
        have hcs := Yw hs hf h1
        have hl : (args.map a.eval).toList = args.toList.map a.eval := by simp
        match cs, h2, hcs with
        | [], h2, _ => exact (RM.fail_ok h2).elim
        | [_], h2, _ => exact (RM.fail_ok h2).elim
        | c :: c2 :: r, h2, hcs =>
          simp only at h2
          split at h2
          · rename_i mm hmm
            cases RM.ret_ok h2
            cases hxs : args.toList.map a.eval with
            | nil => rw [hxs] at hcs; exact hcs.elim
            | cons v vs =>
              rw [hxs] at hcs
              obtain ⟨z, hz, hr, hn1, hn2⟩ := Yt (P := P) (n0 := n0) (β := β) (σ := σ) (s := s) (w := w) (f := Builtin.min2) (fun k x y => by simp [Builtin.min2, iLt, Bool.cond_decide]) hmm hcs.1 hcs.2
              refine ⟨z, CM (hex (Builtin.min_ argTypes o.type (args.map a.eval)) rfl) ?_, one0 hr, fun n hnf hm => ?_, frn⟩
              · simp only [Builtin.min_, hl, hxs]; exact hz
              · rw [show (one mm).names = AB [mm] from rfl] at hm; simp [AB, hn1 (by simp)] at hm
          · exact (RM.fail_ok h2).elim
      | max =>
        obtain ⟨cs, m1, h1, h2⟩ := RM.bind_ok h
        have hcs := Yw hs hf h1
        have hl : (args.map a.eval).toList = args.toList.map a.eval := by simp
        match cs, h2, hcs with
        | [], h2, _ => exact (RM.fail_ok h2).elim
        | [_], h2, _ => exact (RM.fail_ok h2).elim
        | c :: c2 :: r, h2, hcs =>
          simp only at h2
          split at h2
          · rename_i mm hmm
            cases RM.ret_ok h2
            cases hxs : args.toList.map a.eval with
            | nil => rw [hxs] at hcs; exact hcs.elim
            | cons v vs =>
              rw [hxs] at hcs
              obtain ⟨z, hz, hr, hn1, hn2⟩ := Yt (P := P) (n0 := n0) (β := β) (σ := σ) (s := s) (w := w) (f := Builtin.max2) (lt := fun a b => iLt b a) (fun k x y => by simp [Builtin.max2, iLt, Bool.cond_decide]) hmm hcs.1 hcs.2
              refine ⟨z, CM (hex (Builtin.max_ argTypes o.type (args.map a.eval)) rfl) ?_, one0 hr, fun n hnf hm => ?_, frn⟩
              · simp only [Builtin.max_, hl, hxs]; exact hz
              · rw [show (one mm).names = AB [mm] from rfl] at hm; simp [AB, hn1 (by simp)] at hm
          · exact (RM.fail_ok h2).elim
      | _ => exact (RM.fail_ok h).elim
  | _ => rw [hop] at h; exact (RM.fail_ok h).elim
end
end Go.Px
end
