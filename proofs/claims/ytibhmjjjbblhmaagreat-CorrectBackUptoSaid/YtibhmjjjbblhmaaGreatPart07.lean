/- Part 7. -/
import Derived.Test.YtibhmjjjbblhmaaGreatPart06
import Derived.Shelf.Spec.SlicesGrow
set_option linter.unusedVariables false
set_option linter.unusedSimpArgs false
section
namespace Go.Px
open Go.RowKit
def VN (ls : List PV) : Option (List PV) := match ls with
 | [.rows [], .int n] => match Nat.ble n.toNat 1048576 && decide (0 ≤ n) with
  | true => some [.rows []]
  | false => none
 | _ => none
def O0 : List Bool := [true, false, false, false, false, false, false, false, false]
theorem eB {P : Program} {f : FuncId} {T I e : TypeId} {fn : Func} {ts : List TypeId} (hfn : P.funcs[f]? = some fn) (hp : fn.params = #[T, I]) (hr : fn.resultTypes = #[T]) (hT : P.underlying T = some (.slice e)) (hI : P.underlying I = some (.int .i64)) (hIt : AK P I = some [I]) (het : AK P e = some ts)
    (h0 : ∀ (a : Option Addr) (w : World), Calls P f #[.slice a 0 0, .int .i64 0] w fun e w' => e = .returned (.slice a 0 0) ∧ w' = w)
    (hn : ∀ (a : Option Addr) (n : Nat) (w : World), 0 < n → n ≤ 1048576 → Calls P f #[.slice a 0 0, .int .i64 n] w fun x w' => ∃ cap cells, x = .returned (.slice (some ⟨w.heap.size, 0, none⟩) 0 cap) ∧ cells.size = cap * ts.length ∧ w' = w.drew.alloc (.cells cells e))
    {E' : Env} {N' : Nat} (h : ∀ ls, E' f [] ls = VN ls) : VV P E' N' ⟨f, [], true, true, O0⟩ := by
  have lT : AG P T = .sl e := by simp [AG, hT]
  have lI : AG P I = .int .i64 := by simp [AG, hI]
  have aT : AQ P T = false := by simp [AQ, hT]
  have aI : AQ P I = false := by simp [AQ, hI]
  have main : ∀ own', ∀ (ls rs : List PV), E' f [] ls = some rs → ∀ fn', P.funcs[f]? = some fn' → ∀ (vs : List (AV (std E' N'))) (hs : List (Nat × HEnt (std E' N'))), As (O := std E' N') P O0 1 fn'.params.toList [] (ls.map PV.leaf) = some (vs, hs) →
      ∀ (n0 : Nz) (σ : Nat → Option (Nat × Nat)) (w : World) (args : List Value), n0.n = w.heap.size → Mem P n0 noB σ (AP hs) w → RelArgs P n0 noB σ (AP hs) w vs args → (U6 O0 = true → ∀ q, σ q = none) → Calls P f args.toArray w (Ret (E := E') (N := N') P ⟨f, [], own', true, O0⟩ n0 σ (AP hs) w fn' rs) :=
    fun own' ls rs he fn' hfn' vs hs hv n0 σ w args hn0 m hra hni => by
      rw [hfn] at hfn'; cases hfn'
      rw [h] at he
      unfold VN at he
      split at he
      case h_2 => cases he
      rename_i n
      cases hb : Nat.ble n.toNat 1048576 && decide (0 ≤ n) with
      | false => rw [hb] at he; cases he
      | true =>
      rw [hb] at he
      rw [Bool.and_eq_true, decide_eq_true_eq] at hb
      have hb1 := Nat.le_of_ble_eq_true hb.1
      cases he
      rw [hp] at hv
      have hni := hni rfl
      unfold As O0 at hv
      simp only [lT] at hv
      rcases kc (P := P) (T := T) (fun k => by simp [BN, hT]) with hTt | hTt
      · simp [hTt] at hv
      simp only [hTt, List.map_cons, List.map_nil, PV.leaf, Ac, lT, Option.map_some, List.headD_cons] at hv
      unfold As at hv
      simp only [lI] at hv
      simp [hIt, Ac, lI, As, aT, aI] at hv
      obtain ⟨rfl, rfl⟩ := hv
      obtain ⟨v1, v2, rfl⟩ : ∃ v1 v2, args = [v1, v2] := by
        have := hra.len
        match args, this with
        | [v1, v2], _ => exact ⟨v1, v2, rfl⟩
      obtain ⟨q1, q2, _⟩ := hra
      obtain ⟨g1, g2⟩ := q1
      have g2 : v1.oneCell' = true := g2
      rw [BE g2] at g1
      obtain ⟨k1, k2⟩ := q2
      have k2 : v2.oneCell' = true := k2
      rw [BE k2] at k1
      have e2 : v2 = .int .i64 n := k1.1
      subst e2
      have g3 := (g1.1).2 _ rfl
      obtain ⟨a, rfl⟩ : ∃ a, v1 = .slice a 0 0 := by
        rcases g3.2 with ⟨blk, cap, h1, _⟩ | ⟨_, _, a, h2⟩
        · rw [hni] at h1; cases h1
        · exact ⟨a, h2⟩
      have fin : ∀ (a' : Option Addr) (cap : Nat) (sg : Option (Nat × Nat)) (w' : World), Below w.heap.size w w' →
          ((sg = none ∧ cap = 0) ∨ ∃ cells, sg = some (w.heap.size, cap) ∧ a' = some ⟨w.heap.size, 0, none⟩ ∧ w'.heap[w.heap.size]? = some (.cells cells e (0, 0)) ∧ cells.size = cap * ts.length) →
          Ret (E := E') (N := N') P ⟨f, [], own', true, O0⟩ n0 σ (AP [(1, { e := e, frozen := false, nw := false, l := [], dirty := true })]) w fn [.rows []] (.returned (.slice a' 0 cap)) w' := by
        intro a' cap sg w' hbl hsg
        refine ⟨hbl.os, hbl.tape, hbl.output, hbl.size, fun b hlt _ => hbl.block b hlt, fun q => ?_⟩
        cases own' with
        | false =>
          refine ⟨fun _ => none, [⟨false, [.imm e true []]⟩], [], ?_, ⟨fun _ _ h => (by cases h), fun _ _ h => (by cases h), fun _ _ _ _ _ h => (by cases h), fun _ _ _ _ _ _ _ h => (by cases h), fun _ _ _ _ _ _ h => (by cases h)⟩, ⟨⟨⟨T, lT, .sl (fun _ _ => undef) lT het rfl (by simp) (Nat.zero_le _) (.inl rfl) (fun i j t' hi => absurd hi (Nat.not_lt_zero i))⟩, trivial⟩, rfl⟩, fun b hb => ?_⟩
          · rw [hr]
            simp [A3, hTt, Ae, lT, aT]
            rfl
          · rcases hb with ⟨_, _, hx, _⟩ | ⟨_, _, _, hx, _⟩
            · cases hx
            · cases hx
        | true =>
          have hkk : (cond (Nat.beq q q) sg none : Option (Nat × Nat)) = sg := by rw [AA.2 rfl]; rfl
          have gq : ∀ k h, (AP [(q, ({ e, frozen := false, nw := true, l := [], dirty := true } : HEnt (std E' N')))]).getH k = some h → k = q ∧ h = { e, frozen := false, nw := true, l := [], dirty := true } := fun k h hk => by
            unfold AP State.getH at hk
            simp only [AE] at hk
            split at hk
            · rename_i hb
              exact ⟨(AA.1 hb).symm, (Option.some.inj hk).symm⟩
            · cases hk
          refine ⟨fun k => cond (Nat.beq k q) sg none, [⟨false, [.own e q]⟩], [(q, { e, frozen := false, nw := true, l := [], dirty := true })], ?_, ?_, ?_, ?_⟩
          · rw [hr]
            simp [A3, hTt, Ae, lT, aT]
            rfl
          · refine ⟨fun _ _ h => (by cases h), fun k h hk => ?_, fun _ _ _ _ _ h => (by cases h), fun k k' h h' _ _ _ hk hk' _ _ => (gq k h hk).1.trans (gq k' h' hk').1.symm, fun _ _ _ _ _ _ h => (by cases h)⟩
            obtain ⟨rfl, rfl⟩ := gq k h hk
            refine ⟨T, ts, lT, het, by simp, ?_⟩
            have hk : (cond (Nat.beq k k) sg none : Option (Nat × Nat)) = sg := by rw [AA.2 rfl]; rfl
            rcases hsg with ⟨h1, _⟩ | ⟨cells, h1, _, h3, h4⟩
            · exact .inl ⟨hk.trans h1, rfl⟩
            · exact .inr ⟨_, cap, cells, e, hk.trans h1, h3, rfl, h4, Nat.zero_le _, Old.new (by omega), fun _ _ => undef, fun i j hi => absurd hi (Nat.not_lt_zero i), fun i j t' hi => absurd hi (Nat.not_lt_zero i)⟩
          · refine ⟨⟨⟨⟨a', 0, cap, rfl⟩, fun h hk => ?_⟩, trivial⟩, rfl⟩
            obtain ⟨_, rfl⟩ := gq q h hk
            refine ⟨rfl, ?_⟩
            rcases hsg with ⟨h1, h2⟩ | ⟨cells, h1, h2, h3, h4⟩
            · exact .inr ⟨hkk.trans h1, rfl, a', by rw [h2]⟩
            · exact .inl ⟨_, _, hkk.trans h1, by rw [h2]; rfl⟩
          · intro b hb
            rcases hb with ⟨_, _, hx, _⟩ | ⟨k, h, c', hk, _, hsk⟩
            · cases hx
            · right
              obtain rfl := (gq k h hk).1
              have hsk := hkk.symm.trans hsk
              rcases hsg with ⟨h1, _⟩ | ⟨cells, h1, h2, h3, h4⟩
              · rw [h1] at hsk; cases hsk
              · rw [h1] at hsk
                cases hsk
                exact Nat.le_refl _
      rcases Nat.eq_zero_or_pos n.toNat with hz | hz
      · obtain rfl : n = 0 := by omega
        refine (h0 a w).mono (fun x w' hx => ?_)
        obtain ⟨rfl, rfl⟩ := hx
        exact fin a 0 none w' (Below.refl _ _) (.inl ⟨rfl, rfl⟩)
      · obtain ⟨k, rfl⟩ : ∃ k : Nat, n = (k : Int) := ⟨n.toNat, by omega⟩
        refine (hn a k w (by omega) (by omega)).mono (fun x w' hx => ?_)
        obtain ⟨cap, cells, rfl, hc, rfl⟩ := hx
        refine fin _ cap (some (w.heap.size, cap)) _ ?_ (.inr ⟨cells, rfl, rfl, ?_, hc⟩)
        · have g := (Grow.drew w).trans (Grow.alloc w.drew (.cells cells e))
          exact ⟨g.os, g.tape, g.output, g.size, g.old⟩
        · exact J1 w.drew _
  exact ⟨UI (ci := ⟨f, [], true, true, O0⟩) (main true), UI (ci := ⟨f, [], false, true, O0⟩) (main false)⟩
def ba (P : Program) (e : TypeId) : Bool := match AK P e, P.info? e with
 | some ts, some i => match i.zero with
  | some z => Nat.blt 0 i.size && Nat.ble i.bytes 100000000 && Nat.beq z.cells.size i.size && Nat.beq i.size ts.length
  | none => false
 | _, _ => false
open Go.Shelf Go.Lib Go.Proofs in
theorem fA {P : Program} {ρ : Ren} (L : Lays8.n4 P ρ) {e : TypeId} {ts : List TypeId} {i : TypeInfo} {z : Value} (he : ρ.t 25 = e) (hi : P.info? e = some i) (hz : i.zero = some z) (hs : 0 < i.size) (hb : i.bytes ≤ 100000000) (hzs : z.cells.size = i.size) (hl : i.size = ts.length)
    (a : Option Addr) (n : Nat) (w : World) (h0 : 0 < n) (hn : n ≤ 1048576) :
    Calls P (ρ.f 4) #[.slice a 0 0, .int .i64 n] w fun x w' => ∃ cap cells, x = .returned (.slice (some ⟨w.heap.size, 0, none⟩) 0 cap) ∧ cells.size = cap * ts.length ∧ w' = w.drew.alloc (.cells cells e) := by
  subst he
  refine (Any8.slices_Grow_grow L i z hi hz hs a 0 0 n [] w (Nat.le_refl _) (by omega) ?_ (by omega) (by simp) (fun _ => rfl) (fun _ _ j v h => by simp at h)).mono (fun x w' hx => ?_)
  · have : (0 + n) * i.bytes ≤ 1048576 * 100000000 := Nat.mul_le_mul (by omega) hb
    omega
  · obtain ⟨h1, h2⟩ := hx
    refine ⟨_, _, h1, ?_, h2⟩
    have hg := grownCap_ge w (0 + n) 0 (ρ.t 25)
    simp only [Array.size_append, size_zeroCells, List.size_toArray, List.length_nil, hzs, hl]
    rw [Nat.zero_add, ← Nat.add_mul]
    congr 1
    omega
open Go.Shelf Go.Lib Go.Proofs in
theorem dS {P : Program} {ρ : Ren} (L : Lays8.n4 P ρ) {f : FuncId} {T I e : TypeId} {fn : Func} (hf : ρ.f 4 = f) (he : ρ.t 25 = e) (hin : ba P e = true) (hfn : P.funcs[f]? = some fn) (hp : fn.params = #[T, I]) (hr : fn.resultTypes = #[T]) (hT : P.underlying T = some (.slice e)) (hI : P.underlying I = some (.int .i64)) (hIt : AK P I = some [I])
    {E' : Env} {N' : Nat} (h : ∀ ls, E' f [] ls = VN ls) : VV P E' N' ⟨f, [], true, true, O0⟩ := by
  unfold ba at hin
  split at hin
  case h_2 => cases hin
  rename_i ts i hts hi
  split at hin
  case h_2 => cases hin
  rename_i z hz
  simp only [Bool.and_eq_true, Nat.blt_eq, Nat.beq_eq] at hin
  obtain ⟨⟨⟨h1, h2⟩, h3⟩, h4⟩ := hin
  subst hf
  exact eB hfn hp hr hT hI hIt hts (fun a w => Any8.slices_Grow_room L a 0 0 0 w (Nat.le_refl _) (by omega) (by omega) (by omega))
    (fun a n w h0 hn => fA L he hi hz h1 (Nat.le_of_ble_eq_true h2) h3 h4 a n w h0 hn) h
end Go.Px
end
section
namespace Go.Px
def rI (xs : List Int) : Rows := xs.map fun n => [PV.int n]
def rB (xs : List Bool) : Rows := xs.map fun n => [PV.bool n]
theorem EJ {n : Int} (h1 : -9223372036854775808 ≤ n) (h2 : n ≤ 9223372036854775807) : IntKind.i64.wrap n = n := by
 unfold IntKind.wrap
 simp [IntKind.signed, IntKind.bits]
 omega
theorem AD (b : Bool) (x y : List PV) (k : List PV → Option (List PV)) : (cond b (some x) (some y) : Option (List PV)).bind k = k (cond b x y) := by cases b <;> rfl
theorem kV (b : Bool) (x y : List PV) (j : Nat) : pvB (AF (cond b x y) j) = cond b (pvB (AF x j)) (pvB (AF y j)) := by cases b <;> rfl
theorem kN (b : Bool) (x y : List PV) (j : Nat) : pvI (AF (cond b x y) j) = cond b (pvI (AF x j)) (pvI (AF y j)) := by cases b <;> rfl
theorem kK (b : Bool) (x y : List PV) (j : Nat) : pvS (AF (cond b x y) j) = cond b (pvS (AF x j)) (pvS (AF y j)) := by cases b <;> rfl
theorem kX (b : Bool) (x y : List PV) (j : Nat) : pvL (AF (cond b x y) j) = cond b (pvL (AF x j)) (pvL (AF y j)) := by cases b <;> rfl
theorem Yb (b p : Bool) : cond b p false = (b && p) := by cases b <;> rfl
theorem kl (b p : Bool) : cond b true p = (b || p) := by cases b <;> rfl
theorem kC (b p : Bool) : cond b false p = (!b && p) := by cases b <;> rfl
theorem kS (b p : Bool) : cond b p true = (!b || p) := by cases b <;> rfl
theorem kF (b : Bool) (x y : List PV) : cond b (some x) (some y) = some (cond b x y) := by cases b <;> rfl
theorem js {α : Type} (b : Bool) (x : α) : cond b x x = x := by cases b <;> rfl
theorem j8 (b p q : Bool) : cond b [PV.bool p] [PV.bool q] = [PV.bool (cond b p q)] := by cases b <;> rfl
theorem Zp (p : PV) (r : List PV) : AF (p :: r) 0 = p := rfl
theorem gD (p : PV) (r : List PV) (j : Nat) : AF (p :: r) (j + 1) = AF r j := by simp [AF]
def S8 {St : Type} (body : Nat → St → List PV ⊕ St) (fin : St → List PV) : Nat → Nat → St → List PV
 | 0, _, s => fin s
 | k + 1, i, s => match body i s with
  | .inl r => r
  | .inr s' => S8 body fin k (i + 1) s'
theorem Ue {St : Type} {F : (List Ab → Option (List PV)) → List PV → Option (List PV)} {len : Nat} {enc : Nat → St → List Ab} {body : Nat → St → List PV ⊕ St} {fin : St → List PV} (I : Nat → St → Prop)
    (h0 : ∀ s self, I len s → F self ((enc len s).map Leaf.pv) = some (fin s))
    (h1 : ∀ i s self, i < len → I i s → F self ((enc i s).map Leaf.pv) = (match body i s with | .inl r => some r | .inr s' => self (enc (i + 1) s')) ∧ ∀ s', body i s = .inr s' → I (i + 1) s') :
    ∀ (k i : Nat) (s : St) (n : Nat), i + k = len → k < n → I i s → Hd F n ((enc i s).map Leaf.pv) = some (S8 body fin k i s)
  | 0, i, s, n, hk, hn, hi => by
    obtain ⟨n, rfl⟩ : ∃ m, n = m + 1 := ⟨n - 1, by omega⟩
    obtain rfl : i = len := by omega
    exact h0 s _ hi
  | k + 1, i, s, n, hk, hn, hi => by
    obtain ⟨n, rfl⟩ : ∃ m, n = m + 1 := ⟨n - 1, by omega⟩
    obtain ⟨h2, h3⟩ := h1 i s (fun ls => Hd F n (ls.map Leaf.pv)) (by omega) hi
    show F _ _ = _
    rw [h2]
    simp only [S8]
    cases hb : body i s with
    | inl r => rfl
    | inr s' => exact Ue I h0 h1 k (i + 1) s' n (by omega) (by omega) (h3 s' hb)
theorem AZ {F : (List Ab → Option (List PV)) → List PV → Option (List PV)} {n : Nat} {c r : List PV} {k : List PV → Option (List PV)} {g : Option (List PV)} (h : Hd F n c = some r) (hk : k r = g) : (Hd F n c).bind k = g := by
 rw [h]; exact hk
def B0 (ans : Nat → Option (List PV)) : Nat → Nat → Option (List PV)
 | 0, _ => none
 | k + 1, i => match ans i with
  | some r => some r
  | none => B0 ans k (i + 1)
def VH : Option (List PV) → List PV
 | some r => .int 0 :: r
 | none => [.int 1]
theorem Cp {F : (List Ab → Option (List PV)) → List PV → Option (List PV)} {len : Nat} (ans : Nat → Option (List PV))
    (h0 : ∀ self, F self [.int (len : Int)] = some [.int 1]) (h1 : ∀ i self, i < len → F self [.int (i : Int)] = match ans i with | some r => some (.int 0 :: r) | none => self [.int ((i : Int) + 1)]) :
    ∀ (k i n : Nat), i + k = len → k < n → Hd F n [.int (i : Int)] = some (VH (B0 ans k i))
  | 0, i, n, hk, hn => by
    obtain ⟨n, rfl⟩ : ∃ m, n = m + 1 := ⟨n - 1, by omega⟩
    obtain rfl : i = len := by omega
    exact h0 _
  | k + 1, i, n, hk, hn => by
    obtain ⟨n, rfl⟩ : ∃ m, n = m + 1 := ⟨n - 1, by omega⟩
    have h2 := h1 i (fun ls => Hd F n (ls.map Leaf.pv)) (by omega)
    show F _ _ = _
    rw [h2]
    simp only [B0]
    cases ha : ans i with
    | some r => rfl
    | none =>
      have := Cp ans h0 h1 k (i + 1) n (by omega) (by omega)
      show Hd F n [.int ((i : Int) + 1)] = _
      rw [show ((i : Int) + 1) = (((i + 1 : Nat)) : Int) by omega]
      exact this
def A6 (bad : Nat → Bool) (k i : Nat) : Bool := (List.range' i k).any bad
theorem IM (bad : Nat → Bool) (i : Nat) : A6 bad 0 i = false := rfl
theorem Bp (bad : Nat → Bool) (k i : Nat) : A6 bad (k + 1) i = (bad i || A6 bad k (i + 1)) := by simp only [A6, List.range'_succ, List.any_cons]
theorem Zk (bad : Nat → Bool) (r : List PV) : ∀ (k i : Nat), B0 (fun j => cond (bad j) (some r) none) k i = cond (A6 bad k i) (some r) none
 | 0, i => rfl
 | k + 1, i => by
  rw [Bp]
  simp only [B0]
  cases hb : bad i with
  | true => rfl
  | false => rw [Bool.false_or]; exact Zk bad r k (i + 1)
theorem XY {f g : Nat → Bool} : ∀ (k i : Nat), (∀ j, i ≤ j → j < i + k → f j = g j) → A6 f k i = A6 g k i
 | 0, i, _ => rfl
 | k + 1, i, h => by rw [Bp, Bp, h i (Nat.le_refl _) (by omega), XY k (i + 1) (fun j h1 h2 => h j (by omega) (by omega))]
theorem Im {f : Nat → Bool} {k i : Nat} : A6 f k i = false ↔ ∀ j, i ≤ j → j < i + k → f j = false := by
 induction k generalizing i with
 | zero => simp [IM]; intro j h1 h2; omega
 | succ k ih =>
  rw [Bp, Bool.or_eq_false_iff, ih]
  constructor
  ·intro ⟨h1, h2⟩ j h3 h4
   rcases Nat.lt_or_ge i j with h | h
   ·exact h2 j h (by omega)
   ·obtain rfl : j = i := by omega
    exact h1
  ·intro h; exact ⟨h i (Nat.le_refl _) (by omega), fun j h1 h2 => h j (by omega) (by omega)⟩
theorem EX {F : (List Ab → Option (List PV)) → List PV → Option (List PV)} {len : Nat} (bad : Nat → Bool) (r : List PV)
    (h0 : ∀ self, F self [.int (len : Int)] = some [.int 1]) (h1 : ∀ i self, i < len → F self [.int (i : Int)] = cond (bad i) (some (.int 0 :: r)) (self [.int ((i : Int) + 1)])) (n : Nat) (hn : len < n) :
    Hd F n [.int 0] = some (cond (A6 bad len 0) (.int 0 :: r) [.int 1]) := by
  have := Cp (F := F) (len := len) (fun j => cond (bad j) (some r) none) h0 (fun i self hi => by rw [h1 i self hi]; cases bad i <;> rfl) len 0 n (by omega) hn
  rw [show (0 : Int) = ((0 : Nat) : Int) from rfl, this, Zk]
  cases A6 bad len 0 <;> rfl
theorem Ah {i : Nat} (h : i ≤ 1099511627776) : IntKind.i64.wrap ((i : Int) + 1) = (i : Int) + 1 := EJ (by omega) (by omega)
theorem Ad {i len : Nat} (h : i < len) : iIn (i : Int) (len : Int) = true := by simp [iIn]; omega
theorem A1 {i len : Nat} (h : i < len) : iLt (i : Int) (len : Int) = true := by simp [iLt]; omega
theorem BK (len : Nat) : iLt (len : Int) (len : Int) = false := by simp [iLt]
theorem aO {F : (List Ab → Option (List PV)) → List PV → Option (List PV)} {len : Nat} (enc : Nat → List Ab) (bad : Nat → Bool) (r fin : List PV)
    (h0 : ∀ self, F self ((enc len).map Leaf.pv) = some fin) (h1 : ∀ i self, i < len → F self ((enc i).map Leaf.pv) = cond (bad i) (some r) (self (enc (i + 1)))) (n : Nat) (hn : len < n) :
    Hd F n ((enc 0).map Leaf.pv) = some (cond (A6 bad len 0) r fin) := by
  have main : ∀ (k i n : Nat), i + k = len → k < n → Hd F n ((enc i).map Leaf.pv) = some (cond (A6 bad k i) r fin) := by
    intro k
    induction k with
    | zero =>
      intro i n hk hn
      obtain ⟨n, rfl⟩ : ∃ m, n = m + 1 := ⟨n - 1, by omega⟩
      obtain rfl : i = len := by omega
      exact h0 _
    | succ k ih =>
      intro i n hk hn
      obtain ⟨n, rfl⟩ : ∃ m, n = m + 1 := ⟨n - 1, by omega⟩
      show F _ _ = _
      rw [h1 i _ (by omega), Bp]
      cases bad i with
      | true => rfl
      | false => exact ih (i + 1) n (by omega) (by omega)
  exact main len 0 n (by omega) hn
theorem jA (k i : Nat) : A6 (fun _ => false) k i = false := Im.2 fun _ _ _ => rfl
theorem Gr {F : (List Ab → Option (List PV)) → List PV → Option (List PV)} {len : Nat} (enc : Nat → List Ab) (fin : List PV)
    (h0 : ∀ self, F self ((enc len).map Leaf.pv) = some fin) (h1 : ∀ i self, i < len → F self ((enc i).map Leaf.pv) = self (enc (i + 1))) (n : Nat) (hn : len < n) :
    Hd F n ((enc 0).map Leaf.pv) = some fin := by
  have := aO (F := F) enc (fun _ => false) [] fin h0 h1 n hn
  rw [jA] at this
  exact this
def Fn (p : Nat → Bool) : Nat → Option (List PV) := fun j => cond (p j) (some [.int (j : Int)]) none
def Nw (p : Nat → Bool) (k : Nat) : Int := match B0 (Fn p) k 0 with
 | some r => pvI (AF r 0)
 | none => -1
theorem V5 (p : Nat → Bool) : ∀ k i, iLe 0 (match B0 (Fn p) k i with | some r => pvI (AF r 0) | none => -1) = A6 p k i
 | 0, i => rfl
 | k + 1, i => by
  rw [Bp]
  simp only [B0, Fn]
  cases h : p i with
  | true => simp only [cond_true, Zp, Bool.true_or, pvI, iLe]; simp
  | false => rw [Bool.false_or]; exact V5 p k (i + 1)
theorem I0 (p : Nat → Bool) (k : Nat) : iLe 0 (Nw p k) = A6 p k 0 := V5 p k 0
theorem kY {i len : Nat} (h : i ≤ len) : iRg 0 (i : Int) (len : Int) = true := by simp [iRg]; omega
theorem J6 {n b : Nat} (h : n ≤ 4194304) (hb : b ≤ 4096) : iSm (n : Int) b = true := by
 have : n * b ≤ 4194304 * 4096 := Nat.mul_le_mul h hb
 simp only [iSm, decide_eq_true_eq]
 refine ⟨by omega, by omega, ?_, by omega⟩
 rw [← Int.natCast_mul]; omega
def atI (L : Rows) (i j : Nat) : Int := pvI (AJ L i j)
theorem B9 (L : Rows) (i j : Nat) : pvI (AJ L i j) = atI L i j := rfl
theorem hP {L : Rows} {i j k : Nat} (h : j < i) : atI (L.take i) j k = atI L j k := by
 unfold atI AJ Ax
 simp only [List.getD_eq_getElem?_getD]
 rw [List.getElem?_take_of_lt h]
def CN (p : Nat → Bool) : Nat → Int
 | 0 => 0
 | i + 1 => cond (p i) (CN p i + 1) (CN p i)
theorem fU (p : Nat → Bool) : ∀ i, 0 ≤ CN p i ∧ CN p i ≤ (i : Int)
 | 0 => by simp [CN]
 | i + 1 => by
  have := fU p i
  unfold CN
  cases p i <;> simp only [cond_true, cond_false] <;> omega
theorem cO (p : Nat → Bool) {i : Nat} (h : i ≤ 1099511627776) : IntKind.i64.wrap (CN p i + 1) = CN p i + 1 := by
 have := fU p i
 exact EJ (by omega) (by omega)
theorem Zg {p q : Nat → Bool} : ∀ i, (∀ j, j < i → p j = q j) → CN p i = CN q i
 | 0, _ => rfl
 | i + 1, h => by
  unfold CN
  rw [h i (by omega), Zg i (fun j hj => h j (by omega))]
theorem bc {p q : Nat → Bool} : ∀ i, (∀ j, j < i → p j = true → q j = true) → CN p i ≤ CN q i
 | 0, _ => by simp [CN]
 | i + 1, h => by
  have h1 := bc i (fun j hj => h j (by omega))
  have h2 := h i (by omega)
  unfold CN
  cases hp : p i with
  | true => rw [h2 hp]; simp only [cond_true]; omega
  | false => cases q i <;> simp only [cond_true, cond_false] <;> omega
theorem fp {p q : Nat → Bool} : ∀ i, (∀ j, j < i → p j = true → q j = true) → CN p i = CN q i → ∀ j, j < i → p j = q j
 | 0, _, _ => fun j hj => by omega
 | i + 1, h, he => by
  have h1 := bc i (fun j hj => h j (by omega))
  have h2 := h i (by omega)
  unfold CN at he
  intro j hj
  have hpq : p i = q i ∧ CN p i = CN q i := by
   cases hp : p i with
   | true =>
    have hq := h2 hp
    rw [hp, hq] at he; simp only [cond_true] at he
    exact ⟨hq.symm, by omega⟩
   | false =>
    cases hq : q i with
    | true => rw [hp, hq] at he; simp only [cond_true, cond_false] at he; omega
    | false => rw [hp, hq] at he; simp only [cond_false] at he; exact ⟨rfl, he⟩
  rcases Nat.lt_or_ge j i with hji | hji
  ·exact fp i (fun j hj => h j (by omega)) hpq.2 j hji
  ·obtain rfl : j = i := by omega
   exact hpq.1
theorem f9 {p q : Nat → Bool} : ∀ i, (∀ j, j < i → p j = true → q j = false) → CN (fun j => p j || q j) i = CN p i + CN q i
 | 0, _ => rfl
 | i + 1, h => by
  have h1 := f9 i (fun j hj => h j (by omega))
  have h2 := h i (by omega)
  unfold CN
  rw [h1]
  cases hp : p i with
  | true => rw [h2 hp]; simp only [Bool.true_or, cond_true, cond_false]; omega
  | false => cases q i <;> simp only [Bool.false_or, cond_true, cond_false] <;> omega
theorem bR (s : Int) : ∀ (i : Nat), 0 ≤ s → CN (fun j => s == (j : Int) + 1) i = cond (!(s == 0) && iLe s (i : Int)) 1 0
 | 0, hs => by
  have : (!(s == 0) && iLe s ((0 : Nat) : Int)) = false := by
   rw [Bool.and_eq_false_iff]
   by_cases h : s = 0
   ·subst h; exact .inl rfl
   ·exact .inr (by simp only [iLe, decide_eq_false_iff_not]; omega)
  rw [this]; rfl
 | i + 1, hs => by
  unfold CN
  rw [bR s i hs]
  by_cases h : s = (i : Int) + 1
  ·have e1 : (s == (i : Int) + 1) = true := by simp [h]
   have e2 : iLe s (i : Int) = false := by simp only [iLe, decide_eq_false_iff_not]; omega
   have e3 : iLe s ((i + 1 : Nat) : Int) = true := by simp only [iLe, decide_eq_true_eq]; omega
   have e4 : (s == 0) = false := by simp only [beq_eq_false_iff_ne]; omega
   rw [e1, e2, e3, e4]; rfl
  ·have e1 : (s == (i : Int) + 1) = false := by simp [h]
   have e2 : iLe s (i : Int) = iLe s ((i + 1 : Nat) : Int) := by
    unfold iLe
    rw [Bool.eq_iff_iff, decide_eq_true_eq, decide_eq_true_eq]; omega
   rw [e1, e2]; rfl
theorem VB (f : Nat → Bool) : ∀ (k i : Nat), A6 f (k + 1) i = (A6 f k i || f (i + k))
 | 0, i => by rw [Bp, IM, IM]; simp
 | k + 1, i => by rw [Bp, VB f k (i + 1), Bp f k i, Bool.or_assoc]; congr 3; omega
theorem Xm (f : Nat → Bool) : ∀ (k i : Nat), A6 f k (i + 1) = A6 (fun j => f (j + 1)) k i
 | 0, i => rfl
 | k + 1, i => by rw [Bp, Bp, Xm f k (i + 1)]
def JH (p : Int → Bool) (L : Rows) : Bool := A6 (fun i => p (atI L i 0)) L.length 0
theorem Mo (p : Int → Bool) : ∀ (L : Rows), JH p L = L.any fun r => p (pvI (AF r 0))
 | [] => rfl
 | r :: L => by
  have ih := Mo p L
  unfold JH at ih ⊢
  rw [List.length_cons, Bp, Xm, List.any_cons, ← ih]
  rfl
theorem aj (p : Int → Bool) (a b : Rows) : JH p (a ++ b) = (JH p a || JH p b) := by
 rw [Mo, Mo, Mo, List.any_append]
theorem PXb : (∀ {α β : Type} (f : α → β) (a : α) (l : List α), List.map f (a :: l) = f a :: List.map f l) ∧ (∀ {α β : Type} (f : α → β), List.map f [] = []) ∧
    (∀ i : Int, Leaf.pv (.int i : Ab) = .int i) ∧ (∀ i : Bool, Leaf.pv (.bool i : Ab) = .bool i) ∧ (∀ i : ByteArray, Leaf.pv (.str i : Ab) = .str i) ∧ (∀ i : Rows, Leaf.pv (.rows i : Ab) = .rows i) ∧
    (∀ {α β : Type} (a : α) (f : α → Option β), (some a).bind f = f a) ∧ (∀ (p : PV) (r : List PV), AF (p :: r) 0 = p) ∧ (∀ (p : PV) (r : List PV) (j : Nat), AF (p :: r) (j + 1) = AF r j) ∧
    (∀ n : Int, pvI (.int n) = n) ∧ (∀ n : Bool, pvB (.bool n) = n) ∧ (∀ n : ByteArray, pvS (.str n) = n) ∧ (∀ n : Rows, pvL (.rows n) = n) ∧
    (∀ b p : Bool, cond b p false = (b && p)) ∧ (∀ b p : Bool, cond b true p = (b || p)) ∧ (∀ {α : Type} (a b : α), cond true a b = a) ∧ (∀ {α : Type} (a b : α), cond false a b = b) ∧
    (∀ a b : Bool, (a && (a && b)) = (a && b)) ∧ (∀ a : Bool, (a && a) = a) ∧ (∀ a b : Bool, (a || (a || b)) = (a || b)) ∧ (∀ a : Bool, (a || a) = a) ∧
    (∀ a : Bool, (a || true) = true) ∧ (∀ a : Bool, (a || false) = a) ∧ (∀ a : Bool, (true || a) = true) ∧ (∀ a : Bool, (false || a) = a) ∧
    (∀ a : Bool, (a && true) = a) ∧ (∀ a : Bool, (a && false) = false) ∧ (∀ a : Bool, (true && a) = a) ∧ (∀ a : Bool, (false && a) = false) ∧ ((!true) = false) ∧ ((!false) = true) ∧ (∀ a : Bool, (!(!a)) = a) ∧
    (∀ n : Nat, (n : Int).toNat = n) ∧ (∀ {O : Alg} (x : Ags O) (j : Nat), xr x [] j = []) ∧
    (∀ {O : Alg} (x : Ags O) (ks : List Nat) (j : Nat), xr x (0 :: ks) j = .int (x.I j) :: xr x ks (j + 1)) ∧ (∀ {O : Alg} (x : Ags O) (ks : List Nat) (j : Nat), xr x (1 :: ks) j = .bool (x.B j) :: xr x ks (j + 1)) ∧
    (∀ {O : Alg} (x : Ags O) (ks : List Nat) (j : Nat), xr x (2 :: ks) j = .str (x.S j) :: xr x ks (j + 1)) ∧ (∀ {O : Alg} (x : Ags O) (ks : List Nat) (j : Nat), xr x (3 :: ks) j = .rows (x.L j) :: xr x ks (j + 1)) ∧
    (∀ (O : Alg) (c : O.C) (j : Nat), cr O c [] j = []) ∧ (∀ (O : Alg) (c : O.C) (ks : List Nat) (j : Nat), cr O c (0 :: ks) j = .int (O.cI c j) :: cr O c ks (j + 1)) ∧ (∀ (O : Alg) (c : O.C) (ks : List Nat) (j : Nat), cr O c (1 :: ks) j = .bool (O.cB c j) :: cr O c ks (j + 1)) ∧
    (∀ (O : Alg) (c : O.C) (ks : List Nat) (j : Nat), cr O c (2 :: ks) j = .str (O.cS c j) :: cr O c ks (j + 1)) ∧ (∀ (O : Alg) (c : O.C) (ks : List Nat) (j : Nat), cr O c (3 :: ks) j = .rows (O.cL c j) :: cr O c ks (j + 1)) ∧
    (∀ (O : Alg) (l : O.L) (i : O.I) (j : Nat), rr O l i [] j = []) ∧ (∀ (O : Alg) (l : O.L) (i : O.I) (ks : List Nat) (j : Nat), rr O l i (0 :: ks) j = .int (O.rI l i j) :: rr O l i ks (j + 1)) ∧ (∀ (O : Alg) (l : O.L) (i : O.I) (ks : List Nat) (j : Nat), rr O l i (1 :: ks) j = .bool (O.rB l i j) :: rr O l i ks (j + 1)) ∧
    (∀ (O : Alg) (l : O.L) (i : O.I) (ks : List Nat) (j : Nat), rr O l i (2 :: ks) j = .str (O.rS l i j) :: rr O l i ks (j + 1)) ∧ (∀ (O : Alg) (l : O.L) (i : O.I) (ks : List Nat) (j : Nat), rr O l i (3 :: ks) j = .rows (O.rL l i j) :: rr O l i ks (j + 1)) ∧
    (kI = [0,0,0,0,0,0,0,0,0,0,0,0,0,0,3,0,3,3,1,3,1,0,0,0,3,0,0,0]) ∧ (kR = [2,0,0,0,0,0,0,0,1,0,0,0,0,3]) ∧ (kM = [2,0,0,0,0,0,0,0,1,0,0,0,0,3,0,0,1,3,0,0,0,0,0]) ∧
    (∀ (O : Alg) (b : List O.Lf), ap O [] b = b) ∧ (∀ (O : Alg) (x : O.Lf) (a b : List O.Lf), ap O (x :: a) b = x :: ap O a b) ∧
    (∀ {α : Type} (x : α) (a b : List α), x :: a ++ b = x :: (a ++ b)) ∧ (∀ {α : Type} (b : List α), [] ++ b = b) := by
  repeat' apply And.intro
  all_goals first | decide | (intros; rfl) | exact gD | exact Yb | exact kl | exact Int.toNat_natCast
theorem PXc : (∀ (b : Bool) (x y : List PV) (j : Nat), pvB (AF (cond b x y) j) = cond b (pvB (AF x j)) (pvB (AF y j))) ∧ (∀ (b : Bool) (x y : List PV) (j : Nat), pvI (AF (cond b x y) j) = cond b (pvI (AF x j)) (pvI (AF y j))) ∧
    (∀ (b : Bool) (x y : List PV) (j : Nat), pvS (AF (cond b x y) j) = cond b (pvS (AF x j)) (pvS (AF y j))) ∧ (∀ (b : Bool) (x y : List PV) (j : Nat), pvL (AF (cond b x y) j) = cond b (pvL (AF x j)) (pvL (AF y j))) := ⟨kV, kN, kK, kX⟩
theorem PXn : (∀ a b : Bool, (!(a || b)) = (!a && !b)) ∧ (∀ a b : Bool, (!(a && b)) = (!a || !b)) ∧ (∀ b p : Bool, cond b false p = (!b && p)) ∧ (∀ b p : Bool, cond b p true = (!b || p)) := ⟨by decide, by decide, kC, kS⟩
end Go.Px
end
section
namespace Go.Px
structure Inn where
 side : Int
 target : Int
 overs : Int
 runs : Int
 wickets : Int
 wides : Int
 noballs : Int
 byes : Int
 legbyes : Int
 pens : Int
 complete : Int
 inover : Int
 striker : Int
 other : Int
 batters : Rows
 bowler : Int
 bowlers : Rows
 before : Rows
 fresh : Bool
 bowled : Rows
 freehit : Bool
 ballage : Int
 keeper : Int
 outside : Int
 subs : Rows
 rev1 : Int
 rev2 : Int
 ending : Int
structure Rul where
 name : ByteArray
 side : Int
 innings : Int
 overs : Int
 balls : Int
 quota : Int
 wide : Int
 noball : Int
 freehit : Bool
 newball : Int
 followon : Int
 reviews : Int
 outside : Int
 power : Rows
structure Del where
 type : Int
 source : Int
 runs : Int
 short : Int
 boundary : Int
 crossed : Bool
 how : Int
 victim : Int
 fielder : Int
 second : Int
 sub : Bool
 sector : Int
structure Ev where
 kind : Int
 side : Int
 player : Int
 other : Int
 yes : Bool
 runs : Int
 overs : Int
 ball : Del
def Inn.ls (s : Inn) : List PV := [.int s.side, .int s.target, .int s.overs, .int s.runs, .int s.wickets, .int s.wides, .int s.noballs, .int s.byes, .int s.legbyes, .int s.pens, .int s.complete, .int s.inover, .int s.striker, .int s.other, .rows s.batters, .int s.bowler, .rows s.bowlers, .rows s.before, .bool s.fresh, .rows s.bowled, .bool s.freehit, .int s.ballage, .int s.keeper, .int s.outside, .rows s.subs, .int s.rev1, .int s.rev2, .int s.ending]
def Rul.ls (r : Rul) : List PV := [.str r.name, .int r.side, .int r.innings, .int r.overs, .int r.balls, .int r.quota, .int r.wide, .int r.noball, .bool r.freehit, .int r.newball, .int r.followon, .int r.reviews, .int r.outside, .rows r.power]
def Del.ls (d : Del) : List PV := [.int d.type, .int d.source, .int d.runs, .int d.short, .int d.boundary, .bool d.crossed, .int d.how, .int d.victim, .int d.fielder, .int d.second, .bool d.sub, .int d.sector]
def BB (x : Inn × Int) : List PV := [.int x.1.side, .int x.1.target, .int x.1.overs, .int x.1.runs, .int x.1.wickets, .int x.1.wides, .int x.1.noballs, .int x.1.byes, .int x.1.legbyes, .int x.1.pens, .int x.1.complete, .int x.1.inover, .int x.1.striker, .int x.1.other, .rows x.1.batters, .int x.1.bowler, .rows x.1.bowlers, .rows x.1.before, .bool x.1.fresh, .rows x.1.bowled, .bool x.1.freehit, .int x.1.ballage, .int x.1.keeper, .int x.1.outside, .rows x.1.subs, .int x.1.rev1, .int x.1.rev2, .int x.1.ending, .int x.2]
structure Fit (bt bw bf bd sb : Rows) : Prop where
 bt : bt.length ≤ 1048576
 bw : bw.length ≤ 1048576
 bf : bf.length ≤ 1048576
 bd : bd.length ≤ 1048576
 sb : sb.length ≤ 1048576
theorem Fit.bw' {bt bw bf bd sb : Rows} (h : Fit bt bw bf bd sb) : bw.length ≤ 1048576 := h.bw
theorem je {L : Rows} {b : Nat} (h : L.length ≤ 1048576) (hb : b ≤ 4096) : iSm (L.length : Int) b = true := J6 (by omega) hb
abbrev Inn.Fit (s : Inn) : Prop := Px.Fit s.batters s.bowlers s.before s.bowled s.subs
def inR (p : Int) (n : Nat) : Bool := iLe 1 p && iLe p (n : Int)
theorem KF {p : Int} {n : Nat} (h : inR p n = true) (hn : n ≤ 1048576) : iIn (IntKind.i64.wrap (p - 1)) (n : Int) = true := by
 simp only [inR, iLe, Bool.and_eq_true, decide_eq_true_eq] at h
 rw [EJ (by omega) (by omega)]
 simp only [iIn, decide_eq_true_eq]; omega
theorem j6 (b : Bool) (x y z : Int) : (cond b x y == z) = cond b (x == z) (y == z) := by cases b <;> rfl
theorem jx (b : Bool) (x y : Int) : cond b [PV.int x] [PV.int y] = [PV.int (cond b x y)] := by cases b <;> rfl
theorem Jg : ((0 : Nat) : Int) = 0 := rfl
theorem cU : ((1 : Nat) : Int) = 1 := rfl
theorem jz : ((2 : Nat) : Int) = 2 := rfl
theorem jj : ((3 : Nat) : Int) = 3 := rfl
theorem Yq {a b c : Int} (h : (a == b) = true) (hbc : (b == c) = false) : (a == c) = false := by rw [beq_iff_eq.1 h]; exact hbc
theorem jS (b x : Bool) : cond b b x = (b || x) := by cases b <;> rfl
theorem Inn.eta (s : Inn) : Inn.mk s.side s.target s.overs s.runs s.wickets s.wides s.noballs s.byes s.legbyes s.pens s.complete s.inover s.striker s.other s.batters s.bowler s.bowlers s.before s.fresh s.bowled s.freehit s.ballage s.keeper s.outside s.subs s.rev1 s.rev2 s.ending = s := rfl
theorem Rul.eta (r : Rul) : Rul.mk r.name r.side r.innings r.overs r.balls r.quota r.wide r.noball r.freehit r.newball r.followon r.reviews r.outside r.power = r := rfl
theorem kD {p : Int} {n : Nat} {X Y : Option (List PV)} (hn : n ≤ 1048576) : cond (inR p n) (cond (iIn (IntKind.i64.wrap (p - 1)) (n : Int)) X none) Y = cond (inR p n) X Y := by
 cases h : inR p n with
 | false => rfl
 | true => rw [KF h hn]; rfl
def ix (p : Int) : Nat := (IntKind.i64.wrap (p - 1)).toNat
def Mp (L : Rows) (p v : Int) : Rows := L.set (ix p) (Bv (Ax L (ix p)) 0 [.int v])
def iB (L : Rows) (p : Int) (v : Bool) : Rows := L.set (ix p) (Bv (Ax L (ix p)) 0 [.bool v])
theorem Ke (L : Rows) (p v : Int) : (Mp L p v).length = L.length := by simp [Mp]
theorem gx (L : Rows) (p : Int) (v : Bool) : (iB L p v).length = L.length := by simp [iB]
theorem BH {L : Rows} {b : Nat} (h : L.length ≤ 1048576) (hb : b ≤ 4096) : Lo b [.rows L] = some [.rows L] := by
 have h1 := J6 (n := L.length) (b := b) (by omega) hb
 have : VK L.length b = true := by
  simp only [iSm, decide_eq_true_eq] at h1
  simp only [VK, decide_eq_true_eq]
  have h2 := h1.2.2.1
  rw [← Int.natCast_mul] at h2
  omega
 simp only [Lo, this]
def EW (L : Rows) : Bool := A6 (fun i => !(atI L i 0 == 0)) L.length 0
def L5 (L : Rows) (s n : Int) : Bool := EW L && (s == 0 || n == 0)
def Ep (L : Rows) : Nat → Rows
 | 0 => []
 | i + 1 => cond (atI L i 0 == 0 || atI L i 0 == 3) (Ep L i ++ [[.int ((i : Int) + 1)]]) (Ep L i)
theorem Wt (L : Rows) : ∀ i, (Ep L i).length ≤ i
 | 0 => Nat.le_refl _
 | i + 1 => by
  have := Wt L i
  unfold Ep
  cases (atI L i 0 == 0 || atI L i 0 == 3)
  ·exact Nat.le_succ_of_le this
  ·simp; exact this
theorem jH {v : Int} (h : (v == 1) = true) : (v == 2) = false := by
 have := beq_iff_eq.1 h
 rw [beq_eq_false_iff_ne]; omega
theorem PXm : (∀ (b : Bool) (x y : List PV), cond b (some x) (some y) = some (cond b x y)) ∧ (∀ {α : Type} (b : Bool) (x : α), cond b x x = x) ∧ (∀ b x : Bool, cond b b x = (b || x)) ∧ (((0 : Nat) : Int) = 0) ∧ (((1 : Nat) : Int) = 1) ∧ (((2 : Nat) : Int) = 2) ∧ (((3 : Nat) : Int) = 3) ∧
    (∀ (b : Bool) (x y : Int), cond b [PV.int x] [PV.int y] = [PV.int (cond b x y)]) ∧ (∀ (b x y : Bool), cond b [PV.bool x] [PV.bool y] = [PV.bool (cond b x y)]) ∧ (∀ {α : Type} (l : List α) (i : Nat) (a : α), (l.set i a).length = l.length) ∧
    (∀ (b : Bool) (x y z : Int), (cond b x y == z) = cond b (x == z) (y == z)) ∧ (∀ x : Int, (x == x) = true) ∧ (∀ x : Bool, (x == x) = true) ∧
    (∀ s : Inn, s.ls = [.int s.side, .int s.target, .int s.overs, .int s.runs, .int s.wickets, .int s.wides, .int s.noballs, .int s.byes, .int s.legbyes, .int s.pens, .int s.complete, .int s.inover, .int s.striker, .int s.other, .rows s.batters, .int s.bowler, .rows s.bowlers, .rows s.before, .bool s.fresh, .rows s.bowled, .bool s.freehit, .int s.ballage, .int s.keeper, .int s.outside, .rows s.subs, .int s.rev1, .int s.rev2, .int s.ending]) ∧
    (∀ x : Inn × Int, BB x = [.int x.1.side, .int x.1.target, .int x.1.overs, .int x.1.runs, .int x.1.wickets, .int x.1.wides, .int x.1.noballs, .int x.1.byes, .int x.1.legbyes, .int x.1.pens, .int x.1.complete, .int x.1.inover, .int x.1.striker, .int x.1.other, .rows x.1.batters, .int x.1.bowler, .rows x.1.bowlers, .rows x.1.before, .bool x.1.fresh, .rows x.1.bowled, .bool x.1.freehit, .int x.1.ballage, .int x.1.keeper, .int x.1.outside, .rows x.1.subs, .int x.1.rev1, .int x.1.rev2, .int x.1.ending, .int x.2]) ∧
    (∀ s : Inn, Inn.mk s.side s.target s.overs s.runs s.wickets s.wides s.noballs s.byes s.legbyes s.pens s.complete s.inover s.striker s.other s.batters s.bowler s.bowlers s.before s.fresh s.bowled s.freehit s.ballage s.keeper s.outside s.subs s.rev1 s.rev2 s.ending = s) ∧
    (∀ r : Rul, Rul.mk r.name r.side r.innings r.overs r.balls r.quota r.wide r.noball r.freehit r.newball r.followon r.reviews r.outside r.power = r) :=
  ⟨kF, js, jS, Jg, cU, jz, jj, jx, j8, fun _ _ _ => List.length_set, j6, fun _ => beq_self_eq_true _, fun _ => beq_self_eq_true _, fun _ => rfl, fun _ => rfl, Inn.eta, Rul.eta⟩
end Go.Px
end
