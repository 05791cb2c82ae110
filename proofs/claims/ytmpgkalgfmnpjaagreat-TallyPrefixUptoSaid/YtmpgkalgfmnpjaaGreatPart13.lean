/- Part 13. -/
import Derived.Test.YtmpgkalgfmnpjaaGreatPart12
import Derived.KernelRfl
set_option linter.unusedVariables false
set_option linter.unusedSimpArgs false
section
namespace Go.Px
set_option maxRecDepth 100000
theorem PG {xs ys : List Sco} (hl : xs.length = ys.length) (h : ∀ j, j < xs.length → sco xs j = sco ys j) : xs = ys := by
 apply List.ext_getElem?
 intro i
 by_cases hi : i < xs.length
 ·have := h i hi
  rw [EW, EW, List.getElem?_eq_getElem hi, List.getElem?_eq_getElem (by omega)] at this
  rw [List.getElem?_eq_getElem hi, List.getElem?_eq_getElem (by omega)]
  exact congrArg some this
 ·rw [List.getElem?_eq_none (by omega), List.getElem?_eq_none (by omega)]
def DS (r : Rul) (L : Rows) (sd : Nat → Int) (n q i : Nat) : List Sco := (List.range n).map fun j => { A1 r L sd n j i with side := cond (Nat.blt j q) (sd j) 0 }
theorem Ci (r : Rul) (L : Rows) (sd : Nat → Int) (n q i : Nat) : (DS r L sd n q i).length = n := by unfold DS; rw [List.length_map, List.length_range]
theorem GZ (r : Rul) (L : Rows) (sd : Nat → Int) {n q i j : Nat} (h : j < n) : sco (DS r L sd n q i) j = { A1 r L sd n j i with side := cond (Nat.blt j q) (sd j) 0 } := by
 rw [EW]
 unfold DS
 rw [List.getElem?_map, List.getElem?_range h]
 rfl
theorem VM {a b : Nat} (h : a < b) : Nat.blt a b = true := Nat.ble_eq_true_of_le h
theorem ar {a b : Nat} (h : ¬ a < b) : Nat.blt a b = false := by
 cases hq : Nat.blt a b with
 | false => rfl
 | true => exact absurd (Nat.le_of_ble_eq_true hq) h
theorem Sy {xs : List Sco} {k : Nat} (h : k < xs.length) (s : Sco) : sco (xs.set k s) k = s := by rw [Mm _ _ _ _ h, if_pos rfl]
theorem jP {r : Rul} {L : Rows} {sd : Nat → Int} {n k i : Nat} (h : k < n) : (DS r L sd n k i).set k { sco (DS r L sd n k i) k with side := sd k } = DS r L sd n (k + 1) i := by
 refine PG (by rw [List.length_set, Ci, Ci]) (fun j hj => ?_)
 rw [List.length_set, Ci] at hj
 rw [Mm _ _ _ _ (by rw [Ci]; exact hj), GZ _ _ _ h, GZ _ _ _ hj, GZ _ _ _ hj]
 by_cases e : k = j
 ·subst e
  rw [if_pos rfl, VM (Nat.lt_succ_self k)]
  rfl
 ·rw [if_neg e]
  have : Nat.blt j k = Nat.blt j (k + 1) := by
   by_cases hl : j < k
   ·rw [VM hl, VM (by omega)]
   ·rw [ar hl, ar (by omega)]
  rw [this]
theorem kq (r : Rul) (L : Rows) (sd : Nat → Int) (n i : Nat) : DS r L sd n n i = (List.range n).map fun j => A1 r L sd n j i := by
 refine PG (by rw [Ci, List.length_map, List.length_range]) (fun j hj => ?_)
 rw [Ci] at hj
 rw [GZ _ _ _ hj, EW, List.getElem?_map, List.getElem?_range hj, VM hj]
 rfl
theorem jz {r : Rul} {L : Rows} {sd : Nat → Int} {n i : Nat} (ho : opn L i = 0) (h13 : ∀ j, j < i → ((evR L j).kind == 13) = true → 1 ≤ opn L (j + 1)) : List.replicate n dS = DS r L sd n 0 i := by
 have pz : ∀ j, pnS L sd n j i = 0 := fun j => by
  have : ∀ m, m ≤ i → pnS L sd n j m = 0 := by
   intro m
   induction m with
   | zero => intro _; rfl
   | succ m ih =>
    intro hm
    rw [R5, ih (by omega)]
    cases k13 : (evR L m).kind == 13 with
    | false => rfl
    | true =>
     have h1 := h13 m (by omega) k13
     have h2 := ET L (show m + 1 ≤ i by omega)
     omega
  exact this i (Nat.le_refl i)
 refine PG (by rw [Ci, List.length_replicate]) (fun j hj => ?_)
 rw [List.length_replicate] at hj
 rw [GZ _ _ _ hj, EW, List.getElem?_replicate, if_pos hj, ar (by omega)]
 unfold A1
 have z : ∀ f : Ev → Int, smi L f j i = 0 := fun f => Sw i (by omega)
 simp only [pz, z]
 rfl
theorem UG {r : Rul} {L : Rows} {sd : Nat → Int} {n k q i : Nat} {y : Sco} (hk : k < n) (hy : y = { A1 r L sd n k (i + 1) with side := cond (Nat.blt k q) (sd k) 0 }) (ho : ∀ j, j < n → ¬ k = j → A1 r L sd n j (i + 1) = A1 r L sd n j i) :
    (DS r L sd n q i).set k y = DS r L sd n q (i + 1) := by
  refine PG (by rw [List.length_set, Ci, Ci]) (fun j hj => ?_)
  rw [List.length_set, Ci] at hj
  rw [Mm _ _ _ _ (by rw [Ci]; exact hj), GZ _ _ _ hj, GZ _ _ _ hj]
  by_cases e : k = j
  · subst e
    rw [if_pos rfl, hy]
  · rw [if_neg e, ho j hj e]
theorem ah {r : Rul} {L : Rows} {sd : Nat → Int} {n q i : Nat} (ho : ∀ j, j < n → A1 r L sd n j (i + 1) = A1 r L sd n j i) : DS r L sd n q i = DS r L sd n q (i + 1) := by
 refine PG (by rw [Ci, Ci]) (fun j hj => ?_)
 rw [Ci] at hj
 rw [GZ _ _ _ hj, GZ _ _ _ hj, ho j hj]
def aU (r : Rul) (e : Ev) (k : Nat) (d : Option Nat) (xs : List Sco) : List Sco :=
  let x1 := cond (Rd e) (xs.set k { sco xs k with wickets := IntKind.i64.wrap ((sco xs k).wickets + 1) }) xs
  let c := AB r e.ball
  cond (e.kind == 4)
    (x1.set k { sco x1 k with runs := IntKind.i64.wrap ((sco x1 k).runs + Cl c), balls := cond c.counts (IntKind.i64.wrap ((sco x1 k).balls + 1)) (sco x1 k).balls, wides := IntKind.i64.wrap ((sco x1 k).wides + c.wides), noballs := IntKind.i64.wrap ((sco x1 k).noballs + c.noballs), byes := IntKind.i64.wrap ((sco x1 k).byes + c.byes), legbyes := IntKind.i64.wrap ((sco x1 k).legbyes + c.legbyes) })
    (cond (e.kind == 13) (match d with
      | some j => x1.set j { sco x1 j with runs := IntKind.i64.wrap ((sco x1 j).runs + 5), pens := IntKind.i64.wrap ((sco x1 j).pens + 5) }
      | none => x1) x1)
theorem gh {sd : Nat → Int} {n k j : Nat} {s : Int} (hk : k < n) (h : Cb sd n k s = some j) : j < n := by
 rcases (bH h).2 with h | h <;> omega
theorem jM {r : Rul} {L : Rows} {sd : Nat → Int} {n k i : Nat} (rk : RulOk r) (hk : k < n) (ho : opn L (i + 1) = k + 1) (hi : i < 4000) : aU r (evR L i) k (Cb sd n k (evR L i).side) (DS r L sd n (k + 1) i) = DS r L sd n (k + 1) (i + 1) := by
 have hn : ∀ j, ¬ k = j → Nat.beq (opn L (i + 1)) (j + 1) = false := fun j hj => R6 (by omega)
 have hy : Nat.beq (opn L (i + 1)) (k + 1) = true := by rw [ho]; exact PK _
 have sm := fun j => lR rk L sd n j (show i ≤ 4000 by omega)
 have cs := Sg r L sd n
 have hp : opn L (i + 1) - 1 = k := by omega
 have tl : k < (DS r L sd n (k + 1) i).length := by rw [Ci]; exact hk
 unfold aU
 cases h4 : (evR L i).kind == 4 with
 | true =>
  have k4 := beq_iff_eq.1 h4
  have h13 : ((evR L i).kind == 13) = false := by rw [k4]; rfl
  have ce : Ao r (evR L i) = AB r (evR L i).ball := by unfold Ao; rw [h4]; rfl
  have co := EL rk (evR L i)
  have tb := fD rk (evR L i)
  rw [← ce]
  have fin : ∀ y : Sco, y = { A1 r L sd n k (i + 1) with side := cond (Nat.blt k (k + 1)) (sd k) 0 } → (DS r L sd n (k + 1) i).set k y = DS r L sd n (k + 1) (i + 1) := fun y hyy => UG hk hyy (fun j hj hjk => by
   rw [cs, h13, Bool.false_and, cond_false, B2, hn j hjk]; rfl)
  have ex : A1 r L sd n k (i + 1) = LH r (evR L i) (A1 r L sd n k i) := by rw [cs, h13, Bool.false_and, cond_false, B2, hy]; rfl
  have s := sm k
  have s1 := s.runs
  have s2 := s.wk
  have s3 := s.balls
  have s4 := s.wides
  have s5 := s.no
  have s6 := s.bb
  have s7 := s.lb
  have c1 := co.wi
  have c2 := co.no
  have c3 := co.bb
  have c4 := co.lb
  unfold Wy at tb
  have w1 : IntKind.i64.wrap ((A1 r L sd n k i).runs + Cl (Ao r (evR L i))) = (A1 r L sd n k i).runs + Cl (Ao r (evR L i)) := BB (by omega) (by omega)
  have w2 : IntKind.i64.wrap ((A1 r L sd n k i).wickets + 1) = (A1 r L sd n k i).wickets + 1 := BB (by omega) (by omega)
  have w3 : IntKind.i64.wrap ((A1 r L sd n k i).balls + 1) = (A1 r L sd n k i).balls + 1 := BB (by omega) (by omega)
  have w4 : IntKind.i64.wrap ((A1 r L sd n k i).wides + (Ao r (evR L i)).wides) = (A1 r L sd n k i).wides + (Ao r (evR L i)).wides := BB (by omega) (by omega)
  have w5 : IntKind.i64.wrap ((A1 r L sd n k i).noballs + (Ao r (evR L i)).noballs) = (A1 r L sd n k i).noballs + (Ao r (evR L i)).noballs := BB (by omega) (by omega)
  have w6 : IntKind.i64.wrap ((A1 r L sd n k i).byes + (Ao r (evR L i)).byes) = (A1 r L sd n k i).byes + (Ao r (evR L i)).byes := BB (by omega) (by omega)
  have w7 : IntKind.i64.wrap ((A1 r L sd n k i).legbyes + (Ao r (evR L i)).legbyes) = (A1 r L sd n k i).legbyes + (Ao r (evR L i)).legbyes := BB (by omega) (by omega)
  have od := hG (evR L i)
  cases hb : Rd (evR L i) with
  | false =>
   simp only [cond_false, cond_true, GZ _ _ _ hk, w1, w3, w4, w5, w6, w7]
   refine fin _ ?_
   rw [ex]
   unfold LH
   rw [od, hb]
   cases (Ao r (evR L i)).counts <;> simp only [cond_false, cond_true, Int.add_zero]
  | true =>
   simp only [cond_true, Sy tl, List.set_set, GZ _ _ _ hk, w1, w2, w3, w4, w5, w6, w7]
   refine fin _ ?_
   rw [ex]
   unfold LH
   rw [od, hb]
   cases (Ao r (evR L i)).counts <;> simp only [cond_false, cond_true, Int.add_zero]
 | false =>
  have s := sm k
  have s2 := s.wk
  have w2 : IntKind.i64.wrap ((A1 r L sd n k i).wickets + 1) = (A1 r L sd n k i).wickets + 1 := BB (by omega) (by omega)
  have od := hG (evR L i)
  cases h13 : (evR L i).kind == 13 with
  | true =>
   have k13 := beq_iff_eq.1 h13
   have ob : Rd (evR L i) = false := by unfold Rd; rw [k13]; rfl
   have oe : Bs (evR L i) = 0 := by unfold Bs; rw [k13]; rfl
   have ex : ∀ j, A1 r L sd n j (i + 1) = Hm (cond (isS (Cb sd n k (evR L i).side) j) 5 0) (A1 r L sd n j i) := fun j => by
    rw [cs, h13, Bool.true_and, hp, Ku _ h4 oe]
    cases Nat.beq (opn L (i + 1)) (j + 1) <;> rfl
   simp only [ob, cond_false, cond_true]
   cases hd : Cb sd n k (evR L i).side with
   | none =>
    refine ah (fun j hj => ?_)
    rw [ex, hd]
    exact B2 _
   | some d =>
    have dl := gh hk hd
    have q := sm d
    have q1 := q.runs
    have q2 := q.pens
    have v1 : IntKind.i64.wrap ((A1 r L sd n d i).runs + 5) = (A1 r L sd n d i).runs + 5 := BB (by omega) (by omega)
    have v2 : IntKind.i64.wrap ((A1 r L sd n d i).pens + 5) = (A1 r L sd n d i).pens + 5 := BB (by omega) (by omega)
    simp only [GZ _ _ _ dl, v1, v2]
    refine UG dl ?_ (fun j hj hjd => ?_)
    ·rw [ex, hd, show isS (some d) d = true from PK d]
     rfl
    ·rw [ex, hd, show isS (some d) j = false from R6 hjd]
     exact B2 _
  | false =>
   have ex : ∀ j, A1 r L sd n j (i + 1) = cond (Nat.beq (opn L (i + 1)) (j + 1)) (LH r (evR L i) (A1 r L sd n j i)) (A1 r L sd n j i) := fun j => by
    rw [cs, h13, Bool.false_and, cond_false, B2]
   have oe : LM (evR L i) = Bs (evR L i) := by unfold LM; rw [h4]; rfl
   rw [oe] at od
   cases hb : Rd (evR L i) with
   | false =>
    rw [hb] at od
    simp only [cond_false]
    refine ah (fun j hj => ?_)
    rw [ex, Ku _ h4 od]
    cases Nat.beq (opn L (i + 1)) (j + 1) <;> rfl
   | true =>
    rw [hb] at od
    simp only [cond_false, cond_true, GZ _ _ _ hk, w2]
    refine UG hk ?_ (fun j hj hjk => ?_)
    ·rw [ex, hy, cond_true, Wg _ h4, od]
     rfl
    ·rw [ex, hn j hjk]; rfl
def sdT (L : Rows) : Nat → Int := Qk (L1 L) (DJ L L.length)
def E3 (r : Rul) (L : Rows) (sd : Nat → Int) : List Sco := (List.range (opn L L.length)).map fun j => A1 r L sd (opn L L.length) j L.length
structure InLog (L : Rows) : Prop where
 len : L.length ≤ 4000
 pen : ∀ j, j < L.length → ((evR L j).kind == 13) = true → 1 ≤ opn L (j + 1)
set_option maxHeartbeats 4000000 in
theorem iv {N : Nat} {r : Rul} {L : Rows} {k : Nat} (hN : 2097152 < N) (il : InLog L) (rk : RulOk r) (hk : k < opn L L.length) {F : (List AQ → Option (List PV)) → List PV → Option (List PV)}
    (f0 : ∀ xs self, F self [.rows (Ah xs), .int ((AH L (k + 1) - AH L k : Nat) : Int)] = some [.rows (Ah xs), .int ((AH L (k + 1) - AH L k : Nat) : Int)])
    (f1 : ∀ (i : Nat) self, i < AH L (k + 1) - AH L k → ∀ xs : List Sco, xs.length = opn L L.length → F self [.rows (Ah xs), .int (i : Int)] = self [.rows (Ah (aU r (evR L (AH L k + i)) k (Cb (sdT L) (opn L L.length) k (evR L (AH L k + i)).side) xs)), .int ((i + 1 : Nat) : Int)]) :
    DI F N [.rows (Ah (DS r L (sdT L) (opn L L.length) (k + 1) (AH L k))), .int 0] = some [.rows (Ah (DS r L (sdT L) (opn L L.length) (k + 1) (AH L (k + 1)))), .int ((AH L (k + 1) - AH L k : Nat) : Int)] := by
  have sg := seg (by have := il.len; omega) hk
  have h1 := sg.lt
  have h2 := sg.le
  have h3 := il.len
  have e : AH L k + (AH L (k + 1) - AH L k) = AH L (k + 1) := by omega
  have := Cq (F := F) (len := AH L (k + 1) - AH L k) (fun i => [.rows (Ah (DS r L (sdT L) (opn L L.length) (k + 1) (AH L k + i))), .int (i : Int)]) [.rows (Ah (DS r L (sdT L) (opn L L.length) (k + 1) (AH L (k + 1)))), .int ((AH L (k + 1) - AH L k : Nat) : Int)]
    (fun self => by
      show F self [.rows (Ah (DS r L (sdT L) (opn L L.length) (k + 1) (AH L k + (AH L (k + 1) - AH L k)))), _] = _
      rw [e]
      exact f0 _ self)
    (fun i self hi => by
      show F self [.rows (Ah (DS r L (sdT L) (opn L L.length) (k + 1) (AH L k + i))), .int (i : Int)] = _
      rw [f1 i self hi _ (Ci _ _ _ _ _ _), jM rk hk (sg.mid _ (by omega) (by omega)) (by omega)]
      rfl) N (by omega)
  exact this
theorem mJ (L : Rows) (i : Nat) : (⟨pvI (AE L i 0), pvI (AE L i 1), pvI (AE L i 2), pvI (AE L i 3), pvB (AE L i 4), pvI (AE L i 5), pvI (AE L i 6), ⟨pvI (AE L i 7), pvI (AE L i 8), pvI (AE L i 9), pvI (AE L i 10), pvI (AE L i 11), pvB (AE L i 12), pvI (AE L i 13), pvI (AE L i 14), pvI (AE L i 15), pvI (AE L i 16), pvB (AE L i 17), pvI (AE L i 18)⟩⟩ : Ev) = evR L i := rfl
set_option maxHeartbeats 4000000 in
theorem MW {N : Nat} {r1 r2 r3 r4 r5 r6 r7 r9 r10 r11 r12 : Int} {r8 : Bool} {r0 : ByteArray} {r13 : Rows} {L : Rows} (hN : 2097152 < N) (hs : r0.size ≤ 1048576) (h13 : r13.length ≤ 1048576) (hL : L.length ≤ 1048576) (il : Bj (⟨r0, r1, r2, r3, r4, r5, r6, r7, r8, r9, r10, r11, r12, r13⟩ : Rul) L = 0 → InLog L ∧ RulOk (⟨r0, r1, r2, r3, r4, r5, r6, r7, r8, r9, r10, r11, r12, r13⟩ : Rul)) : Cg N [.str r0, .int r1, .int r2, .int r3, .int r4, .int r5, .int r6, .int r7, .bool r8, .int r9, .int r10, .int r11, .int r12, .rows r13, .rows L] = some [.rows (cond (!(Bj (⟨r0, r1, r2, r3, r4, r5, r6, r7, r8, r9, r10, r11, r12, r13⟩ : Rul) L == 0)) [] (Ah (E3 (⟨r0, r1, r2, r3, r4, r5, r6, r7, r8, r9, r10, r11, r12, r13⟩ : Rul) L (sdT L)))), .int (Bj (⟨r0, r1, r2, r3, r4, r5, r6, r7, r8, r9, r10, r11, r12, r13⟩ : Rul) L)] := by
  show I0 (std (Bl N) N) (xOf _) = _
  generalize hres : (some [.rows (cond (!(Bj (⟨r0, r1, r2, r3, r4, r5, r6, r7, r8, r9, r10, r11, r12, r13⟩ : Rul) L == 0)) [] (Ah (E3 (⟨r0, r1, r2, r3, r4, r5, r6, r7, r8, r9, r10, r11, r12, r13⟩ : Rul) L (sdT L)))), .int (Bj (⟨r0, r1, r2, r3, r4, r5, r6, r7, r8, r9, r10, r11, r12, r13⟩ : Rul) L)] : Option (List PV)) = RR
  simp only [I0, Ne, Nx, PY, IW, Fa, Fo, Pp, std, xOf, PXb, WI hN hs h13 hL]
  subst hres
  cases hc : Bj (⟨r0, r1, r2, r3, r4, r5, r6, r7, r8, r9, r10, r11, r12, r13⟩ : Rul) L == 0 with
  | false => rfl
  | true =>
    have c0 := beq_iff_eq.1 hc
    obtain ⟨il, rk⟩ := il c0
    have ol := R4 L L.length
    have l4 := il.len
    have s80 : iSm ((opn L L.length : Nat) : Int) 80 = true := G5 (by omega) (by omega)
    rw [c0]
    simp only [PXb, Bool.not_true, Z3 hN hL, Mf, R8, s80, I9 hN hL, lg]
    have st : List.replicate (opn L L.length) dS = DS (⟨r0, r1, r2, r3, r4, r5, r6, r7, r8, r9, r10, r11, r12, r13⟩ : Rul) L (sdT L) (opn L L.length) 0 (AH L 0) := by
      refine jz ?_ (fun j hj => il.pen j ?_)
      · by_cases h0 : 0 < opn L L.length
        · exact (seg hL h0).o0
        · unfold AH; rw [if_neg h0]; omega
      · have : AH L 0 ≤ L.length := by
          by_cases h0 : 0 < opn L L.length
          · have := (seg hL h0).lt; have := (seg hL h0).le; omega
          · unfold AH; rw [if_neg h0]; exact Nat.le_refl _
        omega
    rw [st]
    refine AZ (Cq (len := opn L L.length) (fun k => [.rows (Ah (DS (⟨r0, r1, r2, r3, r4, r5, r6, r7, r8, r9, r10, r11, r12, r13⟩ : Rul) L (sdT L) (opn L L.length) k (AH L k))), .int (k : Int)]) [.rows (Ah (E3 (⟨r0, r1, r2, r3, r4, r5, r6, r7, r8, r9, r10, r11, r12, r13⟩ : Rul) L (sdT L)))] ?_ ?_ N (by omega)) ?_
    · intro self
      simp only [PXb, PXc, PXn, AG, PXp, M1, BM, lT, kq]
      rfl
    · intro k self hk
      have sg := seg hL hk
      have sgl := sg.lt
      have sge := sg.le
      have rg : iRg (AH L k : Int) (AH L (k + 1) : Int) (L.length : Int) = true := by simp only [iRg, decide_eq_true_eq]; omega
      have zk : atI (Gd (zs (sdT L) (opn L L.length))) k 0 = sdT L k := gO _ hk
      have sl := ez (L := L) (a := AH L k) sge
      have zk' : pvI (AE (Gd (zs (Qk (L1 L) (DJ L L.length)) (opn L L.length))) k 0) = sdT L k := zk
      simp only [PXb, PXc, PXn, AG, PXp, PXs, M1, Kp (show k ≤ 1099511627776 by omega), A0 hk, Ab hk, Ci, Mf, R8, sg.x0, sg.x1, rg, zk', PXt, jP hk]
      generalize hX : List.drop (AH L k) (List.take (AH L (k + 1)) L) = X at *
      refine AZ (iv hN il rk hk ?_ ?_) ?_
      · intro xs self
        simp only [PXb, PXc, PXn, AG, sl, BM]
      · intro i self hi xs hx
        have hev : evR X i = evR L (AH L k + i) := by rw [← hX]; exact iu L i hi
        simp only [PXb, PXc, PXn, AG, PXc, sl, Kp (show i ≤ 1099511627776 by omega), A0 hi, Ab hi, Nat.reduceAdd, IW, eB, mJ, hev]
        have hk' : k < xs.length := by rw [hx]; exact hk
        generalize hd : Cb (sdT L) (opn L L.length) k (evR L (AH L k + i)).side = d
        have kx : pvI (AE X i 0) = (evR L (AH L k + i)).kind := congrArg Ev.kind hev
        have sx : pvI (AE X i 1) = (evR L (AH L k + i)).side := congrArg Ev.side hev
        have LD : Hd N [.rows (Gd (zs (Qk (L1 L) (DJ L L.length)) (opn L L.length))), .int (k : Int), .int (evR L (AH L k + i)).side] = some [.int (fC d)] := by rw [← hd]; exact eO hN (by omega) hk
        have bx : (⟨pvI (AE X i 7), pvI (AE X i 8), pvI (AE X i 9), pvI (AE X i 10), pvI (AE X i 11), pvB (AE X i 12), pvI (AE X i 13), pvI (AE X i 14), pvI (AE X i 15), pvI (AE X i 16), pvB (AE X i 17), pvI (AE X i 18)⟩ : Del) = (evR L (AH L k + i)).ball := congrArg Ev.ball hev
        rw [kx]
        unfold aU
        cases ho : Rd (evR L (AH L k + i)) <;> cases h4 : (evR L (AH L k + i)).kind == 4 <;> cases h13 : (evR L (AH L k + i)).kind == 13
        all_goals simp only [PXb, PXc, PXn, AG, PXc, PXs, PXt, Nat.reduceAdd, Fa, Fu, bx, sx, LD, Fo, QL, List.length_set, Ab hk', hk', Sy hk', List.set_set, Cre.ls, ho, h4, h13]
        all_goals first
          | (cases (AB (⟨r0, r1, r2, r3, r4, r5, r6, r7, r8, r9, r10, r11, r12, r13⟩ : Rul) (evR L (AH L k + i)).ball).counts <;> rfl)
          | (cases d with
             | none => rfl
             | some j =>
               have dl : j < xs.length := by rw [hx]; exact gh hk hd
               have dl2 : ∀ y s, sco ((xs.set k y).set j s) j = s := fun y s => Sy (by rw [List.length_set]; exact dl) s
               simp only [fC, PXb, im, Ab dl, List.length_set, Sy dl, List.set_set, dl2])
      · simp only [PXb, PXc, PXn, AG, PXc, PXb, PXc, PXn, PXm, Nat.reduceAdd, Int.reduceBEq]
    · simp only [PXb, PXc, PXn, PXm, Nat.reduceAdd, Int.reduceBEq]
end Go.Px
end
section
namespace Go.Px
set_option maxRecDepth 100000
theorem NS {r : Rul} {L : Rows} (h : Bj r L = 0) : ((A9 r).2 == 0) = true ∧ A5 r = 0 ∧ L.length ≤ 4000 ∧ acc L L.length 0 (A9 r).1 ∧ BT r L = (stM L L.length 0 (A9 r).1, -1, 0) := by
 unfold Bj at h
 cases hc : A5 r == 0 with
 | false => rw [hc] at h; rw [show A5 r = 0 from h] at hc; cases hc
 | true =>
  cases hl : iLt 4000 (L.length : Int) with
  | true => rw [hc, hl] at h; cases h
  | false =>
   cases hr : (BT r L).2.2 == 0 with
   | false => rw [hc, hl, hr] at h; cases h
   | true =>
    have hn := (dJ r).trans hc
    have hrep : BT r L = Cp L L.length 0 (A9 r).1 := by unfold BT; rw [hn]; rfl
    obtain ⟨k, h1, h2, h3, h4⟩ := au L L.length 0 (A9 r).1
    have l4 : L.length ≤ 4000 := by simp only [iLt, decide_eq_false_iff_not] at hl; omega
    rcases h4 with ⟨h5, h6⟩ | ⟨h5, h6, h7⟩
    ·subst h5
     exact ⟨hn, beq_iff_eq.1 hc, l4, h2, hrep.trans h6⟩
    ·rw [hrep, h7] at hr
     rw [h6] at hr
     cases hr
theorem aO {r : Rul} {L : Rows} (h : Bj r L = 0) : InLog L ∧ RulOk r := by
 obtain ⟨h1, h2, h3, h4, h5⟩ := NS h
 obtain ⟨_, _, h6⟩ := Kj h1 h4 L.length (Nat.le_refl _)
 refine ⟨⟨h3, fun j hj k13 => ?_⟩, EN h2⟩
 have e := beq_iff_eq.1 k13
 have := (h6 j hj).2.play (by rw [e]; rfl) (by rw [e]; rfl) (by rw [e]; rfl) (by rw [e]; rfl)
 exact Nat.le_trans this (Pg L j)
theorem fi {r : Rul} {L : Rows} (h : Bj r L = 0) {j : Nat} (hj : j < opn L L.length) : j ≤ 3 ∧ (L1 L = 1 ∨ L1 L = 2) ∧ sdT L j = sdF L L.length j ∧ aM (L1 L) (DJ L L.length) j = sdF L L.length j := by
 obtain ⟨h1, h2, h3, h4, h5⟩ := NS h
 obtain ⟨_, _, h6⟩ := Kj h1 h4 L.length (Nat.le_refl _)
 obtain ⟨a, p1, p2, p3, p4, p5⟩ := UW (L := L) (by omega) L.length (Nat.le_refl _) j hj
 obtain ⟨q1, v, q2, q3⟩ := (h6 a p2).2.two p4
 rw [p3] at q1
 have f := RQ q2 (show a ≤ L.length by omega)
 have fs : L1 L = v := by unfold L1; rw [f]; rfl
 have oo : BD (BD (L1 L)) = L1 L := by rw [fs]; rcases q3 with e | e <;> rw [e] <;> decide
 have un := kz (L1 L) (DJ L L.length) q1
 refine ⟨q1, by rw [fs]; exact q3, ?_, un⟩
 unfold sdT
 rw [km oo]
 exact un
theorem Z8 {f g : Nat → Int} {s : Int} {n k : Nat} (h : ∀ j, j < n → f j = g j) (hk : k < n) : Cb f n k s = Cb g n k s := by
 unfold Cb
 rw [Oz (f := f) (g := g) (k + 1) (fun j hj => h j (by omega))]
 have fw : ∀ c i, i + c ≤ n → Mg f s c i = Mg g s c i := by
  intro c
  induction c with
  | zero => intro i _; rfl
  | succ c ih =>
   intro i hi
   unfold Mg
   rw [h i (by omega), ih (i + 1) (by omega)]
 rw [fw _ _ (by omega)]
theorem gd {r : Rul} {L : Rows} {f g : Nat → Int} {j : Nat} (h : ∀ j, j < opn L L.length → f j = g j) (hj : j < opn L L.length) : A1 r L f (opn L L.length) j L.length = A1 r L g (opn L L.length) j L.length := by
 have pn : ∀ i, i ≤ L.length → pnS L f (opn L L.length) j i = pnS L g (opn L L.length) j i := by
  intro i
  induction i with
  | zero => intro _; rfl
  | succ i ih =>
   intro hi
   have := ET L hi
   rw [R5, R5, ih (by omega), Z8 h (show opn L (i + 1) - 1 < opn L L.length by omega)]
 unfold A1
 rw [pn _ (Nat.le_refl _), h j hj]
theorem ei {r : Rul} {L : Rows} (h : Bj r L = 0) : E3 r L (sdT L) = (BT r L).1.inns.map (BS r.balls) ∧ (BT r L).1.inns.length = opn L L.length ∧ (BT r L).1.rules = r ∧ (BT r L).2.1 = -1 ∧ (BT r L).2.2 = 0 := by
 obtain ⟨h1, h2, h3, h4, h5⟩ := NS h
 have cl := iH h1 h4 L.length (Nat.le_refl _)
 obtain ⟨li, so, _⟩ := Kj h1 h4 L.length (Nat.le_refl _)
 have e : Cm (stM L L.length 0 (A9 r).1) = Cm (BT r L).1 := by rw [h5]
 have rl : (BT r L).1.rules = r := by rw [h5]; exact so.rules
 refine ⟨?_, by rw [h5]; exact li.len, rl, by rw [h5], by rw [h5]⟩
 have ax : (Cm (BT r L).1).xs = (BT r L).1.inns.map (BS r.balls) := by unfold Cm; rw [rl]
 rw [← ax, ← e]
 refine PG (by rw [cl.len]; unfold E3; rw [List.length_map, List.length_range]) (fun j hj => ?_)
 have hj : j < opn L L.length := by unfold E3 at hj; rw [List.length_map, List.length_range] at hj; exact hj
 rw [cl.at' j hj, ← gd (fun j hj => (fi h hj).2.2.1) hj, EW]
 unfold E3
 rw [List.getElem?_map, List.getElem?_range hj]
 rfl
theorem kv (r : Rul) (L : Rows) (sd : Nat → Int) : (E3 r L sd).length = opn L L.length := by unfold E3; rw [List.length_map, List.length_range]
theorem Sr {N : Nat} {L : Rows} (hN : 2097152 < N) (h : L.length ≤ 1048576) : Cw N [.rows L, .rows L] = some [.bool true] := by
 show EF (std (Jp N) N) (xOf _) = _
 simp only [EF, std, xOf, PXb, PXm]
 refine AZ (Cq (len := L.length) (fun i => [.int (i : Int)]) [.int 1] ?_ ?_ N (by omega)) ?_
 ·intro self
  simp only [PXb, PXc, PXn, AG, BM]
 ·intro i self hi
  simp only [PXb, PXc, PXn, PXm, Nat.reduceAdd, Int.reduceBEq, Ar (show i ≤ 1099511627776 by omega), A0 hi, Ab hi]
  rfl
 ·simp only [PXb, PXc, PXn, PXm, Nat.reduceAdd, Int.reduceBEq]
def prA (r : Rul) (L : Rows) (k p : Nat) : Cre := ⟨smi L (fun e => (Ao r e).batter) k p, smi L (fun e => (Ao r e).wides) k p, smi L (fun e => (Ao r e).noballs) k p, smi L (fun e => (Ao r e).byes) k p, smi L (fun e => (Ao r e).legbyes) k p, smi L (fun e => (Ao r e).bowler) k p, false, false, false, false⟩
theorem cE {r : Rul} {L : Rows} {k p : Nat} (h : opn L p ≤ k) : prA r L k p = Jw := by
 unfold prA
 have z : ∀ f : Ev → Int, smi L f k p = 0 := fun f => Sw p h
 simp only [z]
 rfl
theorem kL {r : Rul} (h : RulOk r) (e : Ev) : 0 ≤ (Ao r e).bowler ∧ (Ao r e).bowler ≤ 36 := by
 have c := EL h e
 have h0 := c.ba
 have h1 := c.wi
 have h2 := c.no
 have h3 := c.bo
 omega
def gN (a c : Cre) : Cre := ⟨IntKind.i64.wrap (a.batter + c.batter), IntKind.i64.wrap (a.wides + c.wides), IntKind.i64.wrap (a.noballs + c.noballs), IntKind.i64.wrap (a.byes + c.byes), IntKind.i64.wrap (a.legbyes + c.legbyes), IntKind.i64.wrap (a.bowler + c.bowler), false, false, false, false⟩
theorem jh {r : Rul} {L : Rows} {k p : Nat} (rk : RulOk r) (ho : opn L (p + 1) = k + 1) (hp : p < 4000) : prA r L k (p + 1) = gN (prA r L k p) (Ao r (evR L p)) := by
 have hy : Nat.beq (opn L (p + 1)) (k + 1) = true := by rw [ho]; exact PK _
 have c := EL rk (evR L p)
 have h0 := c.ba
 have h1 := c.wi
 have h2 := c.no
 have h3 := c.bb
 have h4 := c.lb
 have h5 := kL rk (evR L p)
 have b0 := H2 (L := L) (f := fun e => (Ao r e).batter) (fun e => (EL rk e).ba) k p
 have b1 := H2 (L := L) (f := fun e => (Ao r e).wides) (fun e => (EL rk e).wi) k p
 have b2 := H2 (L := L) (f := fun e => (Ao r e).noballs) (fun e => (EL rk e).no) k p
 have b3 := H2 (L := L) (f := fun e => (Ao r e).byes) (fun e => (EL rk e).bb) k p
 have b4 := H2 (L := L) (f := fun e => (Ao r e).legbyes) (fun e => (EL rk e).lb) k p
 have b5 := H2 (L := L) (f := fun e => (Ao r e).bowler) (kL rk) k p
 unfold prA gN
 simp only [P0, hy, cond_true]
 rw [BB (n := smi L (fun e => (Ao r e).batter) k p + _) (by omega) (by omega), BB (n := smi L (fun e => (Ao r e).wides) k p + _) (by omega) (by omega), BB (n := smi L (fun e => (Ao r e).noballs) k p + _) (by omega) (by omega), BB (n := smi L (fun e => (Ao r e).byes) k p + _) (by omega) (by omega), BB (n := smi L (fun e => (Ao r e).legbyes) k p + _) (by omega) (by omega), BB (n := smi L (fun e => (Ao r e).bowler) k p + _) (by omega) (by omega)]
theorem jg {r : Rul} {L : Rows} {k p : Nat} (h4 : ((evR L p).kind == 4) = false) : prA r L k (p + 1) = prA r L k p := by
 have c0 : Ao r (evR L p) = Jw := by unfold Ao; rw [h4]; rfl
 unfold prA
 simp only [P0, c0, Jw]
 cases Nat.beq (opn L (p + 1)) (k + 1) <;> simp only [cond_true, cond_false, Int.add_zero]
def aY (r : Rul) (L : Rows) (k : Int) : Cre × Int := cond (!(Bj r L == 0)) (Jw, Bj r L) (cond (iLt k 0 || iLe (opn L L.length : Int) k) (Jw, 2) (prA r L k.toNat L.length, 0))
def aI (x : Cre × Int) : List PV := [.int x.1.batter, .int x.1.wides, .int x.1.noballs, .int x.1.byes, .int x.1.legbyes, .int x.1.bowler, .bool x.1.counts, .bool x.1.faced, .bool x.1.wicket, .bool x.1.swap, .int x.2]
theorem Zi {L : Rows} {f : Ev → Int} {k p : Nat} (h : opn L p = k + 1) (hp : p ≤ L.length) (hn : p = L.length ∨ ((evR L p).kind == 2) = true) : ∀ c, p + c ≤ L.length → smi L f k (p + c) = smi L f k p
 | 0, _ => rfl
 | c + 1, hc => by
  rw [show p + (c + 1) = p + c + 1 by omega, P0, Zi h hp hn c (by omega)]
  rcases hn with hn | hn
  ·omega
  ·have := ET L (show p + 1 ≤ p + c + 1 by omega)
   rw [P5 hn] at this
   rw [R6 (by omega), cond_false, Int.add_zero]
theorem iV {L : Rows} (hL : L.length ≤ 1048576) {k : Nat} (hk : k < opn L L.length) : AH L (k + 1) = L.length ∨ ((evR L (AH L (k + 1))).kind == 2) = true := by
 by_cases h : k + 1 < opn L L.length
 ·obtain ⟨a, p1, p2, p3, p4, p5⟩ := UW hL L.length (Nat.le_refl _) (k + 1) h
  have : AH L (k + 1) = a := by unfold AH; rw [if_pos h, p1]; rfl
  rw [this]
  exact Or.inr p4
 ·exact Or.inl (by unfold AH; rw [if_neg h])
theorem lc {L : Rows} (hL : L.length ≤ 1048576) {f : Ev → Int} {k : Nat} (hk : k < opn L L.length) : smi L f k L.length = smi L f k (AH L (k + 1)) := by
 have sg := seg hL hk
 have := Zi (f := f) sg.o1 sg.le (iV hL hk) (L.length - AH L (k + 1)) (by have := sg.le; omega)
 rw [show AH L (k + 1) + (L.length - AH L (k + 1)) = L.length by have := sg.le; omega] at this
 exact this
theorem lA {r : Rul} {L : Rows} (hL : L.length ≤ 1048576) {k : Nat} (hk : k < opn L L.length) : prA r L k L.length = prA r L k (AH L (k + 1)) := by
 unfold prA
 simp only [lc hL hk]
theorem hY {N : Nat} {r : Rul} {L : Rows} {k : Nat} (hN : 2097152 < N) (il : InLog L) (rk : RulOk r) (hk : k < opn L L.length) {F : (List AQ → Option (List PV)) → List PV → Option (List PV)}
    (f0 : ∀ (c : Cre) self, F self [.int ((AH L (k + 1) - AH L k : Nat) : Int), .int c.batter, .int c.wides, .int c.noballs, .int c.byes, .int c.legbyes, .int c.bowler, .bool false, .bool false, .bool false, .bool false] = some [.int c.batter, .int c.wides, .int c.noballs, .int c.byes, .int c.legbyes, .int c.bowler, .bool false, .bool false, .bool false, .bool false])
    (f1 : ∀ (i : Nat) self, i < AH L (k + 1) - AH L k → ∀ c : Cre, F self [.int (i : Int), .int c.batter, .int c.wides, .int c.noballs, .int c.byes, .int c.legbyes, .int c.bowler, .bool false, .bool false, .bool false, .bool false] = (let d := cond ((evR L (AH L k + i)).kind == 4) (gN c (Ao r (evR L (AH L k + i)))) c; self [.int ((i + 1 : Nat) : Int), .int d.batter, .int d.wides, .int d.noballs, .int d.byes, .int d.legbyes, .int d.bowler, .bool false, .bool false, .bool false, .bool false])) :
    DI F N [.int 0, .int 0, .int 0, .int 0, .int 0, .int 0, .int 0, .bool false, .bool false, .bool false, .bool false] = some (prA r L k (AH L (k + 1))).ls := by
  have sg := seg (by have := il.len; omega) hk
  have h1 := sg.lt
  have h2 := sg.le
  have h3 := il.len
  have e : AH L k + (AH L (k + 1) - AH L k) = AH L (k + 1) := by omega
  have z0 : prA r L k (AH L k) = Jw := cE (by rw [sg.o0]; exact Nat.le_refl _)
  have := Cq (F := F) (len := AH L (k + 1) - AH L k) (fun i => [.int (i : Int), .int (prA r L k (AH L k + i)).batter, .int (prA r L k (AH L k + i)).wides, .int (prA r L k (AH L k + i)).noballs, .int (prA r L k (AH L k + i)).byes, .int (prA r L k (AH L k + i)).legbyes, .int (prA r L k (AH L k + i)).bowler, .bool false, .bool false, .bool false, .bool false]) (prA r L k (AH L (k + 1))).ls
    (fun self => by
      have := f0 (prA r L k (AH L k + (AH L (k + 1) - AH L k))) self
      rw [e] at this
      show F self [.int ((AH L (k + 1) - AH L k : Nat) : Int), .int (prA r L k (AH L k + (AH L (k + 1) - AH L k))).batter, .int (prA r L k (AH L k + (AH L (k + 1) - AH L k))).wides, .int (prA r L k (AH L k + (AH L (k + 1) - AH L k))).noballs, .int (prA r L k (AH L k + (AH L (k + 1) - AH L k))).byes, .int (prA r L k (AH L k + (AH L (k + 1) - AH L k))).legbyes, .int (prA r L k (AH L k + (AH L (k + 1) - AH L k))).bowler, .bool false, .bool false, .bool false, .bool false] = _
      rw [e, this]
      rfl)
    (fun i self hi => by
      have f2 := f1 i self hi (prA r L k (AH L k + i))
      have st : prA r L k (AH L k + i + 1) = cond ((evR L (AH L k + i)).kind == 4) (gN (prA r L k (AH L k + i)) (Ao r (evR L (AH L k + i)))) (prA r L k (AH L k + i)) := by
        cases h4 : (evR L (AH L k + i)).kind == 4 with
        | true => exact jh rk (sg.mid _ (by omega) (by omega)) (by omega)
        | false => exact jg h4
      rw [← st] at f2
      exact f2) N (by omega)
  rw [Nat.add_zero, z0] at this
  exact this
set_option maxHeartbeats 4000000 in
theorem Xt {N : Nat} {r1 r2 r3 r4 r5 r6 r7 r9 r10 r11 r12 : Int} {r8 : Bool} {r0 : ByteArray} {r13 : Rows} {L : Rows} {k : Int} (hN : 2097152 < N) (hs : r0.size ≤ 1048576) (h13 : r13.length ≤ 1048576) (hL : L.length ≤ 1048576) : Dk N [.str r0, .int r1, .int r2, .int r3, .int r4, .int r5, .int r6, .int r7, .bool r8, .int r9, .int r10, .int r11, .int r12, .rows r13, .rows L, .int k] = some (aI (aY (⟨r0, r1, r2, r3, r4, r5, r6, r7, r8, r9, r10, r11, r12, r13⟩ : Rul) L k)) := by
 show H3 (std (D7 N) N) (xOf _) = _
 generalize hres : (some (aI (aY (⟨r0, r1, r2, r3, r4, r5, r6, r7, r8, r9, r10, r11, r12, r13⟩ : Rul) L k)) : Option (List PV)) = RR
 simp only [H3, MX, O6, Eu, std, xOf, PXb, WI hN hs h13 hL, I9 hN hL, PXp, M1]
 subst hres; simp only [aY]
 cases hc : Bj (⟨r0, r1, r2, r3, r4, r5, r6, r7, r8, r9, r10, r11, r12, r13⟩ : Rul) L == 0 with
 | false => rfl
 | true =>
  obtain ⟨il, rk⟩ := aO (beq_iff_eq.1 hc)
  simp only [PXb, Bool.not_true]
  cases hb : iLt k 0 || iLe (opn L L.length : Int) k with
  | true => rfl
  | false =>
   simp only [Bool.or_eq_false_iff, iLt, iLe, decide_eq_false_iff_not] at hb
   obtain ⟨K, rfl⟩ : ∃ K : Nat, k = (K : Int) := ⟨k.toNat, by omega⟩
   have hk : K < opn L L.length := by omega
   have sg := seg hL hk
   have sgl := sg.lt
   have sge := sg.le
   have l4 := il.len
   have rg : iRg (AH L K : Int) (AH L (K + 1) : Int) (L.length : Int) = true := by simp only [iRg, decide_eq_true_eq]; omega
   have sl := ez (L := L) (a := AH L K) sge
   simp only [PXb, Ab hk, sg.x0, sg.x1, rg, lA hL hk, Int.toNat_natCast]
   generalize hX : List.drop (AH L K) (List.take (AH L (K + 1)) L) = X at *
   have z0 : prA (⟨r0, r1, r2, r3, r4, r5, r6, r7, r8, r9, r10, r11, r12, r13⟩ : Rul) L K (AH L K) = Jw := cE (by rw [sg.o0]; exact Nat.le_refl _)
   have e1 : AH L K + (AH L (K + 1) - AH L K) = AH L (K + 1) := by omega
   refine AZ (hY hN il rk hk ?_ ?_) rfl
   ·intro c self
    simp only [PXb, PXc, PXn, AG, sl, BM]
   ·intro i self hi c
    have hev : evR X i = evR L (AH L K + i) := by rw [← hX]; exact iu L i hi
    have kx : pvI (AE X i 0) = (evR L (AH L K + i)).kind := congrArg Ev.kind hev
    have bx : (⟨pvI (AE X i 7), pvI (AE X i 8), pvI (AE X i 9), pvI (AE X i 10), pvI (AE X i 11), pvB (AE X i 12), pvI (AE X i 13), pvI (AE X i 14), pvI (AE X i 15), pvI (AE X i 16), pvB (AE X i 17), pvI (AE X i 18)⟩ : Del) = (evR L (AH L K + i)).ball := congrArg Ev.ball hev
    simp only [PXb, PXc, PXn, AG, PXc, sl, Kp (show i ≤ 1099511627776 by omega), A0 hi, Ab hi, Nat.reduceAdd, kx, Eu, Fu, bx, Cre.ls]
    unfold Ao
    cases h4 : (evR L (AH L K + i)).kind == 4 <;> rfl
end Go.Px
end
section
namespace Go.Px
set_option maxRecDepth 100000
theorem iY {N : Nat} {L : Rows}  : NR N [.rows L] = some [.rows (cut L 60)] := by
 show Nq (std (JX N) N) (xOf _) = _
 simp only [Nq, std, xOf, PXb, PXc, PXn, PXm, Nat.reduceAdd, Int.reduceBEq, mf (show (0 : Int) ≤ 60 by omega)]
 rfl
theorem Tt {N : Nat} {L : Rows} (hN : 2097152 < N) (h : L.length ≤ 1048576) : DF N [.rows L, .rows L] = some [.bool true] := by
 show Ej (std (Kk N) N) (xOf _) = _
 simp only [Ej, std, xOf, PXb, PXm]
 refine AZ (Cq (len := L.length) (fun i => [.int (i : Int)]) [.int 1] ?_ ?_ N (by omega)) ?_
 ·intro self
  simp only [PXb, PXc, PXn, AG, BM]
 ·intro i self hi
  simp only [PXb, PXc, PXn, PXm, Nat.reduceAdd, Int.reduceBEq, Ar (show i ≤ 1099511627776 by omega), A0 hi, Ab hi]
  rfl
 ·simp only [PXb, PXc, PXn, PXm, Nat.reduceAdd, Int.reduceBEq]
def Lq (k s p o : Int) (y : Bool) (t f n b h v : Int) : List PV := [.int k, .int s, .int p, .int o, .bool y, .int 0, .int 0, .int t, .int f, .int n, .int 0, .int b, .bool false, .int h, .int v, .int 0, .int 0, .bool false, .int 0]
def F6 : Rows := [Lq 1 1 0 0 true 0 0 0 0 0 0, Lq 2 0 1 2 false 0 0 0 0 0 0, Lq 8 0 2 0 false 0 0 0 0 0 0, Lq 3 0 1 0 false 0 0 0 0 0 0, Lq 4 0 0 0 false 1 1 1 0 0 0, Lq 4 0 0 0 false 1 0 0 0 1 1, Lq 2 0 2 1 false 0 0 0 0 0 0, Lq 8 0 1 0 false 0 0 0 0 0 0, Lq 3 0 2 0 false 0 0 0 0 0 0, Lq 4 0 0 0 false 2 0 0 0 0 0, Lq 4 0 0 0 false 1 1 0 4 0 0]
def LZ : Rul := ⟨⟨#[84, 69, 83, 84]⟩, 2, 1, 1, 4, 0, 1, 1, false, 0, 0, 0, 11, []⟩
theorem kO : Nr 4194304 [] = some [.rows F6] := by kernel_rfl
theorem kj : Js 4194304 [] = some LZ.ls := by kernel_rfl
theorem kV : Bj LZ F6 = 0 := by kernel_rfl
theorem nB : E3 LZ F6 (sdT F6) = [⟨1, 1, 1, 2, 0, 0, 0, 0, 0, 0⟩, ⟨2, 5, 0, 1, 1, 0, 0, 0, 0, 0⟩] := by kernel_rfl
theorem me : aY LZ F6 1 = (⟨4, 1, 0, 0, 0, 5, false, false, false, false⟩, 0) := by kernel_rfl
theorem md : E0 (Bp F6 F6.length) = [[.int 1, .int 6], [.int 6, .int 11]] := by kernel_rfl
theorem VT {x : Option (List PV)} {v : List PV} {f : List PV → Option (List PV)} {r : Option (List PV)} (h : x = some v) (hk : f v = r) : x.bind f = r := by rw [h]; exact hk
set_option maxHeartbeats 2000000 in
theorem dk : JT 4194304 [] = some [.bool true] := by
 have hs : LZ.name.size ≤ 1048576 := by decide
 have hl : F6.length ≤ 1048576 := by decide
 have hN : 2097152 < 4194304 := by omega
 have k1 : Cg 4194304 (LZ.ls ++ [.rows F6]) = some [.rows (cond (!(Bj LZ F6 == 0)) [] (Ah (E3 LZ F6 (sdT F6)))), .int (Bj LZ F6)] := MW hN hs (Nat.zero_le _) hl aO
 have k2 : Dk 4194304 (LZ.ls ++ [.rows F6, .int 1]) = some (aI (aY LZ F6 1)) := Xt hN hs (Nat.zero_le _) hl
 have k3 := I9 (L := F6) hN hl
 rw [kV, nB] at k1
 rw [me] at k2
 rw [md] at k3
 show NA (std (Ca 4194304) 4194304) (xOf []) = _
 simp only [NA, MA, PO, Pc, K8, O1, SF, Tr, std, xOf, PXb, kO, kj]
 refine VT k1 ?_
 simp only [PXb, PXc, PXn, PXm, Nat.reduceAdd, Int.reduceBEq]
 refine VT k2 ?_
 simp only [aI, PXb, PXc, PXn, PXm, Nat.reduceAdd, Int.reduceBEq, Int.reduceBEq]
 refine VT (Sr (L := Ah [⟨1, 1, 1, 2, 0, 0, 0, 0, 0, 0⟩, ⟨2, 5, 0, 1, 1, 0, 0, 0, 0, 0⟩]) hN (by decide)) ?_
 simp only [PXb, PXc, PXn, PXm, Nat.reduceAdd, Int.reduceBEq, kO, k3]
 refine VT (Tt (L := [[.int 1, .int 6], [.int 6, .int 11]]) hN (by decide)) ?_
 rfl
theorem ml (L : Rows) : (cut L 60).length ≤ 1048576 := Nat.le_trans (l7 L 60) (show 60 ≤ 1048576 by omega)
end Go.Px
end
section
namespace Go.Px
set_option maxRecDepth 100000
structure Up (x y : Sco) : Prop where
 side : y.side = x.side
 runs : x.runs ≤ y.runs
 wk : x.wickets ≤ y.wickets
 balls : x.balls ≤ y.balls
theorem Up.refl (x : Sco) : Up x x := ⟨rfl, Int.le_refl _, Int.le_refl _, Int.le_refl _⟩
theorem kW {r : Rul} (rk : RulOk r) (e : Ev) (x : Sco) : Up x (LH r e x) := by
 have t := fD rk e
 have o := iC e
 unfold Wy at t
 refine ⟨rfl, ?_, ?_, ?_⟩
 ·show x.runs ≤ x.runs + Cl (Ao r e); omega
 ·show x.wickets ≤ x.wickets + LM e; omega
 ·show x.balls ≤ x.balls + cond (Ao r e).counts 1 0
  cases (Ao r e).counts <;> simp only [cond_true, cond_false] <;> omega
theorem lL (x : Sco) : Up x (Hm 5 x) := ⟨rfl, (by show x.runs ≤ x.runs + 5; omega), Int.le_refl _, Int.le_refl _⟩
theorem j4 {r : Rul} (rk : RulOk r) (e : Ev) (T : TS) : T.xs.length ≤ (Lg r e T).xs.length ∧ ∀ j, j < T.xs.length → Up (sco T.xs j) (sco (Lg r e T).xs j) := by
 refine ⟨by rw [(YC r e T).1]; exact Nat.le_add_right _ _, fun j hj => ?_⟩
 unfold Lg
 cases e.kind == 1 with
 | true => exact Up.refl _
 | false =>
  cases e.kind == 2 with
  | true =>
   show Up _ (sco (T.xs ++ [_]) j)
   rw [em _ _ _ (by omega), if_pos hj]
   exact Up.refl _
  | false =>
   cases e.kind == 12 with
   | true => exact Up.refl _
   | false =>
    cases e.kind == 16 with
    | true => exact Up.refl _
    | false =>
     cases e.kind == 13 with
     | true =>
      show Up _ (sco (Pt e.side T).xs j)
      unfold Pt
      cases BX (fun k => (sco T.xs k).side) e.side T.xs.length with
      | none => exact Up.refl _
      | some k =>
       show Up _ (sco (T.xs.set k _) j)
       rw [Mm _ _ _ _ hj]
       by_cases h : k = j
       ·rw [if_pos h, h]; exact lL _
       ·rw [if_neg h]; exact Up.refl _
     | false =>
      show Up _ (sco (T.xs.set _ _) j)
      rw [Mm _ _ _ _ hj]
      by_cases h : T.xs.length - 1 = j
      ·rw [if_pos h, h]; exact kW rk e _
      ·rw [if_neg h]; exact Up.refl _
theorem dn {r : Rul} {L : Rows} {n : Nat} (h : Bj r L = 0) (hn : n ≤ L.length) : Bj r (BG L (n : Int)) = 0 ∧ (BT r (BG L (n : Int))).1 = stM L n 0 (A9 r).1 := by
 obtain ⟨h1, h2, h3, h4, h5⟩ := NS h
 have hc : (A5 r == 0) = true := by rw [h2]; rfl
 have an := iA L.length n 0 _ hn h4
 have rp := eE hc hn an
 refine ⟨?_, by rw [rp]⟩
 unfold Bj
 have : iLt 4000 (n : Int) = false := by simp only [iLt, decide_eq_false_iff_not]; omega
 rw [hc, rp, XX hn, this]
 rfl
theorem fH {r : Rul} {L : Rows} {n : Nat} (h : Bj r L = 0) (hn : L.length = n + 1) : Bj r (BG L (n : Int)) = 0 ∧ (E3 r (BG L (n : Int)) (sdT (BG L (n : Int)))).length ≤ (E3 r L (sdT L)).length ∧
    ∀ j, j < (E3 r (BG L (n : Int)) (sdT (BG L (n : Int)))).length → Up (sco (E3 r (BG L (n : Int)) (sdT (BG L (n : Int)))) j) (sco (E3 r L (sdT L)) j) := by
  obtain ⟨h1, h2, h3, h4, h5⟩ := NS h
  obtain ⟨c1, c2⟩ := dn h (show n ≤ L.length by omega)
  obtain ⟨_, _, hi⟩ := Kj h1 h4 L.length (Nat.le_refl _)
  have st := (hi n (by omega)).1
  obtain ⟨t1, _, t3, _⟩ := ei h
  obtain ⟨u1, _, u3, _⟩ := ei c1
  have ax : (Cm (BT r L).1).xs = E3 r L (sdT L) := by rw [t1]; unfold Cm; rw [t3]
  have bx : (Cm (BT r (BG L (n : Int))).1).xs = E3 r (BG L (n : Int)) (sdT (BG L (n : Int))) := by rw [u1]; unfold Cm; rw [u3]
  rw [h5, hn] at ax
  rw [c2] at bx
  rw [st] at ax
  have up := j4 (EN h2) (evR L n) (Cm (stM L n 0 (A9 r).1))
  rw [ax, bx] at up
  exact ⟨c1, up⟩
theorem aV {a b : Int} (h : a ≤ b) : iLt b a = false := by simp only [iLt, decide_eq_false_iff_not]; omega
set_option maxHeartbeats 4000000 in
theorem Vp {N : Nat} {r1 r2 r3 r4 r5 r6 r7 r9 r10 r11 r12 : Int} {r8 : Bool} {r0 : ByteArray} {r13 : Rows} {L : Rows} (ha : JT N [] = some [.bool true]) (hN : 2097152 < N) (hs : r0.size ≤ 1048576) (h13 : r13.length ≤ 1048576) : Dy N [.str r0, .int r1, .int r2, .int r3, .int r4, .int r5, .int r6, .int r7, .bool r8, .int r9, .int r10, .int r11, .int r12, .rows r13, .rows L] = some [.bool true] := by
 show Dz (std (Bb N) N) (xOf _) = _
 have l := ml L
 simp only [Dz, NZ, PE, Ld, std, xOf, PXb, PXc, PXn, PXm, Nat.reduceAdd, Int.reduceBEq, ha, iY, PXc]
 generalize cut L 60 = X at *
 cases h0 : (X.length : Int) == 0 with
 | true => rfl
 | false =>
  obtain ⟨n, hn⟩ : ∃ n, X.length = n + 1 := ⟨X.length - 1, by rw [beq_eq_false_iff_ne] at h0; omega⟩
  have w1 : IntKind.i64.wrap ((X.length : Int) - 1) = (n : Int) := by rw [DB (by omega) (by omega)]; omega
  have rg : iRg 0 (n : Int) (X.length : Int) = true := by simp only [iRg, decide_eq_true_eq]; omega
  have E : List.drop (Int.toNat 0) (List.take n X) = BG X (n : Int) := rfl
  have lf : (BG X (n : Int)).length ≤ 1048576 := Nat.le_trans (gY X _) l
  simp only [PXb, w1, rg, E, MW hN hs h13 l aO, MW hN hs h13 lf aO]
  cases hc : Bj (⟨r0, r1, r2, r3, r4, r5, r6, r7, r8, r9, r10, r11, r12, r13⟩ : Rul) X == 0 with
  | false => simp only [PXb, PXc, PXn, PXm, Nat.reduceAdd, Int.reduceBEq, hc]
  | true =>
   have c0 := beq_iff_eq.1 hc
   obtain ⟨p1, p2, p3⟩ := fH c0 hn
   rw [p1]
   have e1 : iLt ((E3 (⟨r0, r1, r2, r3, r4, r5, r6, r7, r8, r9, r10, r11, r12, r13⟩ : Rul) X (sdT X)).length : Int) ((E3 (⟨r0, r1, r2, r3, r4, r5, r6, r7, r8, r9, r10, r11, r12, r13⟩ : Rul) (BG X (n : Int)) (sdT (BG X (n : Int)))).length : Int) = false := aV (by omega)
   have tl := kv (⟨r0, r1, r2, r3, r4, r5, r6, r7, r8, r9, r10, r11, r12, r13⟩ : Rul) (BG X (n : Int)) (sdT (BG X (n : Int)))
   have ol := R4 (BG X (n : Int)) (BG X (n : Int)).length
   generalize E3 (⟨r0, r1, r2, r3, r4, r5, r6, r7, r8, r9, r10, r11, r12, r13⟩ : Rul) (BG X (n : Int)) (sdT (BG X (n : Int))) = A at *
   generalize E3 (⟨r0, r1, r2, r3, r4, r5, r6, r7, r8, r9, r10, r11, r12, r13⟩ : Rul) X (sdT X) = B at *
   simp only [PXb, PXc, PXn, PXm, Nat.reduceAdd, Int.reduceBEq, Int.reduceBEq, PXs, e1]
   refine AZ (Cq (len := A.length) (fun i => [.int (i : Int)]) [.int 1] ?_ ?_ N (by omega)) ?_
   ·intro self
    simp only [PXb, PXc, PXn, AG, BM]
   ·intro i self hi
    have u := p3 i hi
    simp only [PXb, PXc, PXn, PXm, Nat.reduceAdd, Int.reduceBEq, PXs, Ar (show i ≤ 1099511627776 by omega), A0 hi, Ab hi, Ab (show i < B.length by omega), aV u.runs, aV u.wk, aV u.balls, u.side, beq_self_eq_true]
    rfl
   ·simp only [PXb, PXc, PXn, PXm, Nat.reduceAdd, Int.reduceBEq]
end Go.Px
end
