/- Part 13. -/
import Derived.Test.YtmpgkalgfmnpjaaGreatPart12
import Derived.KernelRfl
set_option linter.unusedVariables false
set_option linter.unusedSimpArgs false
section
namespace Go.Px
set_option maxRecDepth 100000
theorem Mu {xs ys : List Sco} (hl : xs.length = ys.length) (h : ∀ j, j < xs.length → sco xs j = sco ys j) : xs = ys := by
 apply List.ext_getElem?
 intro i
 by_cases hi : i < xs.length
 ·have := h i hi
  rw [D0, D0, List.getElem?_eq_getElem hi, List.getElem?_eq_getElem (by omega)] at this
  rw [List.getElem?_eq_getElem hi, List.getElem?_eq_getElem (by omega)]
  exact congrArg some this
 ·rw [List.getElem?_eq_none (by omega), List.getElem?_eq_none (by omega)]
def Db (r : Rul) (L : Rows) (sd : Nat → Int) (n q i : Nat) : List Sco := (List.range n).map fun j => { A4 r L sd n j i with side := cond (Nat.blt j q) (sd j) 0 }
theorem Ci (r : Rul) (L : Rows) (sd : Nat → Int) (n q i : Nat) : (Db r L sd n q i).length = n := by unfold Db; rw [List.length_map, List.length_range]
theorem F7 (r : Rul) (L : Rows) (sd : Nat → Int) {n q i j : Nat} (h : j < n) : sco (Db r L sd n q i) j = { A4 r L sd n j i with side := cond (Nat.blt j q) (sd j) 0 } := by
 rw [D0]
 unfold Db
 rw [List.getElem?_map, List.getElem?_range h]
 rfl
theorem Vn {a b : Nat} (h : a < b) : Nat.blt a b = true := Nat.ble_eq_true_of_le h
theorem bh {a b : Nat} (h : ¬ a < b) : Nat.blt a b = false := by
 cases hq : Nat.blt a b with
 | false => rfl
 | true => exact absurd (Nat.le_of_ble_eq_true hq) h
theorem Su {xs : List Sco} {k : Nat} (h : k < xs.length) (s : Sco) : sco (xs.set k s) k = s := by rw [PX _ _ _ _ h, if_pos rfl]
theorem jN {r : Rul} {L : Rows} {sd : Nat → Int} {n k i : Nat} (h : k < n) : (Db r L sd n k i).set k { sco (Db r L sd n k i) k with side := sd k } = Db r L sd n (k + 1) i := by
 refine Mu (by rw [List.length_set, Ci, Ci]) (fun j hj => ?_)
 rw [List.length_set, Ci] at hj
 rw [PX _ _ _ _ (by rw [Ci]; exact hj), F7 _ _ _ h, F7 _ _ _ hj, F7 _ _ _ hj]
 by_cases e : k = j
 ·subst e
  rw [if_pos rfl, Vn (Nat.lt_succ_self k)]
  rfl
 ·rw [if_neg e]
  have : Nat.blt j k = Nat.blt j (k + 1) := by
   by_cases hl : j < k
   ·rw [Vn hl, Vn (by omega)]
   ·rw [bh hl, bh (by omega)]
  rw [this]
theorem lY (r : Rul) (L : Rows) (sd : Nat → Int) (n i : Nat) : Db r L sd n n i = (List.range n).map fun j => A4 r L sd n j i := by
 refine Mu (by rw [Ci, List.length_map, List.length_range]) (fun j hj => ?_)
 rw [Ci] at hj
 rw [F7 _ _ _ hj, D0, List.getElem?_map, List.getElem?_range hj, Vn hj]
 rfl
theorem jW {r : Rul} {L : Rows} {sd : Nat → Int} {n i : Nat} (ho : opn L i = 0) (h13 : ∀ j, j < i → ((evR L j).kind == 13) = true → 1 ≤ opn L (j + 1)) : List.replicate n dS = Db r L sd n 0 i := by
 have pz : ∀ j, pnS L sd n j i = 0 := fun j => by
  have : ∀ m, m ≤ i → pnS L sd n j m = 0 := by
   intro m
   induction m with
   | zero => intro _; rfl
   | succ m ih =>
    intro hm
    rw [Sa, ih (by omega)]
    cases k13 : (evR L m).kind == 13 with
    | false => rfl
    | true =>
     have h1 := h13 m (by omega) k13
     have h2 := ES L (show m + 1 ≤ i by omega)
     omega
  exact this i (Nat.le_refl i)
 refine Mu (by rw [Ci, List.length_replicate]) (fun j hj => ?_)
 rw [List.length_replicate] at hj
 rw [F7 _ _ _ hj, D0, List.getElem?_replicate, if_pos hj, bh (by omega)]
 unfold A4
 have z : ∀ f : Ev → Int, smi L f j i = 0 := fun f => S6 i (by omega)
 simp only [pz, z]
 rfl
theorem U3 {r : Rul} {L : Rows} {sd : Nat → Int} {n k q i : Nat} {y : Sco} (hk : k < n) (hy : y = { A4 r L sd n k (i + 1) with side := cond (Nat.blt k q) (sd k) 0 }) (ho : ∀ j, j < n → ¬ k = j → A4 r L sd n j (i + 1) = A4 r L sd n j i) :
    (Db r L sd n q i).set k y = Db r L sd n q (i + 1) := by
  refine Mu (by rw [List.length_set, Ci, Ci]) (fun j hj => ?_)
  rw [List.length_set, Ci] at hj
  rw [PX _ _ _ _ (by rw [Ci]; exact hj), F7 _ _ _ hj, F7 _ _ _ hj]
  by_cases e : k = j
  · subst e
    rw [if_pos rfl, hy]
  · rw [if_neg e, ho j hj e]
theorem bi {r : Rul} {L : Rows} {sd : Nat → Int} {n q i : Nat} (ho : ∀ j, j < n → A4 r L sd n j (i + 1) = A4 r L sd n j i) : Db r L sd n q i = Db r L sd n q (i + 1) := by
 refine Mu (by rw [Ci, Ci]) (fun j hj => ?_)
 rw [Ci] at hj
 rw [F7 _ _ _ hj, F7 _ _ _ hj, ho j hj]
def ac (r : Rul) (e : Ev) (k : Nat) (d : Option Nat) (xs : List Sco) : List Sco :=
  let x1 := cond (Ri e) (xs.set k { sco xs k with wickets := IntKind.i64.wrap ((sco xs k).wickets + 1) }) xs
  let c := AB r e.ball
  cond (e.kind == 4)
    (x1.set k { sco x1 k with runs := IntKind.i64.wrap ((sco x1 k).runs + C9 c), balls := cond c.counts (IntKind.i64.wrap ((sco x1 k).balls + 1)) (sco x1 k).balls, wides := IntKind.i64.wrap ((sco x1 k).wides + c.wides), noballs := IntKind.i64.wrap ((sco x1 k).noballs + c.noballs), byes := IntKind.i64.wrap ((sco x1 k).byes + c.byes), legbyes := IntKind.i64.wrap ((sco x1 k).legbyes + c.legbyes) })
    (cond (e.kind == 13) (match d with
      | some j => x1.set j { sco x1 j with runs := IntKind.i64.wrap ((sco x1 j).runs + 5), pens := IntKind.i64.wrap ((sco x1 j).pens + 5) }
      | none => x1) x1)
theorem ir {sd : Nat → Int} {n k j : Nat} {s : Int} (hk : k < n) (h : Cg sd n k s = some j) : j < n := by
 rcases (dX h).2 with h | h <;> omega
theorem jT {r : Rul} {L : Rows} {sd : Nat → Int} {n k i : Nat} (rk : RulOk r) (hk : k < n) (ho : opn L (i + 1) = k + 1) (hi : i < 4000) : ac r (evR L i) k (Cg sd n k (evR L i).side) (Db r L sd n (k + 1) i) = Db r L sd n (k + 1) (i + 1) := by
 have hn : ∀ j, ¬ k = j → Nat.beq (opn L (i + 1)) (j + 1) = false := fun j hj => R1 (by omega)
 have hy : Nat.beq (opn L (i + 1)) (k + 1) = true := by rw [ho]; exact PS _
 have sm := fun j => lV rk L sd n j (show i ≤ 4000 by omega)
 have cs := S9 r L sd n
 have hp : opn L (i + 1) - 1 = k := by omega
 have tl : k < (Db r L sd n (k + 1) i).length := by rw [Ci]; exact hk
 unfold ac
 cases h4 : (evR L i).kind == 4 with
 | true =>
  have k4 := beq_iff_eq.1 h4
  have h13 : ((evR L i).kind == 13) = false := by rw [k4]; rfl
  have ce : Ar r (evR L i) = AB r (evR L i).ball := by unfold Ar; rw [h4]; rfl
  have co := EL rk (evR L i)
  have tb := kU rk (evR L i)
  rw [← ce]
  have fin : ∀ y : Sco, y = { A4 r L sd n k (i + 1) with side := cond (Nat.blt k (k + 1)) (sd k) 0 } → (Db r L sd n (k + 1) i).set k y = Db r L sd n (k + 1) (i + 1) := fun y hyy => U3 hk hyy (fun j hj hjk => by
   rw [cs, h13, Bool.false_and, cond_false, B1, hn j hjk]; rfl)
  have ex : A4 r L sd n k (i + 1) = Mh r (evR L i) (A4 r L sd n k i) := by rw [cs, h13, Bool.false_and, cond_false, B1, hy]; rfl
  have s := sm k
  have s1 := s.runs
  have s2 := s.wk
  have s3 := s.balls
  have s4 := s.wides
  have s5 := s.no
  have s6 := s.bb
  have s7 := s.lb
  have c1 := co.wi
  have c2 := co.no
  have c3 := co.bb
  have c4 := co.lb
  unfold ZD at tb
  have w1 : IntKind.i64.wrap ((A4 r L sd n k i).runs + C9 (Ar r (evR L i))) = (A4 r L sd n k i).runs + C9 (Ar r (evR L i)) := BE (by omega) (by omega)
  have w2 : IntKind.i64.wrap ((A4 r L sd n k i).wickets + 1) = (A4 r L sd n k i).wickets + 1 := BE (by omega) (by omega)
  have w3 : IntKind.i64.wrap ((A4 r L sd n k i).balls + 1) = (A4 r L sd n k i).balls + 1 := BE (by omega) (by omega)
  have w4 : IntKind.i64.wrap ((A4 r L sd n k i).wides + (Ar r (evR L i)).wides) = (A4 r L sd n k i).wides + (Ar r (evR L i)).wides := BE (by omega) (by omega)
  have w5 : IntKind.i64.wrap ((A4 r L sd n k i).noballs + (Ar r (evR L i)).noballs) = (A4 r L sd n k i).noballs + (Ar r (evR L i)).noballs := BE (by omega) (by omega)
  have w6 : IntKind.i64.wrap ((A4 r L sd n k i).byes + (Ar r (evR L i)).byes) = (A4 r L sd n k i).byes + (Ar r (evR L i)).byes := BE (by omega) (by omega)
  have w7 : IntKind.i64.wrap ((A4 r L sd n k i).legbyes + (Ar r (evR L i)).legbyes) = (A4 r L sd n k i).legbyes + (Ar r (evR L i)).legbyes := BE (by omega) (by omega)
  have od := hO (evR L i)
  cases hb : Ri (evR L i) with
  | false =>
   simp only [cond_false, cond_true, F7 _ _ _ hk, w1, w3, w4, w5, w6, w7]
   refine fin _ ?_
   rw [ex]
   unfold Mh
   rw [od, hb]
   cases (Ar r (evR L i)).counts <;> simp only [cond_false, cond_true, Int.add_zero]
  | true =>
   simp only [cond_true, Su tl, List.set_set, F7 _ _ _ hk, w1, w2, w3, w4, w5, w6, w7]
   refine fin _ ?_
   rw [ex]
   unfold Mh
   rw [od, hb]
   cases (Ar r (evR L i)).counts <;> simp only [cond_false, cond_true, Int.add_zero]
 | false =>
  have s := sm k
  have s2 := s.wk
  have w2 : IntKind.i64.wrap ((A4 r L sd n k i).wickets + 1) = (A4 r L sd n k i).wickets + 1 := BE (by omega) (by omega)
  have od := hO (evR L i)
  cases h13 : (evR L i).kind == 13 with
  | true =>
   have k13 := beq_iff_eq.1 h13
   have ob : Ri (evR L i) = false := by unfold Ri; rw [k13]; rfl
   have oe : Br (evR L i) = 0 := by unfold Br; rw [k13]; rfl
   have ex : ∀ j, A4 r L sd n j (i + 1) = ID (cond (isS (Cg sd n k (evR L i).side) j) 5 0) (A4 r L sd n j i) := fun j => by
    rw [cs, h13, Bool.true_and, hp, K1 _ h4 oe]
    cases Nat.beq (opn L (i + 1)) (j + 1) <;> rfl
   simp only [ob, cond_false, cond_true]
   cases hd : Cg sd n k (evR L i).side with
   | none =>
    refine bi (fun j hj => ?_)
    rw [ex, hd]
    exact B1 _
   | some d =>
    have dl := ir hk hd
    have q := sm d
    have q1 := q.runs
    have q2 := q.pens
    have v1 : IntKind.i64.wrap ((A4 r L sd n d i).runs + 5) = (A4 r L sd n d i).runs + 5 := BE (by omega) (by omega)
    have v2 : IntKind.i64.wrap ((A4 r L sd n d i).pens + 5) = (A4 r L sd n d i).pens + 5 := BE (by omega) (by omega)
    simp only [F7 _ _ _ dl, v1, v2]
    refine U3 dl ?_ (fun j hj hjd => ?_)
    ·rw [ex, hd, show isS (some d) d = true from PS d]
     rfl
    ·rw [ex, hd, show isS (some d) j = false from R1 hjd]
     exact B1 _
  | false =>
   have ex : ∀ j, A4 r L sd n j (i + 1) = cond (Nat.beq (opn L (i + 1)) (j + 1)) (Mh r (evR L i) (A4 r L sd n j i)) (A4 r L sd n j i) := fun j => by
    rw [cs, h13, Bool.false_and, cond_false, B1]
   have oe : M9 (evR L i) = Br (evR L i) := by unfold M9; rw [h4]; rfl
   rw [oe] at od
   cases hb : Ri (evR L i) with
   | false =>
    rw [hb] at od
    simp only [cond_false]
    refine bi (fun j hj => ?_)
    rw [ex, K1 _ h4 od]
    cases Nat.beq (opn L (i + 1)) (j + 1) <;> rfl
   | true =>
    rw [hb] at od
    simp only [cond_false, cond_true, F7 _ _ _ hk, w2]
    refine U3 hk ?_ (fun j hj hjk => ?_)
    ·rw [ex, hy, cond_true, XE _ h4, od]
     rfl
    ·rw [ex, hn j hjk]; rfl
def sdT (L : Rows) : Nat → Int := RI (Lp L) (DF L L.length)
def TN (r : Rul) (L : Rows) (sd : Nat → Int) : List Sco := (List.range (opn L L.length)).map fun j => A4 r L sd (opn L L.length) j L.length
structure InLog (L : Rows) : Prop where
 len : L.length ≤ 4000
 pen : ∀ j, j < L.length → ((evR L j).kind == 13) = true → 1 ≤ opn L (j + 1)
set_option maxHeartbeats 4000000 in
theorem iS {N : Nat} {r : Rul} {L : Rows} {k : Nat} (hN : 2097152 < N) (il : InLog L) (rk : RulOk r) (hk : k < opn L L.length) {F : (List AQ → Option (List PV)) → List PV → Option (List PV)}
    (f0 : ∀ xs self, F self [.rows (Ad xs), .int ((AH L (k + 1) - AH L k : Nat) : Int)] = some [.rows (Ad xs), .int ((AH L (k + 1) - AH L k : Nat) : Int)])
    (f1 : ∀ (i : Nat) self, i < AH L (k + 1) - AH L k → ∀ xs : List Sco, xs.length = opn L L.length → F self [.rows (Ad xs), .int (i : Int)] = self [.rows (Ad (ac r (evR L (AH L k + i)) k (Cg (sdT L) (opn L L.length) k (evR L (AH L k + i)).side) xs)), .int ((i + 1 : Nat) : Int)]) :
    DH F N [.rows (Ad (Db r L (sdT L) (opn L L.length) (k + 1) (AH L k))), .int 0] = some [.rows (Ad (Db r L (sdT L) (opn L L.length) (k + 1) (AH L (k + 1)))), .int ((AH L (k + 1) - AH L k : Nat) : Int)] := by
  have sg := seg (by have := il.len; omega) hk
  have h1 := sg.lt
  have h2 := sg.le
  have h3 := il.len
  have e : AH L k + (AH L (k + 1) - AH L k) = AH L (k + 1) := by omega
  have := CL (F := F) (len := AH L (k + 1) - AH L k) (fun i => [.rows (Ad (Db r L (sdT L) (opn L L.length) (k + 1) (AH L k + i))), .int (i : Int)]) [.rows (Ad (Db r L (sdT L) (opn L L.length) (k + 1) (AH L (k + 1)))), .int ((AH L (k + 1) - AH L k : Nat) : Int)]
    (fun self => by
      show F self [.rows (Ad (Db r L (sdT L) (opn L L.length) (k + 1) (AH L k + (AH L (k + 1) - AH L k)))), _] = _
      rw [e]
      exact f0 _ self)
    (fun i self hi => by
      show F self [.rows (Ad (Db r L (sdT L) (opn L L.length) (k + 1) (AH L k + i))), .int (i : Int)] = _
      rw [f1 i self hi _ (Ci _ _ _ _ _ _), jT rk hk (sg.mid _ (by omega) (by omega)) (by omega)]
      rfl) N (by omega)
  exact this
theorem mI (L : Rows) (i : Nat) : (⟨pvI (AE L i 0), pvI (AE L i 1), pvI (AE L i 2), pvI (AE L i 3), pvB (AE L i 4), pvI (AE L i 5), pvI (AE L i 6), ⟨pvI (AE L i 7), pvI (AE L i 8), pvI (AE L i 9), pvI (AE L i 10), pvI (AE L i 11), pvB (AE L i 12), pvI (AE L i 13), pvI (AE L i 14), pvI (AE L i 15), pvI (AE L i 16), pvB (AE L i 17), pvI (AE L i 18)⟩⟩ : Ev) = evR L i := rfl
set_option maxHeartbeats 4000000 in
theorem ST {N : Nat} {r1 r2 r3 r4 r5 r6 r7 r9 r10 r11 r12 : Int} {r8 : Bool} {r0 : ByteArray} {r13 : Rows} {L : Rows} (hN : 2097152 < N) (hs : r0.size ≤ 1048576) (h13 : r13.length ≤ 1048576) (hL : L.length ≤ 1048576) (il : CX (⟨r0, r1, r2, r3, r4, r5, r6, r7, r8, r9, r10, r11, r12, r13⟩ : Rul) L = 0 → InLog L ∧ RulOk (⟨r0, r1, r2, r3, r4, r5, r6, r7, r8, r9, r10, r11, r12, r13⟩ : Rul)) : Cj N [.str r0, .int r1, .int r2, .int r3, .int r4, .int r5, .int r6, .int r7, .bool r8, .int r9, .int r10, .int r11, .int r12, .rows r13, .rows L] = some [.rows (cond (!(CX (⟨r0, r1, r2, r3, r4, r5, r6, r7, r8, r9, r10, r11, r12, r13⟩ : Rul) L == 0)) [] (Ad (TN (⟨r0, r1, r2, r3, r4, r5, r6, r7, r8, r9, r10, r11, r12, r13⟩ : Rul) L (sdT L)))), .int (CX (⟨r0, r1, r2, r3, r4, r5, r6, r7, r8, r9, r10, r11, r12, r13⟩ : Rul) L)] := by
  show Iv (std (Bl N) N) (xOf _) = _
  generalize hres : (some [.rows (cond (!(CX (⟨r0, r1, r2, r3, r4, r5, r6, r7, r8, r9, r10, r11, r12, r13⟩ : Rul) L == 0)) [] (Ad (TN (⟨r0, r1, r2, r3, r4, r5, r6, r7, r8, r9, r10, r11, r12, r13⟩ : Rul) L (sdT L)))), .int (CX (⟨r0, r1, r2, r3, r4, r5, r6, r7, r8, r9, r10, r11, r12, r13⟩ : Rul) L)] : Option (List PV)) = RR
  simp only [Iv, Nf, OB, P6, Id, FV, Fp, Pa, std, xOf, PXb, Rq hN hs h13 hL]
  subst hres
  cases hc : CX (⟨r0, r1, r2, r3, r4, r5, r6, r7, r8, r9, r10, r11, r12, r13⟩ : Rul) L == 0 with
  | false => rfl
  | true =>
    have c0 := beq_iff_eq.1 hc
    obtain ⟨il, rk⟩ := il c0
    have ol := U9 L L.length
    have l4 := il.len
    have s80 : iSm ((opn L L.length : Nat) : Int) 80 = true := F6 (by omega) (by omega)
    rw [c0]
    simp only [PXb, Bool.not_true, aX hN hL, Mp, SS, s80, Iu hN hL, lh]
    have st : List.replicate (opn L L.length) dS = Db (⟨r0, r1, r2, r3, r4, r5, r6, r7, r8, r9, r10, r11, r12, r13⟩ : Rul) L (sdT L) (opn L L.length) 0 (AH L 0) := by
      refine jW ?_ (fun j hj => il.pen j ?_)
      · by_cases h0 : 0 < opn L L.length
        · exact (seg hL h0).o0
        · unfold AH; rw [if_neg h0]; omega
      · have : AH L 0 ≤ L.length := by
          by_cases h0 : 0 < opn L L.length
          · have := (seg hL h0).lt; have := (seg hL h0).le; omega
          · unfold AH; rw [if_neg h0]; exact Nat.le_refl _
        omega
    rw [st]
    refine AX (CL (len := opn L L.length) (fun k => [.rows (Ad (Db (⟨r0, r1, r2, r3, r4, r5, r6, r7, r8, r9, r10, r11, r12, r13⟩ : Rul) L (sdT L) (opn L L.length) k (AH L k))), .int (k : Int)]) [.rows (Ad (TN (⟨r0, r1, r2, r3, r4, r5, r6, r7, r8, r9, r10, r11, r12, r13⟩ : Rul) L (sdT L)))] ?_ ?_ N (by omega)) ?_
    · intro self
      simp only [PXb, PXc, PXn, AF, PXp, M6, BB, lP, lY]
      rfl
    · intro k self hk
      have sg := seg hL hk
      have sgl := sg.lt
      have sge := sg.le
      have rg : iRg (AH L k : Int) (AH L (k + 1) : Int) (L.length : Int) = true := by simp only [iRg, decide_eq_true_eq]; omega
      have zk : atI (GH (zs (sdT L) (opn L L.length))) k 0 = sdT L k := fm _ hk
      have sl := ez (L := L) (a := AH L k) sge
      have zk' : pvI (AE (GH (zs (RI (Lp L) (DF L L.length)) (opn L L.length))) k 0) = sdT L k := zk
      simp only [PXb, PXc, PXn, AF, PXp, PXs, M6, Gl (show k ≤ 1099511627776 by omega), A1 hk, Aa hk, Ci, Mp, SS, sg.x0, sg.x1, rg, zk', PXt, jN hk]
      generalize hX : List.drop (AH L k) (List.take (AH L (k + 1)) L) = X at *
      refine AX (iS hN il rk hk ?_ ?_) ?_
      · intro xs self
        simp only [PXb, PXc, PXn, AF, sl, BB]
      · intro i self hi xs hx
        have hev : evR X i = evR L (AH L k + i) := by rw [← hX]; exact jF L i hi
        simp only [PXb, PXc, PXn, AF, PXc, sl, Gl (show i ≤ 1099511627776 by omega), A1 hi, Aa hi, Nat.reduceAdd, Id, eY, mI, hev]
        have hk' : k < xs.length := by rw [hx]; exact hk
        generalize hd : Cg (sdT L) (opn L L.length) k (evR L (AH L k + i)).side = d
        have kx : pvI (AE X i 0) = (evR L (AH L k + i)).kind := congrArg Ev.kind hev
        have sx : pvI (AE X i 1) = (evR L (AH L k + i)).side := congrArg Ev.side hev
        have LD : He N [.rows (GH (zs (RI (Lp L) (DF L L.length)) (opn L L.length))), .int (k : Int), .int (evR L (AH L k + i)).side] = some [.int (fc d)] := by rw [← hd]; exact eU hN (by omega) hk
        have bx : (⟨pvI (AE X i 7), pvI (AE X i 8), pvI (AE X i 9), pvI (AE X i 10), pvI (AE X i 11), pvB (AE X i 12), pvI (AE X i 13), pvI (AE X i 14), pvI (AE X i 15), pvI (AE X i 16), pvB (AE X i 17), pvI (AE X i 18)⟩ : Del) = (evR L (AH L k + i)).ball := congrArg Ev.ball hev
        rw [kx]
        unfold ac
        cases ho : Ri (evR L (AH L k + i)) <;> cases h4 : (evR L (AH L k + i)).kind == 4 <;> cases h13 : (evR L (AH L k + i)).kind == 13
        all_goals simp only [PXb, PXc, PXn, AF, PXc, PXs, PXt, Nat.reduceAdd, FV, Ft, bx, sx, LD, Fp, Py, List.length_set, Aa hk', hk', Su hk', List.set_set, Cre.ls, ho, h4, h13]
        all_goals first
          | (cases (AB (⟨r0, r1, r2, r3, r4, r5, r6, r7, r8, r9, r10, r11, r12, r13⟩ : Rul) (evR L (AH L k + i)).ball).counts <;> rfl)
          | (cases d with
             | none => rfl
             | some j =>
               have dl : j < xs.length := by rw [hx]; exact ir hk hd
               have dl2 : ∀ y s, sco ((xs.set k y).set j s) j = s := fun y s => Su (by rw [List.length_set]; exact dl) s
               simp only [fc, PXb, iI, Aa dl, List.length_set, Su dl, List.set_set, dl2])
      · simp only [PXb, PXc, PXn, AF, PXc, PXb, PXc, PXn, PXm, Nat.reduceAdd, Int.reduceBEq]
    · simp only [PXb, PXc, PXn, PXm, Nat.reduceAdd, Int.reduceBEq]
end Go.Px
end
section
namespace Go.Px
set_option maxRecDepth 100000
theorem Ud {r : Rul} {L : Rows} (h : CX r L = 0) : ((BS r).2 == 0) = true ∧ BD r = 0 ∧ L.length ≤ 4000 ∧ acc L L.length 0 (BS r).1 ∧ Bh r L = (stM L L.length 0 (BS r).1, -1, 0) := by
 unfold CX at h
 cases hc : BD r == 0 with
 | false => rw [hc] at h; rw [show BD r = 0 from h] at hc; cases hc
 | true =>
  cases hl : iLt 4000 (L.length : Int) with
  | true => rw [hc, hl] at h; cases h
  | false =>
   cases hr : (Bh r L).2.2 == 0 with
   | false => rw [hc, hl, hr] at h; cases h
   | true =>
    have hn := (je r).trans hc
    have hrep : Bh r L = EA L L.length 0 (BS r).1 := by unfold Bh; rw [hn]; rfl
    obtain ⟨k, h1, h2, h3, h4⟩ := ck L L.length 0 (BS r).1
    have l4 : L.length ≤ 4000 := by simp only [iLt, decide_eq_false_iff_not] at hl; omega
    rcases h4 with ⟨h5, h6⟩ | ⟨h5, h6, h7⟩
    ·subst h5
     exact ⟨hn, beq_iff_eq.1 hc, l4, h2, hrep.trans h6⟩
    ·rw [hrep, h7] at hr
     rw [h6] at hr
     cases hr
theorem gA {r : Rul} {L : Rows} (h : CX r L = 0) : InLog L ∧ RulOk r := by
 obtain ⟨h1, h2, h3, h4, h5⟩ := Ud h
 obtain ⟨_, _, h6⟩ := M5 h1 h4 L.length (Nat.le_refl _)
 refine ⟨⟨h3, fun j hj k13 => ?_⟩, E4 h2⟩
 have e := beq_iff_eq.1 k13
 have := (h6 j hj).2.play (by rw [e]; rfl) (by rw [e]; rfl) (by rw [e]; rfl) (by rw [e]; rfl)
 exact Nat.le_trans this (QR L j)
theorem gZ {r : Rul} {L : Rows} (h : CX r L = 0) {j : Nat} (hj : j < opn L L.length) : j ≤ 3 ∧ (Lp L = 1 ∨ Lp L = 2) ∧ sdT L j = sdF L L.length j ∧ aq (Lp L) (DF L L.length) j = sdF L L.length j := by
 obtain ⟨h1, h2, h3, h4, h5⟩ := Ud h
 obtain ⟨_, _, h6⟩ := M5 h1 h4 L.length (Nat.le_refl _)
 obtain ⟨a, p1, p2, p3, p4, p5⟩ := Va (L := L) (by omega) L.length (Nat.le_refl _) j hj
 obtain ⟨q1, v, q2, q3⟩ := (h6 a p2).2.two p4
 rw [p3] at q1
 have f := Ru q2 (show a ≤ L.length by omega)
 have fs : Lp L = v := by unfold Lp; rw [f]; rfl
 have oo : BG (BG (Lp L)) = Lp L := by rw [fs]; rcases q3 with e | e <;> rw [e] <;> decide
 have un := kr (Lp L) (DF L L.length) q1
 refine ⟨q1, by rw [fs]; exact q3, ?_, un⟩
 unfold sdT
 rw [lc oo]
 exact un
theorem aI {f g : Nat → Int} {s : Int} {n k : Nat} (h : ∀ j, j < n → f j = g j) (hk : k < n) : Cg f n k s = Cg g n k s := by
 unfold Cg
 rw [O1 (f := f) (g := g) (k + 1) (fun j hj => h j (by omega))]
 have fw : ∀ c i, i + c ≤ n → M1 f s c i = M1 g s c i := by
  intro c
  induction c with
  | zero => intro i _; rfl
  | succ c ih =>
   intro i hi
   unfold M1
   rw [h i (by omega), ih (i + 1) (by omega)]
 rw [fw _ _ (by omega)]
theorem gz {r : Rul} {L : Rows} {f g : Nat → Int} {j : Nat} (h : ∀ j, j < opn L L.length → f j = g j) (hj : j < opn L L.length) : A4 r L f (opn L L.length) j L.length = A4 r L g (opn L L.length) j L.length := by
 have pn : ∀ i, i ≤ L.length → pnS L f (opn L L.length) j i = pnS L g (opn L L.length) j i := by
  intro i
  induction i with
  | zero => intro _; rfl
  | succ i ih =>
   intro hi
   have := ES L hi
   rw [Sa, Sa, ih (by omega), aI h (show opn L (i + 1) - 1 < opn L L.length by omega)]
 unfold A4
 rw [pn _ (Nat.le_refl _), h j hj]
theorem l7 {r : Rul} {L : Rows} (h : CX r L = 0) : TN r L (sdT L) = (Bh r L).1.inns.map (A3 r.balls) ∧ (Bh r L).1.inns.length = opn L L.length ∧ (Bh r L).1.rules = r ∧ (Bh r L).2.1 = -1 ∧ (Bh r L).2.2 = 0 := by
 obtain ⟨h1, h2, h3, h4, h5⟩ := Ud h
 have cl := ig h1 h4 L.length (Nat.le_refl _)
 obtain ⟨li, so, _⟩ := M5 h1 h4 L.length (Nat.le_refl _)
 have e : EG (stM L L.length 0 (BS r).1) = EG (Bh r L).1 := by rw [h5]
 have rl : (Bh r L).1.rules = r := by rw [h5]; exact so.rules
 refine ⟨?_, by rw [h5]; exact li.len, rl, by rw [h5], by rw [h5]⟩
 have ax : (EG (Bh r L).1).xs = (Bh r L).1.inns.map (A3 r.balls) := by unfold EG; rw [rl]
 rw [← ax, ← e]
 refine Mu (by rw [cl.len]; unfold TN; rw [List.length_map, List.length_range]) (fun j hj => ?_)
 have hj : j < opn L L.length := by unfold TN at hj; rw [List.length_map, List.length_range] at hj; exact hj
 rw [cl.at' j hj, ← gz (fun j hj => (gZ h hj).2.2.1) hj, D0]
 unfold TN
 rw [List.getElem?_map, List.getElem?_range hj]
 rfl
def XP (q : Int) (s : Inn) : Sco := ⟨s.side, s.runs, s.wickets, CG q s.complete s.inover, s.wides, s.noballs, s.byes, s.legbyes, s.pens, s.ending⟩
theorem jI (f : Inn → Sco) {xs : List Inn} {i : Nat} (h : i < xs.length) : (xs.take i).map f ++ [f (inn xs i)] = (xs.take (i + 1)).map f := by
 rw [← Tn h, List.map_append]
 rfl
set_option maxHeartbeats 1000000 in
theorem Y4 {N : Nat} {m1 m2 m3 m4 m5 m6 m7 m9 m10 m11 m12 m14 m15 m18 m19 m20 m21 m22 : Int} {m8 m16 : Bool} {m0 : ByteArray} {m13 : Rows} {m17 : List Inn} (hN : 2097152 < N) (hl : m17.length ≤ 1000000) : Ga N [.str m0, .int m1, .int m2, .int m3, .int m4, .int m5, .int m6, .int m7, .bool m8, .int m9, .int m10, .int m11, .int m12, .rows m13, .int m14, .int m15, .bool m16, .rows (AZ m17), .int m18, .int m19, .int m20, .int m21, .int m22] = some [.rows (Ad (m17.map (XP m4)))] := by
 show Iw (std (Kh N) N) (xOf _) = _
 generalize hres : (some [.rows (Ad (m17.map (XP m4)))] : Option (List PV)) = RR
 simp only [Iw, GO, std, xOf, PXb, PXi]
 subst hres
 refine AX (CL (len := m17.length) (fun i => [.rows (Ad ((m17.take i).map (XP m4))), .int (i : Int)]) [.rows (Ad (m17.map (XP m4)))] ?_ ?_ N (by omega)) rfl
 ·intro self
  simp only [PXb, PXc, PXn, AF, BB, List.take_length]
 ·intro i self hi
  have h3 : iSm ((i + 1 : Nat) : Int) 80 = true := F6 (by omega) (by omega)
  have tl : (m17.take i).length = i := by rw [List.length_take]; omega
  simp only [PXb, PXc, PXn, AF, Gl (show i ≤ 1099511627776 by omega), A1 hi, Aa hi, PXi, GO, Qy, PXs, List.length_append, List.length_map, tl, List.length_cons, List.length_nil, Nat.reduceAdd, h3, PXt]
  rw [← jI (XP m4) hi]
  rfl
def nQ (s : Sco) : Sco := { s with ending := 0 }
def VD (xs : List Sco) : Nat → List Sco
 | 0 => xs
 | i + 1 => (VD xs i).set i { sco (VD xs i) i with ending := 0 }
theorem R5 (xs : List Sco) : ∀ i, (VD xs i).length = xs.length
 | 0 => rfl
 | i + 1 => by
  show ((VD xs i).set i _).length = _
  rw [List.length_set, R5 xs i]
theorem gb (xs : List Sco) : ∀ i, i ≤ xs.length → ∀ j, j < xs.length → sco (VD xs i) j = (if j < i then nQ (sco xs j) else sco xs j)
 | 0, _, j, _ => by rw [if_neg (Nat.not_lt_zero j)]; rfl
 | i + 1, hi, j, hj => by
  show sco ((VD xs i).set i _) j = _
  rw [PX _ _ _ _ (by rw [R5]; exact hj)]
  have ih := gb xs i (by omega)
  by_cases e : i = j
  ·subst e
   rw [if_pos rfl, if_pos (Nat.lt_succ_self _), ih i (by omega), if_neg (Nat.lt_irrefl _)]
   rfl
  ·rw [if_neg e, ih j hj]
   by_cases hl : j < i
   ·rw [if_pos hl, if_pos (by omega)]
   ·rw [if_neg hl, if_neg (by omega)]
theorem lN (q : Int) (xs : List Inn) : VD (xs.map (XP q)) xs.length = xs.map (A3 q) := by
 refine Mu (by rw [R5, List.length_map, List.length_map]) (fun j hj => ?_)
 rw [R5, List.length_map] at hj
 rw [gb _ _ (by rw [List.length_map]; exact Nat.le_refl _) j (by rw [List.length_map]; exact hj), if_pos hj, MW _ _ hj, D0, List.getElem?_map, Js, List.getElem?_eq_getElem hj]
 rfl
set_option maxHeartbeats 1000000 in
theorem Yv {N : Nat} {m1 m2 m3 m4 m5 m6 m7 m9 m10 m11 m12 m14 m15 m18 m19 m20 m21 m22 : Int} {m8 m16 : Bool} {m0 : ByteArray} {m13 : Rows} {m17 : List Inn} (hN : 2097152 < N) (hl : m17.length ≤ 1000000) : I8 N [.str m0, .int m1, .int m2, .int m3, .int m4, .int m5, .int m6, .int m7, .bool m8, .int m9, .int m10, .int m11, .int m12, .rows m13, .int m14, .int m15, .bool m16, .rows (AZ m17), .int m18, .int m19, .int m20, .int m21, .int m22] = some [.rows (Ad (m17.map (A3 m4)))] := by
 show I0 (std (Kf N) N) (xOf _) = _
 generalize hres : (some [.rows (Ad (m17.map (A3 m4)))] : Option (List PV)) = RR
 simp only [I0, Nm, std, xOf, PXb, Y4 hN hl]
 subst hres
 refine AX (CL (len := m17.length) (fun i => [.rows (Ad (VD (m17.map (XP m4)) i)), .int (i : Int)]) [.rows (Ad (m17.map (A3 m4)))] ?_ ?_ N (by omega)) rfl
 ·intro self
  simp only [PXb, PXc, PXn, AF, PXs, List.length_map, BB, lN]
 ·intro i self hi
  simp only [PXb, PXc, PXn, AF, PXs, Gl (show i ≤ 1099511627776 by omega), List.length_map, R5, A1 hi, Aa hi, PXt]
  rfl
theorem LV {N : Nat} {L : Rows} (hN : 2097152 < N) (h : L.length ≤ 1048576) : Bn N [.rows L, .rows L] = some [.bool true] := by
 show EE (std (Ju N) N) (xOf _) = _
 simp only [EE, std, xOf, PXb, PXm]
 refine AX (CL (len := L.length) (fun i => [.int (i : Int)]) [.int 1] ?_ ?_ N (by omega)) ?_
 ·intro self
  simp only [PXb, PXc, PXn, AF, BB]
 ·intro i self hi
  simp only [PXb, PXc, PXn, PXm, Nat.reduceAdd, Int.reduceBEq, Aq (show i ≤ 1099511627776 by omega), A1 hi, Aa hi]
  rfl
 ·simp only [PXb, PXc, PXn, PXm, Nat.reduceAdd, Int.reduceBEq]
def prA (r : Rul) (L : Rows) (k p : Nat) : Cre := ⟨smi L (fun e => (Ar r e).batter) k p, smi L (fun e => (Ar r e).wides) k p, smi L (fun e => (Ar r e).noballs) k p, smi L (fun e => (Ar r e).byes) k p, smi L (fun e => (Ar r e).legbyes) k p, smi L (fun e => (Ar r e).bowler) k p, false, false, false, false⟩
theorem cZ {r : Rul} {L : Rows} {k p : Nat} (h : opn L p ≤ k) : prA r L k p = J1 := by
 unfold prA
 have z : ∀ f : Ev → Int, smi L f k p = 0 := fun f => S6 p h
 simp only [z]
 rfl
theorem kX {r : Rul} (h : RulOk r) (e : Ev) : 0 ≤ (Ar r e).bowler ∧ (Ar r e).bowler ≤ 36 := by
 have c := EL h e
 have h0 := c.ba
 have h1 := c.wi
 have h2 := c.no
 have h3 := c.bo
 omega
def fV (a c : Cre) : Cre := ⟨IntKind.i64.wrap (a.batter + c.batter), IntKind.i64.wrap (a.wides + c.wides), IntKind.i64.wrap (a.noballs + c.noballs), IntKind.i64.wrap (a.byes + c.byes), IntKind.i64.wrap (a.legbyes + c.legbyes), IntKind.i64.wrap (a.bowler + c.bowler), false, false, false, false⟩
theorem js {r : Rul} {L : Rows} {k p : Nat} (rk : RulOk r) (ho : opn L (p + 1) = k + 1) (hp : p < 4000) : prA r L k (p + 1) = fV (prA r L k p) (Ar r (evR L p)) := by
 have hy : Nat.beq (opn L (p + 1)) (k + 1) = true := by rw [ho]; exact PS _
 have c := EL rk (evR L p)
 have h0 := c.ba
 have h1 := c.wi
 have h2 := c.no
 have h3 := c.bb
 have h4 := c.lb
 have h5 := kX rk (evR L p)
 have b0 := H3 (L := L) (f := fun e => (Ar r e).batter) (fun e => (EL rk e).ba) k p
 have b1 := H3 (L := L) (f := fun e => (Ar r e).wides) (fun e => (EL rk e).wi) k p
 have b2 := H3 (L := L) (f := fun e => (Ar r e).noballs) (fun e => (EL rk e).no) k p
 have b3 := H3 (L := L) (f := fun e => (Ar r e).byes) (fun e => (EL rk e).bb) k p
 have b4 := H3 (L := L) (f := fun e => (Ar r e).legbyes) (fun e => (EL rk e).lb) k p
 have b5 := H3 (L := L) (f := fun e => (Ar r e).bowler) (kX rk) k p
 unfold prA fV
 simp only [QT, hy, cond_true]
 rw [BE (n := smi L (fun e => (Ar r e).batter) k p + _) (by omega) (by omega), BE (n := smi L (fun e => (Ar r e).wides) k p + _) (by omega) (by omega), BE (n := smi L (fun e => (Ar r e).noballs) k p + _) (by omega) (by omega), BE (n := smi L (fun e => (Ar r e).byes) k p + _) (by omega) (by omega), BE (n := smi L (fun e => (Ar r e).legbyes) k p + _) (by omega) (by omega), BE (n := smi L (fun e => (Ar r e).bowler) k p + _) (by omega) (by omega)]
theorem kE {r : Rul} {L : Rows} {k p : Nat} (h4 : ((evR L p).kind == 4) = false) : prA r L k (p + 1) = prA r L k p := by
 have c0 : Ar r (evR L p) = J1 := by unfold Ar; rw [h4]; rfl
 unfold prA
 simp only [QT, c0, J1]
 cases Nat.beq (opn L (p + 1)) (k + 1) <;> simp only [cond_true, cond_false, Int.add_zero]
def dY (r : Rul) (L : Rows) (k : Int) : Cre × Int := cond (!(CX r L == 0)) (J1, CX r L) (cond (iLt k 0 || iLe (opn L L.length : Int) k) (J1, 2) (prA r L k.toNat L.length, 0))
def al (x : Cre × Int) : List PV := [.int x.1.batter, .int x.1.wides, .int x.1.noballs, .int x.1.byes, .int x.1.legbyes, .int x.1.bowler, .bool x.1.counts, .bool x.1.faced, .bool x.1.wicket, .bool x.1.swap, .int x.2]
theorem Z3 {L : Rows} {f : Ev → Int} {k p : Nat} (h : opn L p = k + 1) (hp : p ≤ L.length) (hn : p = L.length ∨ ((evR L p).kind == 2) = true) : ∀ c, p + c ≤ L.length → smi L f k (p + c) = smi L f k p
 | 0, _ => rfl
 | c + 1, hc => by
  rw [show p + (c + 1) = p + c + 1 by omega, QT, Z3 h hp hn c (by omega)]
  rcases hn with hn | hn
  ·omega
  ·have := ES L (show p + 1 ≤ p + c + 1 by omega)
   rw [Pg hn] at this
   rw [R1 (by omega), cond_false, Int.add_zero]
theorem gw {L : Rows} (hL : L.length ≤ 1048576) {k : Nat} (hk : k < opn L L.length) : AH L (k + 1) = L.length ∨ ((evR L (AH L (k + 1))).kind == 2) = true := by
 by_cases h : k + 1 < opn L L.length
 ·obtain ⟨a, p1, p2, p3, p4, p5⟩ := Va hL L.length (Nat.le_refl _) (k + 1) h
  have : AH L (k + 1) = a := by unfold AH; rw [if_pos h, p1]; rfl
  rw [this]
  exact Or.inr p4
 ·exact Or.inl (by unfold AH; rw [if_neg h])
theorem lj {L : Rows} (hL : L.length ≤ 1048576) {f : Ev → Int} {k : Nat} (hk : k < opn L L.length) : smi L f k L.length = smi L f k (AH L (k + 1)) := by
 have sg := seg hL hk
 have := Z3 (f := f) sg.o1 sg.le (gw hL hk) (L.length - AH L (k + 1)) (by have := sg.le; omega)
 rw [show AH L (k + 1) + (L.length - AH L (k + 1)) = L.length by have := sg.le; omega] at this
 exact this
theorem kh {r : Rul} {L : Rows} (hL : L.length ≤ 1048576) {k : Nat} (hk : k < opn L L.length) : prA r L k L.length = prA r L k (AH L (k + 1)) := by
 unfold prA
 simp only [lj hL hk]
theorem iz {N : Nat} {r : Rul} {L : Rows} {k : Nat} (hN : 2097152 < N) (il : InLog L) (rk : RulOk r) (hk : k < opn L L.length) {F : (List AQ → Option (List PV)) → List PV → Option (List PV)}
    (f0 : ∀ (c : Cre) self, F self [.int ((AH L (k + 1) - AH L k : Nat) : Int), .int c.batter, .int c.wides, .int c.noballs, .int c.byes, .int c.legbyes, .int c.bowler, .bool false, .bool false, .bool false, .bool false] = some [.int c.batter, .int c.wides, .int c.noballs, .int c.byes, .int c.legbyes, .int c.bowler, .bool false, .bool false, .bool false, .bool false])
    (f1 : ∀ (i : Nat) self, i < AH L (k + 1) - AH L k → ∀ c : Cre, F self [.int (i : Int), .int c.batter, .int c.wides, .int c.noballs, .int c.byes, .int c.legbyes, .int c.bowler, .bool false, .bool false, .bool false, .bool false] = (let d := cond ((evR L (AH L k + i)).kind == 4) (fV c (Ar r (evR L (AH L k + i)))) c; self [.int ((i + 1 : Nat) : Int), .int d.batter, .int d.wides, .int d.noballs, .int d.byes, .int d.legbyes, .int d.bowler, .bool false, .bool false, .bool false, .bool false])) :
    DH F N [.int 0, .int 0, .int 0, .int 0, .int 0, .int 0, .int 0, .bool false, .bool false, .bool false, .bool false] = some (prA r L k (AH L (k + 1))).ls := by
  have sg := seg (by have := il.len; omega) hk
  have h1 := sg.lt
  have h2 := sg.le
  have h3 := il.len
  have e : AH L k + (AH L (k + 1) - AH L k) = AH L (k + 1) := by omega
  have z0 : prA r L k (AH L k) = J1 := cZ (by rw [sg.o0]; exact Nat.le_refl _)
  have := CL (F := F) (len := AH L (k + 1) - AH L k) (fun i => [.int (i : Int), .int (prA r L k (AH L k + i)).batter, .int (prA r L k (AH L k + i)).wides, .int (prA r L k (AH L k + i)).noballs, .int (prA r L k (AH L k + i)).byes, .int (prA r L k (AH L k + i)).legbyes, .int (prA r L k (AH L k + i)).bowler, .bool false, .bool false, .bool false, .bool false]) (prA r L k (AH L (k + 1))).ls
    (fun self => by
      have := f0 (prA r L k (AH L k + (AH L (k + 1) - AH L k))) self
      rw [e] at this
      show F self [.int ((AH L (k + 1) - AH L k : Nat) : Int), .int (prA r L k (AH L k + (AH L (k + 1) - AH L k))).batter, .int (prA r L k (AH L k + (AH L (k + 1) - AH L k))).wides, .int (prA r L k (AH L k + (AH L (k + 1) - AH L k))).noballs, .int (prA r L k (AH L k + (AH L (k + 1) - AH L k))).byes, .int (prA r L k (AH L k + (AH L (k + 1) - AH L k))).legbyes, .int (prA r L k (AH L k + (AH L (k + 1) - AH L k))).bowler, .bool false, .bool false, .bool false, .bool false] = _
      rw [e, this]
      rfl)
    (fun i self hi => by
      have f2 := f1 i self hi (prA r L k (AH L k + i))
      have st : prA r L k (AH L k + i + 1) = cond ((evR L (AH L k + i)).kind == 4) (fV (prA r L k (AH L k + i)) (Ar r (evR L (AH L k + i)))) (prA r L k (AH L k + i)) := by
        cases h4 : (evR L (AH L k + i)).kind == 4 with
        | true => exact js rk (sg.mid _ (by omega) (by omega)) (by omega)
        | false => exact kE h4
      rw [← st] at f2
      exact f2) N (by omega)
  rw [Nat.add_zero, z0] at this
  exact this
set_option maxHeartbeats 4000000 in
theorem Yl {N : Nat} {r1 r2 r3 r4 r5 r6 r7 r9 r10 r11 r12 : Int} {r8 : Bool} {r0 : ByteArray} {r13 : Rows} {L : Rows} {k : Int} (hN : 2097152 < N) (hs : r0.size ≤ 1048576) (h13 : r13.length ≤ 1048576) (hL : L.length ≤ 1048576) : Di N [.str r0, .int r1, .int r2, .int r3, .int r4, .int r5, .int r6, .int r7, .bool r8, .int r9, .int r10, .int r11, .int r12, .rows r13, .rows L, .int k] = some (al (dY (⟨r0, r1, r2, r3, r4, r5, r6, r7, r8, r9, r10, r11, r12, r13⟩ : Rul) L k)) := by
 show H5 (std (Dy N) N) (xOf _) = _
 generalize hres : (some (al (dY (⟨r0, r1, r2, r3, r4, r5, r6, r7, r8, r9, r10, r11, r12, r13⟩ : Rul) L k)) : Option (List PV)) = RR
 simp only [H5, NG, O8, Eu, std, xOf, PXb, Rq hN hs h13 hL, Iu hN hL, PXp, M6]
 subst hres; simp only [dY]
 cases hc : CX (⟨r0, r1, r2, r3, r4, r5, r6, r7, r8, r9, r10, r11, r12, r13⟩ : Rul) L == 0 with
 | false => rfl
 | true =>
  obtain ⟨il, rk⟩ := gA (beq_iff_eq.1 hc)
  simp only [PXb, Bool.not_true]
  cases hb : iLt k 0 || iLe (opn L L.length : Int) k with
  | true => rfl
  | false =>
   simp only [Bool.or_eq_false_iff, iLt, iLe, decide_eq_false_iff_not] at hb
   obtain ⟨K, rfl⟩ : ∃ K : Nat, k = (K : Int) := ⟨k.toNat, by omega⟩
   have hk : K < opn L L.length := by omega
   have sg := seg hL hk
   have sgl := sg.lt
   have sge := sg.le
   have l4 := il.len
   have rg : iRg (AH L K : Int) (AH L (K + 1) : Int) (L.length : Int) = true := by simp only [iRg, decide_eq_true_eq]; omega
   have sl := ez (L := L) (a := AH L K) sge
   simp only [PXb, Aa hk, sg.x0, sg.x1, rg, kh hL hk, Int.toNat_natCast]
   generalize hX : List.drop (AH L K) (List.take (AH L (K + 1)) L) = X at *
   have z0 : prA (⟨r0, r1, r2, r3, r4, r5, r6, r7, r8, r9, r10, r11, r12, r13⟩ : Rul) L K (AH L K) = J1 := cZ (by rw [sg.o0]; exact Nat.le_refl _)
   have e1 : AH L K + (AH L (K + 1) - AH L K) = AH L (K + 1) := by omega
   refine AX (iz hN il rk hk ?_ ?_) rfl
   ·intro c self
    simp only [PXb, PXc, PXn, AF, sl, BB]
   ·intro i self hi c
    have hev : evR X i = evR L (AH L K + i) := by rw [← hX]; exact jF L i hi
    have kx : pvI (AE X i 0) = (evR L (AH L K + i)).kind := congrArg Ev.kind hev
    have bx : (⟨pvI (AE X i 7), pvI (AE X i 8), pvI (AE X i 9), pvI (AE X i 10), pvI (AE X i 11), pvB (AE X i 12), pvI (AE X i 13), pvI (AE X i 14), pvI (AE X i 15), pvI (AE X i 16), pvB (AE X i 17), pvI (AE X i 18)⟩ : Del) = (evR L (AH L K + i)).ball := congrArg Ev.ball hev
    simp only [PXb, PXc, PXn, AF, PXc, sl, Gl (show i ≤ 1099511627776 by omega), A1 hi, Aa hi, Nat.reduceAdd, kx, Eu, Ft, bx, Cre.ls]
    unfold Ar
    cases h4 : (evR L (AH L K + i)).kind == 4 <;> rfl
end Go.Px
end
section
namespace Go.Px
set_option maxRecDepth 100000
theorem gy {N : Nat} {L : Rows}  : Nb N [.rows L] = some [.rows (cut L 60)] := by
 show Na (std (Jl N) N) (xOf _) = _
 simp only [Na, std, xOf, PXb, PXc, PXn, PXm, Nat.reduceAdd, Int.reduceBEq, nK (show (0 : Int) ≤ 60 by omega)]
 rfl
theorem UG {N : Nat} {L : Rows} (hN : 2097152 < N) (h : L.length ≤ 1048576) : DC N [.rows L, .rows L] = some [.bool true] := by
 show Et (std (Ks N) N) (xOf _) = _
 simp only [Et, std, xOf, PXb, PXm]
 refine AX (CL (len := L.length) (fun i => [.int (i : Int)]) [.int 1] ?_ ?_ N (by omega)) ?_
 ·intro self
  simp only [PXb, PXc, PXn, AF, BB]
 ·intro i self hi
  simp only [PXb, PXc, PXn, PXm, Nat.reduceAdd, Int.reduceBEq, Aq (show i ≤ 1099511627776 by omega), A1 hi, Aa hi]
  rfl
 ·simp only [PXb, PXc, PXn, PXm, Nat.reduceAdd, Int.reduceBEq]
def LT (k s p o : Int) (y : Bool) (t f n b h v : Int) : List PV := [.int k, .int s, .int p, .int o, .bool y, .int 0, .int 0, .int t, .int f, .int n, .int 0, .int b, .bool false, .int h, .int v, .int 0, .int 0, .bool false, .int 0]
def Fu : Rows := [LT 1 1 0 0 true 0 0 0 0 0 0, LT 2 0 1 2 false 0 0 0 0 0 0, LT 8 0 2 0 false 0 0 0 0 0 0, LT 3 0 1 0 false 0 0 0 0 0 0, LT 4 0 0 0 false 1 1 1 0 0 0, LT 4 0 0 0 false 1 0 0 0 1 1, LT 2 0 2 1 false 0 0 0 0 0 0, LT 8 0 1 0 false 0 0 0 0 0 0, LT 3 0 2 0 false 0 0 0 0 0 0, LT 4 0 0 0 false 2 0 0 0 0 0, LT 4 0 0 0 false 1 1 0 4 0 0]
def MB : Rul := ⟨⟨#[84, 69, 83, 84]⟩, 2, 1, 1, 4, 0, 1, 1, false, 0, 0, 0, 11, []⟩
theorem kQ : N5 4194304 [] = some [.rows Fu] := by kernel_rfl
theorem kw : Ja 4194304 [] = some MB.ls := by kernel_rfl
theorem lg : CX MB Fu = 0 := by kernel_rfl
theorem nG : TN MB Fu (sdT Fu) = [⟨1, 1, 1, 2, 0, 0, 0, 0, 0, 0⟩, ⟨2, 5, 0, 1, 1, 0, 0, 0, 0, 0⟩] := by kernel_rfl
theorem mr : dY MB Fu 1 = (⟨4, 1, 0, 0, 0, 5, false, false, false, false⟩, 0) := by kernel_rfl
theorem nC : E3 (Bo Fu Fu.length) = [[.int 1, .int 6], [.int 6, .int 11]] := by kernel_rfl
theorem Vb {x : Option (List PV)} {v : List PV} {f : List PV → Option (List PV)} {r : Option (List PV)} (h : x = some v) (hk : f v = r) : x.bind f = r := by rw [h]; exact hk
set_option maxHeartbeats 2000000 in
theorem eP : Jh 4194304 [] = some [.bool true] := by
 have hs : MB.name.size ≤ 1048576 := by decide
 have hl : Fu.length ≤ 1048576 := by decide
 have hN : 2097152 < 4194304 := by omega
 have k1 : Cj 4194304 (MB.ls ++ [.rows Fu]) = some [.rows (cond (!(CX MB Fu == 0)) [] (Ad (TN MB Fu (sdT Fu)))), .int (CX MB Fu)] := ST hN hs (Nat.zero_le _) hl gA
 have k2 : Di 4194304 (MB.ls ++ [.rows Fu, .int 1]) = some (al (dY MB Fu 1)) := Yl hN hs (Nat.zero_le _) hl
 have k3 := Iu (L := Fu) hN hl
 rw [lg, nG] at k1
 rw [mr] at k2
 rw [nC] at k3
 show NI (std (Ca 4194304) 4194304) (xOf []) = _
 simp only [NI, MM, Pm, QU, Ly, O9, SQ, UB, std, xOf, PXb, kQ, kw]
 refine Vb k1 ?_
 simp only [PXb, PXc, PXn, PXm, Nat.reduceAdd, Int.reduceBEq]
 refine Vb k2 ?_
 simp only [al, PXb, PXc, PXn, PXm, Nat.reduceAdd, Int.reduceBEq, Int.reduceBEq]
 refine Vb (LV (L := Ad [⟨1, 1, 1, 2, 0, 0, 0, 0, 0, 0⟩, ⟨2, 5, 0, 1, 1, 0, 0, 0, 0, 0⟩]) hN (by decide)) ?_
 simp only [PXb, PXc, PXn, PXm, Nat.reduceAdd, Int.reduceBEq, kQ, k3]
 refine Vb (UG (L := [[.int 1, .int 6], [.int 6, .int 11]]) hN (by decide)) ?_
 rfl
theorem nD (L : Rows) : (cut L 60).length ≤ 1048576 := Nat.le_trans (mT L 60) (show 60 ≤ 1048576 by omega)
set_option maxHeartbeats 4000000 in
theorem Vw {N : Nat} {r1 r2 r3 r4 r5 r6 r7 r9 r10 r11 r12 : Int} {r8 : Bool} {r0 : ByteArray} {r13 : Rows} {L : Rows} (ha : Jh N [] = some [.bool true]) (hN : 2097152 < N) (hs : r0.size ≤ 1048576) (h13 : r13.length ≤ 1048576) : D8 N [.str r0, .int r1, .int r2, .int r3, .int r4, .int r5, .int r6, .int r7, .bool r8, .int r9, .int r10, .int r11, .int r12, .rows r13, .rows L] = some [.bool true] := by
 show Dz (std (Aw N) N) (xOf _) = _
 have l := nD L
 simp only [Dz, Nq, PD, ME, Il, M7, Nj, LU, std, xOf, PXb, PXc, PXn, PXm, Nat.reduceAdd, Int.reduceBEq, ha, gy, ST hN hs h13 l gA, UO hN hs h13 l, f6, PXc]
 generalize cut L 60 = X at *
 cases hc : CX (⟨r0, r1, r2, r3, r4, r5, r6, r7, r8, r9, r10, r11, r12, r13⟩ : Rul) X == 0 with
 | false => simp only [PXb, PXc, PXn, PXm, Nat.reduceAdd, Int.reduceBEq, Rq hN hs h13 l, Int.reduceBEq, List.length_nil]
 | true =>
  have c0 := beq_iff_eq.1 hc
  obtain ⟨t1, t2, t3, t4, t5⟩ := l7 c0
  have ro := ik (r := (⟨r0, r1, r2, r3, r4, r5, r6, r7, r8, r9, r10, r11, r12, r13⟩ : Rul)) X hs h13
  rw [t4, t5, t1]
  generalize (Bh (⟨r0, r1, r2, r3, r4, r5, r6, r7, r8, r9, r10, r11, r12, r13⟩ : Rul) X).1 = m at *
  have hl := ro.len
  have sc := Yv (N := N) (m0 := m.rules.name) (m1 := m.rules.side) (m2 := m.rules.innings) (m3 := m.rules.overs) (m4 := m.rules.balls) (m5 := m.rules.quota) (m6 := m.rules.wide) (m7 := m.rules.noball) (m8 := m.rules.freehit) (m9 := m.rules.newball) (m10 := m.rules.followon) (m11 := m.rules.reviews) (m12 := m.rules.outside) (m13 := m.rules.power) (m14 := m.stage) (m15 := m.first) (m16 := m.follow) (m17 := m.inns) (m18 := m.pen1) (m19 := m.pen2) (m20 := m.win) (m21 := m.wside) (m22 := m.margin) hN (by omega)
  have qb : m.rules.balls = r4 := by rw [t3]
  have q2 : A3 m.rules.balls = A3 r4 := by rw [qb]
  rw [q2] at sc
  simp only [PXb, PXc, PXn, PXm, Nat.reduceAdd, Int.reduceBEq, Int.reduceBEq, sc, LV hN (show (Ad (m.inns.map (A3 r4))).length ≤ 1048576 by rw [Wt, List.length_map]; omega), PXs, PXi, List.length_map, beq_self_eq_true]
  refine AX (CL (len := m.inns.length) (fun i => [.int (i : Int)]) [.int 1] ?_ ?_ N (by omega)) ?_
  ·intro self
   simp only [PXb, PXc, PXn, AF, BB]
  ·intro i self hi
   have bq : IntKind.i64.wrap (IntKind.i64.wrap ((inn m.inns i).complete * r4) + (inn m.inns i).inover) = CG r4 (inn m.inns i).complete (inn m.inns i).inover := rfl
   simp only [PXb, PXc, PXn, PXm, Nat.reduceAdd, Int.reduceBEq, PXs, PXi, Aq (show i ≤ 1099511627776 by omega), A1 hi, Aa hi, MW _ _ hi, A3, bq, beq_self_eq_true]
   rfl
  ·simp only [PXb, PXc, PXn, PXm, Nat.reduceAdd, Int.reduceBEq]
end Go.Px
end
