/- Part 13. -/
import Derived.Test.YtmpgkalgfmnpjaaGreatPart12
import Derived.KernelRfl
set_option linter.unusedVariables false
set_option linter.unusedSimpArgs false
section
namespace Go.Px
set_option maxRecDepth 100000
theorem Rb {xs ys : List Sco} (hl : xs.length = ys.length) (h : ∀ j, j < xs.length → sco xs j = sco ys j) : xs = ys := by
 apply List.ext_getElem?
 intro i
 by_cases hi : i < xs.length
 ·have := h i hi
  rw [GV, GV, List.getElem?_eq_getElem hi, List.getElem?_eq_getElem (by omega)] at this
  rw [List.getElem?_eq_getElem hi, List.getElem?_eq_getElem (by omega)]
  exact congrArg some this
 ·rw [List.getElem?_eq_none (by omega), List.getElem?_eq_none (by omega)]
def DN (r : Rul) (L : Rows) (sd : Nat → Int) (n q i : Nat) : List Sco := (List.range n).map fun j => { BB r L sd n j i with side := cond (Nat.blt j q) (sd j) 0 }
theorem Cb (r : Rul) (L : Rows) (sd : Nat → Int) (n q i : Nat) : (DN r L sd n q i).length = n := by unfold DN; rw [List.length_map, List.length_range]
theorem Fy (r : Rul) (L : Rows) (sd : Nat → Int) {n q i j : Nat} (h : j < n) : sco (DN r L sd n q i) j = { BB r L sd n j i with side := cond (Nat.blt j q) (sd j) 0 } := by
 rw [GV]
 unfold DN
 rw [List.getElem?_map, List.getElem?_range h]
 rfl
theorem U1 {a b : Nat} (h : a < b) : Nat.blt a b = true := Nat.ble_eq_true_of_le h
theorem ae {a b : Nat} (h : ¬ a < b) : Nat.blt a b = false := by
 cases hq : Nat.blt a b with
 | false => rfl
 | true => exact absurd (Nat.le_of_ble_eq_true hq) h
theorem SL {xs : List Sco} {k : Nat} (h : k < xs.length) (s : Sco) : sco (xs.set k s) k = s := by rw [Yi _ _ _ _ h, if_pos rfl]
theorem ir {r : Rul} {L : Rows} {sd : Nat → Int} {n k i : Nat} (h : k < n) : (DN r L sd n k i).set k { sco (DN r L sd n k i) k with side := sd k } = DN r L sd n (k + 1) i := by
 refine Rb (by rw [List.length_set, Cb, Cb]) (fun j hj => ?_)
 rw [List.length_set, Cb] at hj
 rw [Yi _ _ _ _ (by rw [Cb]; exact hj), Fy _ _ _ h, Fy _ _ _ hj, Fy _ _ _ hj]
 by_cases e : k = j
 ·subst e
  rw [if_pos rfl, U1 (Nat.lt_succ_self k)]
  rfl
 ·rw [if_neg e]
  have : Nat.blt j k = Nat.blt j (k + 1) := by
   by_cases hl : j < k
   ·rw [U1 hl, U1 (by omega)]
   ·rw [ae hl, ae (by omega)]
  rw [this]
theorem kG (r : Rul) (L : Rows) (sd : Nat → Int) (n i : Nat) : DN r L sd n n i = (List.range n).map fun j => BB r L sd n j i := by
 refine Rb (by rw [Cb, List.length_map, List.length_range]) (fun j hj => ?_)
 rw [Cb] at hj
 rw [Fy _ _ _ hj, GV, List.getElem?_map, List.getElem?_range hj, U1 hj]
 rfl
theorem iB {r : Rul} {L : Rows} {sd : Nat → Int} {n i : Nat} (ho : opn L i = 0) (h13 : ∀ j, j < i → ((evR L j).kind == 13) = true → 1 ≤ opn L (j + 1)) : List.replicate n dS = DN r L sd n 0 i := by
 have pz : ∀ j, pnS L sd n j i = 0 := fun j => by
  have : ∀ m, m ≤ i → pnS L sd n j m = 0 := by
   intro m
   induction m with
   | zero => intro _; rfl
   | succ m ih =>
    intro hm
    rw [Yl, ih (by omega)]
    cases k13 : (evR L m).kind == 13 with
    | false => rfl
    | true =>
     have h1 := h13 m (by omega) k13
     have h2 := IK L (show m + 1 ≤ i by omega)
     omega
  exact this i (Nat.le_refl i)
 refine Rb (by rw [Cb, List.length_replicate]) (fun j hj => ?_)
 rw [List.length_replicate] at hj
 rw [Fy _ _ _ hj, GV, List.getElem?_replicate, if_pos hj, ae (by omega)]
 unfold BB
 have z : ∀ f : Ev → Int, smi L f j i = 0 := fun f => Wy i (by omega)
 simp only [pz, z]
 rfl
theorem Tz {r : Rul} {L : Rows} {sd : Nat → Int} {n k q i : Nat} {y : Sco} (hk : k < n) (hy : y = { BB r L sd n k (i + 1) with side := cond (Nat.blt k q) (sd k) 0 }) (ho : ∀ j, j < n → ¬ k = j → BB r L sd n j (i + 1) = BB r L sd n j i) :
    (DN r L sd n q i).set k y = DN r L sd n q (i + 1) := by
  refine Rb (by rw [List.length_set, Cb, Cb]) (fun j hj => ?_)
  rw [List.length_set, Cb] at hj
  rw [Yi _ _ _ _ (by rw [Cb]; exact hj), Fy _ _ _ hj, Fy _ _ _ hj]
  by_cases e : k = j
  · subst e
    rw [if_pos rfl, hy]
  · rw [if_neg e, ho j hj e]
theorem cF {r : Rul} {L : Rows} {sd : Nat → Int} {n q i : Nat} (ho : ∀ j, j < n → BB r L sd n j (i + 1) = BB r L sd n j i) : DN r L sd n q i = DN r L sd n q (i + 1) := by
 refine Rb (by rw [Cb, Cb]) (fun j hj => ?_)
 rw [Cb] at hj
 rw [Fy _ _ _ hj, Fy _ _ _ hj, ho j hj]
def Z9 (r : Rul) (e : Ev) (k : Nat) (d : Option Nat) (xs : List Sco) : List Sco :=
  let x1 := cond (RF e) (xs.set k { sco xs k with wickets := IntKind.i64.wrap ((sco xs k).wickets + 1) }) xs
  let c := AB r e.ball
  cond (e.kind == 4)
    (x1.set k { sco x1 k with runs := IntKind.i64.wrap ((sco x1 k).runs + C8 c), balls := cond c.counts (IntKind.i64.wrap ((sco x1 k).balls + 1)) (sco x1 k).balls, wides := IntKind.i64.wrap ((sco x1 k).wides + c.wides), noballs := IntKind.i64.wrap ((sco x1 k).noballs + c.noballs), byes := IntKind.i64.wrap ((sco x1 k).byes + c.byes), legbyes := IntKind.i64.wrap ((sco x1 k).legbyes + c.legbyes) })
    (cond (e.kind == 13) (match d with
      | some j => x1.set j { sco x1 j with runs := IntKind.i64.wrap ((sco x1 j).runs + 5), pens := IntKind.i64.wrap ((sco x1 j).pens + 5) }
      | none => x1) x1)
theorem f7 {sd : Nat → Int} {n k j : Nat} {s : Int} (hk : k < n) (h : JG sd n k s = some j) : j < n := by
 rcases (iL h).2 with h | h <;> omega
theorem iX {r : Rul} {L : Rows} {sd : Nat → Int} {n k i : Nat} (rk : RulOk r) (hk : k < n) (ho : opn L (i + 1) = k + 1) (hi : i < 4000) : Z9 r (evR L i) k (JG sd n k (evR L i).side) (DN r L sd n (k + 1) i) = DN r L sd n (k + 1) (i + 1) := by
 have hn : ∀ j, ¬ k = j → Nat.beq (opn L (i + 1)) (j + 1) = false := fun j hj => W7 (by omega)
 have hy : Nat.beq (opn L (i + 1)) (k + 1) = true := by rw [ho]; exact Yc _
 have sm := fun j => dg rk L sd n j (show i ≤ 4000 by omega)
 have cs := ip r L sd n
 have hp : opn L (i + 1) - 1 = k := by omega
 have tl : k < (DN r L sd n (k + 1) i).length := by rw [Cb]; exact hk
 unfold Z9
 cases h4 : (evR L i).kind == 4 with
 | true =>
  have k4 := beq_iff_eq.1 h4
  have h13 : ((evR L i).kind == 13) = false := by rw [k4]; rfl
  have ce : Ah r (evR L i) = AB r (evR L i).ball := by unfold Ah; rw [h4]; rfl
  have co := B9 rk (evR L i)
  have tb := jX rk (evR L i)
  rw [← ce]
  have fin : ∀ y : Sco, y = { BB r L sd n k (i + 1) with side := cond (Nat.blt k (k + 1)) (sd k) 0 } → (DN r L sd n (k + 1) i).set k y = DN r L sd n (k + 1) (i + 1) := fun y hyy => Tz hk hyy (fun j hj hjk => by
   rw [cs, h13, Bool.false_and, cond_false, Ct, hn j hjk]; rfl)
  have ex : BB r L sd n k (i + 1) = Mv r (evR L i) (BB r L sd n k i) := by rw [cs, h13, Bool.false_and, cond_false, Ct, hy]; rfl
  have s := sm k
  have s1 := s.runs
  have s2 := s.wk
  have s3 := s.balls
  have s4 := s.wides
  have s5 := s.no
  have s6 := s.bb
  have s7 := s.lb
  have c1 := co.wi
  have c2 := co.no
  have c3 := co.bb
  have c4 := co.lb
  unfold SZ at tb
  have w1 : IntKind.i64.wrap ((BB r L sd n k i).runs + C8 (Ah r (evR L i))) = (BB r L sd n k i).runs + C8 (Ah r (evR L i)) := Az (by omega) (by omega)
  have w2 : IntKind.i64.wrap ((BB r L sd n k i).wickets + 1) = (BB r L sd n k i).wickets + 1 := Az (by omega) (by omega)
  have w3 : IntKind.i64.wrap ((BB r L sd n k i).balls + 1) = (BB r L sd n k i).balls + 1 := Az (by omega) (by omega)
  have w4 : IntKind.i64.wrap ((BB r L sd n k i).wides + (Ah r (evR L i)).wides) = (BB r L sd n k i).wides + (Ah r (evR L i)).wides := Az (by omega) (by omega)
  have w5 : IntKind.i64.wrap ((BB r L sd n k i).noballs + (Ah r (evR L i)).noballs) = (BB r L sd n k i).noballs + (Ah r (evR L i)).noballs := Az (by omega) (by omega)
  have w6 : IntKind.i64.wrap ((BB r L sd n k i).byes + (Ah r (evR L i)).byes) = (BB r L sd n k i).byes + (Ah r (evR L i)).byes := Az (by omega) (by omega)
  have w7 : IntKind.i64.wrap ((BB r L sd n k i).legbyes + (Ah r (evR L i)).legbyes) = (BB r L sd n k i).legbyes + (Ah r (evR L i)).legbyes := Az (by omega) (by omega)
  have od := f8 (evR L i)
  cases hb : RF (evR L i) with
  | false =>
   simp only [cond_false, cond_true, Fy _ _ _ hk, w1, w3, w4, w5, w6, w7]
   refine fin _ ?_
   rw [ex]
   unfold Mv
   rw [od, hb]
   cases (Ah r (evR L i)).counts <;> simp only [cond_false, cond_true, Int.add_zero]
  | true =>
   simp only [cond_true, SL tl, List.set_set, Fy _ _ _ hk, w1, w2, w3, w4, w5, w6, w7]
   refine fin _ ?_
   rw [ex]
   unfold Mv
   rw [od, hb]
   cases (Ah r (evR L i)).counts <;> simp only [cond_false, cond_true, Int.add_zero]
 | false =>
  have s := sm k
  have s2 := s.wk
  have w2 : IntKind.i64.wrap ((BB r L sd n k i).wickets + 1) = (BB r L sd n k i).wickets + 1 := Az (by omega) (by omega)
  have od := f8 (evR L i)
  cases h13 : (evR L i).kind == 13 with
  | true =>
   have k13 := beq_iff_eq.1 h13
   have ob : RF (evR L i) = false := by unfold RF; rw [k13]; rfl
   have oe : DI (evR L i) = 0 := by unfold DI; rw [k13]; rfl
   have ex : ∀ j, BB r L sd n j (i + 1) = KU (cond (isS (JG sd n k (evR L i).side) j) 5 0) (BB r L sd n j i) := fun j => by
    rw [cs, h13, Bool.true_and, hp, QF _ h4 oe]
    cases Nat.beq (opn L (i + 1)) (j + 1) <;> rfl
   simp only [ob, cond_false, cond_true]
   cases hd : JG sd n k (evR L i).side with
   | none =>
    refine cF (fun j hj => ?_)
    rw [ex, hd]
    exact Ct _
   | some d =>
    have dl := f7 hk hd
    have q := sm d
    have q1 := q.runs
    have q2 := q.pens
    have v1 : IntKind.i64.wrap ((BB r L sd n d i).runs + 5) = (BB r L sd n d i).runs + 5 := Az (by omega) (by omega)
    have v2 : IntKind.i64.wrap ((BB r L sd n d i).pens + 5) = (BB r L sd n d i).pens + 5 := Az (by omega) (by omega)
    simp only [Fy _ _ _ dl, v1, v2]
    refine Tz dl ?_ (fun j hj hjd => ?_)
    ·rw [ex, hd, show isS (some d) d = true from Yc d]
     rfl
    ·rw [ex, hd, show isS (some d) j = false from W7 hjd]
     exact Ct _
  | false =>
   have ex : ∀ j, BB r L sd n j (i + 1) = cond (Nat.beq (opn L (i + 1)) (j + 1)) (Mv r (evR L i) (BB r L sd n j i)) (BB r L sd n j i) := fun j => by
    rw [cs, h13, Bool.false_and, cond_false, Ct]
   have oe : Mq (evR L i) = DI (evR L i) := by unfold Mq; rw [h4]; rfl
   rw [oe] at od
   cases hb : RF (evR L i) with
   | false =>
    rw [hb] at od
    simp only [cond_false]
    refine cF (fun j hj => ?_)
    rw [ex, QF _ h4 od]
    cases Nat.beq (opn L (i + 1)) (j + 1) <;> rfl
   | true =>
    rw [hb] at od
    simp only [cond_false, cond_true, Fy _ _ _ hk, w2]
    refine Tz hk ?_ (fun j hj hjk => ?_)
    ·rw [ex, hy, cond_true, WW _ h4, od]
     rfl
    ·rw [ex, hn j hjk]; rfl
def sdT (L : Rows) : Nat → Int := Uz (Yb L) (Gw L L.length)
def Sk (r : Rul) (L : Rows) (sd : Nat → Int) : List Sco := (List.range (opn L L.length)).map fun j => BB r L sd (opn L L.length) j L.length
structure InLog (L : Rows) : Prop where
 len : L.length ≤ 4000
 pen : ∀ j, j < L.length → ((evR L j).kind == 13) = true → 1 ≤ opn L (j + 1)
set_option maxHeartbeats 4000000 in
theorem gt {N : Nat} {r : Rul} {L : Rows} {k : Nat} (hN : 2097152 < N) (il : InLog L) (rk : RulOk r) (hk : k < opn L L.length) {F : (List AQ → Option (List PV)) → List PV → Option (List PV)}
    (f0 : ∀ xs self, F self [.rows (Ai xs), .int ((AH L (k + 1) - AH L k : Nat) : Int)] = some [.rows (Ai xs), .int ((AH L (k + 1) - AH L k : Nat) : Int)])
    (f1 : ∀ (i : Nat) self, i < AH L (k + 1) - AH L k → ∀ xs : List Sco, xs.length = opn L L.length → F self [.rows (Ai xs), .int (i : Int)] = self [.rows (Ai (Z9 r (evR L (AH L k + i)) k (JG (sdT L) (opn L L.length) k (evR L (AH L k + i)).side) xs)), .int ((i + 1 : Nat) : Int)]) :
    DB F N [.rows (Ai (DN r L (sdT L) (opn L L.length) (k + 1) (AH L k))), .int 0] = some [.rows (Ai (DN r L (sdT L) (opn L L.length) (k + 1) (AH L (k + 1)))), .int ((AH L (k + 1) - AH L k : Nat) : Int)] := by
  have sg := seg (by have := il.len; omega) hk
  have h1 := sg.lt
  have h2 := sg.le
  have h3 := il.len
  have e : AH L k + (AH L (k + 1) - AH L k) = AH L (k + 1) := by omega
  have := Ck (F := F) (len := AH L (k + 1) - AH L k) (fun i => [.rows (Ai (DN r L (sdT L) (opn L L.length) (k + 1) (AH L k + i))), .int (i : Int)]) [.rows (Ai (DN r L (sdT L) (opn L L.length) (k + 1) (AH L (k + 1)))), .int ((AH L (k + 1) - AH L k : Nat) : Int)]
    (fun self => by
      show F self [.rows (Ai (DN r L (sdT L) (opn L L.length) (k + 1) (AH L k + (AH L (k + 1) - AH L k)))), _] = _
      rw [e]
      exact f0 _ self)
    (fun i self hi => by
      show F self [.rows (Ai (DN r L (sdT L) (opn L L.length) (k + 1) (AH L k + i))), .int (i : Int)] = _
      rw [f1 i self hi _ (Cb _ _ _ _ _ _), iX rk hk (sg.mid _ (by omega) (by omega)) (by omega)]
      rfl) N (by omega)
  exact this
theorem lc (L : Rows) (i : Nat) : (⟨pvI (AE L i 0), pvI (AE L i 1), pvI (AE L i 2), pvI (AE L i 3), pvB (AE L i 4), pvI (AE L i 5), pvI (AE L i 6), ⟨pvI (AE L i 7), pvI (AE L i 8), pvI (AE L i 9), pvI (AE L i 10), pvI (AE L i 11), pvB (AE L i 12), pvI (AE L i 13), pvI (AE L i 14), pvI (AE L i 15), pvI (AE L i 16), pvB (AE L i 17), pvI (AE L i 18)⟩⟩ : Ev) = evR L i := rfl
set_option maxHeartbeats 4000000 in
theorem Rd {N : Nat} {r1 r2 r3 r4 r5 r6 r7 r9 r10 r11 r12 : Int} {r8 : Bool} {r0 : ByteArray} {r13 : Rows} {L : Rows} (hN : 2097152 < N) (hs : r0.size ≤ 1048576) (h13 : r13.length ≤ 1048576) (hL : L.length ≤ 1048576) (il : CY (⟨r0, r1, r2, r3, r4, r5, r6, r7, r8, r9, r10, r11, r12, r13⟩ : Rul) L = 0 → InLog L ∧ RulOk (⟨r0, r1, r2, r3, r4, r5, r6, r7, r8, r9, r10, r11, r12, r13⟩ : Rul)) : Ca N [.str r0, .int r1, .int r2, .int r3, .int r4, .int r5, .int r6, .int r7, .bool r8, .int r9, .int r10, .int r11, .int r12, .rows r13, .rows L] = some [.rows (cond (!(CY (⟨r0, r1, r2, r3, r4, r5, r6, r7, r8, r9, r10, r11, r12, r13⟩ : Rul) L == 0)) [] (Ai (Sk (⟨r0, r1, r2, r3, r4, r5, r6, r7, r8, r9, r10, r11, r12, r13⟩ : Rul) L (sdT L)))), .int (CY (⟨r0, r1, r2, r3, r4, r5, r6, r7, r8, r9, r10, r11, r12, r13⟩ : Rul) L)] := by
  show I0 (std (Bi N) N) (xOf _) = _
  generalize hres : (some [.rows (cond (!(CY (⟨r0, r1, r2, r3, r4, r5, r6, r7, r8, r9, r10, r11, r12, r13⟩ : Rul) L == 0)) [] (Ai (Sk (⟨r0, r1, r2, r3, r4, r5, r6, r7, r8, r9, r10, r11, r12, r13⟩ : Rul) L (sdT L)))), .int (CY (⟨r0, r1, r2, r3, r4, r5, r6, r7, r8, r9, r10, r11, r12, r13⟩ : Rul) L)] : Option (List PV)) = RR
  simp only [I0, NT, N7, Pd, IC, FI, Fg, O9, std, xOf, PXb, V0 hN hs h13 hL]
  subst hres
  cases hc : CY (⟨r0, r1, r2, r3, r4, r5, r6, r7, r8, r9, r10, r11, r12, r13⟩ : Rul) L == 0 with
  | false => rfl
  | true =>
    have c0 := beq_iff_eq.1 hc
    obtain ⟨il, rk⟩ := il c0
    have ol := RT L L.length
    have l4 := il.len
    have s80 : iSm ((opn L L.length : Nat) : Int) 80 = true := Gz (by omega) (by omega)
    rw [c0]
    simp only [PXb, Bool.not_true, Zn hN hL, MG, R4, s80, Iz hN hL, ki]
    have st : List.replicate (opn L L.length) dS = DN (⟨r0, r1, r2, r3, r4, r5, r6, r7, r8, r9, r10, r11, r12, r13⟩ : Rul) L (sdT L) (opn L L.length) 0 (AH L 0) := by
      refine iB ?_ (fun j hj => il.pen j ?_)
      · by_cases h0 : 0 < opn L L.length
        · exact (seg hL h0).o0
        · unfold AH; rw [if_neg h0]; omega
      · have : AH L 0 ≤ L.length := by
          by_cases h0 : 0 < opn L L.length
          · have := (seg hL h0).lt; have := (seg hL h0).le; omega
          · unfold AH; rw [if_neg h0]; exact Nat.le_refl _
        omega
    rw [st]
    refine AY (Ck (len := opn L L.length) (fun k => [.rows (Ai (DN (⟨r0, r1, r2, r3, r4, r5, r6, r7, r8, r9, r10, r11, r12, r13⟩ : Rul) L (sdT L) (opn L L.length) k (AH L k))), .int (k : Int)]) [.rows (Ai (Sk (⟨r0, r1, r2, r3, r4, r5, r6, r7, r8, r9, r10, r11, r12, r13⟩ : Rul) L (sdT L)))] ?_ ?_ N (by omega)) ?_
    · intro self
      simp only [PXb, PXc, PXn, AG, PXp, Mt, BK, kF, kG]
      rfl
    · intro k self hk
      have sg := seg hL hk
      have sgl := sg.lt
      have sge := sg.le
      have rg : iRg (AH L k : Int) (AH L (k + 1) : Int) (L.length : Int) = true := by simp only [iRg, decide_eq_true_eq]; omega
      have zk : atI (F8 (zs (sdT L) (opn L L.length))) k 0 = sdT L k := eu _ hk
      have sl := eJ (L := L) (a := AH L k) sge
      have zk' : pvI (AE (F8 (zs (Uz (Yb L) (Gw L L.length)) (opn L L.length))) k 0) = sdT L k := zk
      simp only [PXb, PXc, PXn, AG, PXp, PXs, Mt, Km (show k ≤ 1099511627776 by omega), A1 hk, Ac hk, Cb, MG, R4, sg.x0, sg.x1, rg, zk', PXt, ir hk]
      generalize hX : List.drop (AH L k) (List.take (AH L (k + 1)) L) = X at *
      refine AY (gt hN il rk hk ?_ ?_) ?_
      · intro xs self
        simp only [PXb, PXc, PXn, AG, sl, BK]
      · intro i self hi xs hx
        have hev : evR X i = evR L (AH L k + i) := by rw [← hX]; exact gA L i hi
        simp only [PXb, PXc, PXn, AG, PXc, sl, Km (show i ≤ 1099511627776 by omega), A1 hi, Ac hi, Nat.reduceAdd, IC, cy, lc, hev]
        have hk' : k < xs.length := by rw [hx]; exact hk
        generalize hd : JG (sdT L) (opn L L.length) k (evR L (AH L k + i)).side = d
        have kx : pvI (AE X i 0) = (evR L (AH L k + i)).kind := congrArg Ev.kind hev
        have sx : pvI (AE X i 1) = (evR L (AH L k + i)).side := congrArg Ev.side hev
        have LD : HR N [.rows (F8 (zs (Uz (Yb L) (Gw L L.length)) (opn L L.length))), .int (k : Int), .int (evR L (AH L k + i)).side] = some [.int (eV d)] := by rw [← hd]; exact dQ hN (by omega) hk
        have bx : (⟨pvI (AE X i 7), pvI (AE X i 8), pvI (AE X i 9), pvI (AE X i 10), pvI (AE X i 11), pvB (AE X i 12), pvI (AE X i 13), pvI (AE X i 14), pvI (AE X i 15), pvI (AE X i 16), pvB (AE X i 17), pvI (AE X i 18)⟩ : Del) = (evR L (AH L k + i)).ball := congrArg Ev.ball hev
        rw [kx]
        unfold Z9
        cases ho : RF (evR L (AH L k + i)) <;> cases h4 : (evR L (AH L k + i)).kind == 4 <;> cases h13 : (evR L (AH L k + i)).kind == 13
        all_goals simp only [PXb, PXc, PXn, AG, PXc, PXs, PXt, Nat.reduceAdd, FI, Fv, bx, sx, LD, Fg, P2, List.length_set, Ac hk', hk', SL hk', List.set_set, Cre.ls, ho, h4, h13]
        all_goals first
          | (cases (AB (⟨r0, r1, r2, r3, r4, r5, r6, r7, r8, r9, r10, r11, r12, r13⟩ : Rul) (evR L (AH L k + i)).ball).counts <;> rfl)
          | (cases d with
             | none => rfl
             | some j =>
               have dl : j < xs.length := by rw [hx]; exact f7 hk hd
               have dl2 : ∀ y s, sco ((xs.set k y).set j s) j = s := fun y s => SL (by rw [List.length_set]; exact dl) s
               simp only [eV, PXb, gF, Ac dl, List.length_set, SL dl, List.set_set, dl2])
      · simp only [PXb, PXc, PXn, AG, PXc, PXb, PXc, PXn, PXm, Nat.reduceAdd, Int.reduceBEq]
    · simp only [PXb, PXc, PXn, PXm, Nat.reduceAdd, Int.reduceBEq]
end Go.Px
end
section
namespace Go.Px
set_option maxRecDepth 100000
theorem fh {r : Rul} {L : Rows} (h : CY r L = 0) : ((Cr r).2 == 0) = true ∧ BA r = 0 ∧ L.length ≤ 4000 ∧ acc L L.length 0 (Cr r).1 ∧ HW r L = (stM L L.length 0 (Cr r).1, -1, 0) := by
 unfold CY at h
 cases hc : BA r == 0 with
 | false => rw [hc] at h; rw [show BA r = 0 from h] at hc; cases hc
 | true =>
  cases hl : iLt 4000 (L.length : Int) with
  | true => rw [hc, hl] at h; cases h
  | false =>
   cases hr : (HW r L).2.2 == 0 with
   | false => rw [hc, hl, hr] at h; cases h
   | true =>
    have hn := (jE r).trans hc
    have hrep : HW r L = Gj L L.length 0 (Cr r).1 := by unfold HW; rw [hn]; rfl
    obtain ⟨k, h1, h2, h3, h4⟩ := cO L L.length 0 (Cr r).1
    have l4 : L.length ≤ 4000 := by simp only [iLt, decide_eq_false_iff_not] at hl; omega
    rcases h4 with ⟨h5, h6⟩ | ⟨h5, h6, h7⟩
    ·subst h5
     exact ⟨hn, beq_iff_eq.1 hc, l4, h2, hrep.trans h6⟩
    ·rw [hrep, h7] at hr
     rw [h6] at hr
     cases hr
theorem aB {r : Rul} {L : Rows} (h : CY r L = 0) : InLog L ∧ RulOk r := by
 obtain ⟨h1, h2, h3, h4, h5⟩ := fh h
 obtain ⟨_, _, h6⟩ := dy h1 h4 L.length (Nat.le_refl _)
 refine ⟨⟨h3, fun j hj k13 => ?_⟩, Ew h2⟩
 have e := beq_iff_eq.1 k13
 have := (h6 j hj).2.play (by rw [e]; rfl) (by rw [e]; rfl) (by rw [e]; rfl) (by rw [e]; rfl)
 exact Nat.le_trans this (Wi L j)
theorem kD (r : Rul) (L : Rows) (sd : Nat → Int) : (Sk r L sd).length = opn L L.length := by unfold Sk; rw [List.length_map, List.length_range]
theorem lL {r : Rul} {L : Rows} {sd : Nat → Int} {j : Nat} (h : j < opn L L.length) : sco (Sk r L sd) j = BB r L sd (opn L L.length) j L.length := by
 rw [GV]
 unfold Sk
 rw [List.getElem?_map, List.getElem?_range h]
 rfl
theorem SJ {N : Nat} {L : Rows} (hN : 2097152 < N) (h : L.length ≤ 1048576) : Ch N [.rows L, .rows L] = some [.bool true] := by
 show D5 (std (Jf N) N) (xOf _) = _
 simp only [D5, std, xOf, PXb, PXm]
 refine AY (Ck (len := L.length) (fun i => [.int (i : Int)]) [.int 1] ?_ ?_ N (by omega)) ?_
 ·intro self
  simp only [PXb, PXc, PXn, AG, BK]
 ·intro i self hi
  simp only [PXb, PXc, PXn, PXm, Nat.reduceAdd, Int.reduceBEq, Ar (show i ≤ 1099511627776 by omega), A1 hi, Ac hi]
  rfl
 ·simp only [PXb, PXc, PXn, PXm, Nat.reduceAdd, Int.reduceBEq]
def prA (r : Rul) (L : Rows) (k p : Nat) : Cre := ⟨smi L (fun e => (Ah r e).batter) k p, smi L (fun e => (Ah r e).wides) k p, smi L (fun e => (Ah r e).noballs) k p, smi L (fun e => (Ah r e).byes) k p, smi L (fun e => (Ah r e).legbyes) k p, smi L (fun e => (Ah r e).bowler) k p, false, false, false, false⟩
theorem bA {r : Rul} {L : Rows} {k p : Nat} (h : opn L p ≤ k) : prA r L k p = J0 := by
 unfold prA
 have z : ∀ f : Ev → Int, smi L f k p = 0 := fun f => Wy p h
 simp only [z]
 rfl
theorem jW {r : Rul} (h : RulOk r) (e : Ev) : 0 ≤ (Ah r e).bowler ∧ (Ah r e).bowler ≤ 36 := by
 have c := B9 h e
 have h0 := c.ba
 have h1 := c.wi
 have h2 := c.no
 have h3 := c.bo
 omega
def eh (a c : Cre) : Cre := ⟨IntKind.i64.wrap (a.batter + c.batter), IntKind.i64.wrap (a.wides + c.wides), IntKind.i64.wrap (a.noballs + c.noballs), IntKind.i64.wrap (a.byes + c.byes), IntKind.i64.wrap (a.legbyes + c.legbyes), IntKind.i64.wrap (a.bowler + c.bowler), false, false, false, false⟩
theorem iM {r : Rul} {L : Rows} {k p : Nat} (rk : RulOk r) (ho : opn L (p + 1) = k + 1) (hp : p < 4000) : prA r L k (p + 1) = eh (prA r L k p) (Ah r (evR L p)) := by
 have hy : Nat.beq (opn L (p + 1)) (k + 1) = true := by rw [ho]; exact Yc _
 have c := B9 rk (evR L p)
 have h0 := c.ba
 have h1 := c.wi
 have h2 := c.no
 have h3 := c.bb
 have h4 := c.lb
 have h5 := jW rk (evR L p)
 have b0 := D3 (L := L) (f := fun e => (Ah r e).batter) (fun e => (B9 rk e).ba) k p
 have b1 := D3 (L := L) (f := fun e => (Ah r e).wides) (fun e => (B9 rk e).wi) k p
 have b2 := D3 (L := L) (f := fun e => (Ah r e).noballs) (fun e => (B9 rk e).no) k p
 have b3 := D3 (L := L) (f := fun e => (Ah r e).byes) (fun e => (B9 rk e).bb) k p
 have b4 := D3 (L := L) (f := fun e => (Ah r e).legbyes) (fun e => (B9 rk e).lb) k p
 have b5 := D3 (L := L) (f := fun e => (Ah r e).bowler) (jW rk) k p
 unfold prA eh
 simp only [MO, hy, cond_true]
 rw [Az (n := smi L (fun e => (Ah r e).batter) k p + _) (by omega) (by omega), Az (n := smi L (fun e => (Ah r e).wides) k p + _) (by omega) (by omega), Az (n := smi L (fun e => (Ah r e).noballs) k p + _) (by omega) (by omega), Az (n := smi L (fun e => (Ah r e).byes) k p + _) (by omega) (by omega), Az (n := smi L (fun e => (Ah r e).legbyes) k p + _) (by omega) (by omega), Az (n := smi L (fun e => (Ah r e).bowler) k p + _) (by omega) (by omega)]
theorem jJ {r : Rul} {L : Rows} {k p : Nat} (h4 : ((evR L p).kind == 4) = false) : prA r L k (p + 1) = prA r L k p := by
 have c0 : Ah r (evR L p) = J0 := by unfold Ah; rw [h4]; rfl
 unfold prA
 simp only [MO, c0, J0]
 cases Nat.beq (opn L (p + 1)) (k + 1) <;> simp only [cond_true, cond_false, Int.add_zero]
def Wj (r : Rul) (L : Rows) (k : Int) : Cre × Int := cond (!(CY r L == 0)) (J0, CY r L) (cond (iLt k 0 || iLe (opn L L.length : Int) k) (J0, 2) (prA r L k.toNat L.length, 0))
def W3 (x : Cre × Int) : List PV := [.int x.1.batter, .int x.1.wides, .int x.1.noballs, .int x.1.byes, .int x.1.legbyes, .int x.1.bowler, .bool x.1.counts, .bool x.1.faced, .bool x.1.wicket, .bool x.1.swap, .int x.2]
theorem ZN {L : Rows} {f : Ev → Int} {k p : Nat} (h : opn L p = k + 1) (hp : p ≤ L.length) (hn : p = L.length ∨ ((evR L p).kind == 2) = true) : ∀ c, p + c ≤ L.length → smi L f k (p + c) = smi L f k p
 | 0, _ => rfl
 | c + 1, hc => by
  rw [show p + (c + 1) = p + c + 1 by omega, MO, ZN h hp hn c (by omega)]
  rcases hn with hn | hn
  ·omega
  ·have := IK L (show p + 1 ≤ p + c + 1 by omega)
   rw [Py hn] at this
   rw [W7 (by omega), cond_false, Int.add_zero]
theorem gP {L : Rows} (hL : L.length ≤ 1048576) {k : Nat} (hk : k < opn L L.length) : AH L (k + 1) = L.length ∨ ((evR L (AH L (k + 1))).kind == 2) = true := by
 by_cases h : k + 1 < opn L L.length
 ·obtain ⟨a, p1, p2, p3, p4, p5⟩ := W4 hL L.length (Nat.le_refl _) (k + 1) h
  have : AH L (k + 1) = a := by unfold AH; rw [if_pos h, p1]; rfl
  rw [this]
  exact Or.inr p4
 ·exact Or.inl (by unfold AH; rw [if_neg h])
theorem jl {L : Rows} (hL : L.length ≤ 1048576) {f : Ev → Int} {k : Nat} (hk : k < opn L L.length) : smi L f k L.length = smi L f k (AH L (k + 1)) := by
 have sg := seg hL hk
 have := ZN (f := f) sg.o1 sg.le (gP hL hk) (L.length - AH L (k + 1)) (by have := sg.le; omega)
 rw [show AH L (k + 1) + (L.length - AH L (k + 1)) = L.length by have := sg.le; omega] at this
 exact this
theorem j0 {r : Rul} {L : Rows} (hL : L.length ≤ 1048576) {k : Nat} (hk : k < opn L L.length) : prA r L k L.length = prA r L k (AH L (k + 1)) := by
 unfold prA
 simp only [jl hL hk]
theorem gw {N : Nat} {r : Rul} {L : Rows} {k : Nat} (hN : 2097152 < N) (il : InLog L) (rk : RulOk r) (hk : k < opn L L.length) {F : (List AQ → Option (List PV)) → List PV → Option (List PV)}
    (f0 : ∀ (c : Cre) self, F self [.int ((AH L (k + 1) - AH L k : Nat) : Int), .int c.batter, .int c.wides, .int c.noballs, .int c.byes, .int c.legbyes, .int c.bowler, .bool false, .bool false, .bool false, .bool false] = some [.int c.batter, .int c.wides, .int c.noballs, .int c.byes, .int c.legbyes, .int c.bowler, .bool false, .bool false, .bool false, .bool false])
    (f1 : ∀ (i : Nat) self, i < AH L (k + 1) - AH L k → ∀ c : Cre, F self [.int (i : Int), .int c.batter, .int c.wides, .int c.noballs, .int c.byes, .int c.legbyes, .int c.bowler, .bool false, .bool false, .bool false, .bool false] = (let d := cond ((evR L (AH L k + i)).kind == 4) (eh c (Ah r (evR L (AH L k + i)))) c; self [.int ((i + 1 : Nat) : Int), .int d.batter, .int d.wides, .int d.noballs, .int d.byes, .int d.legbyes, .int d.bowler, .bool false, .bool false, .bool false, .bool false])) :
    DB F N [.int 0, .int 0, .int 0, .int 0, .int 0, .int 0, .int 0, .bool false, .bool false, .bool false, .bool false] = some (prA r L k (AH L (k + 1))).ls := by
  have sg := seg (by have := il.len; omega) hk
  have h1 := sg.lt
  have h2 := sg.le
  have h3 := il.len
  have e : AH L k + (AH L (k + 1) - AH L k) = AH L (k + 1) := by omega
  have z0 : prA r L k (AH L k) = J0 := bA (by rw [sg.o0]; exact Nat.le_refl _)
  have := Ck (F := F) (len := AH L (k + 1) - AH L k) (fun i => [.int (i : Int), .int (prA r L k (AH L k + i)).batter, .int (prA r L k (AH L k + i)).wides, .int (prA r L k (AH L k + i)).noballs, .int (prA r L k (AH L k + i)).byes, .int (prA r L k (AH L k + i)).legbyes, .int (prA r L k (AH L k + i)).bowler, .bool false, .bool false, .bool false, .bool false]) (prA r L k (AH L (k + 1))).ls
    (fun self => by
      have := f0 (prA r L k (AH L k + (AH L (k + 1) - AH L k))) self
      rw [e] at this
      show F self [.int ((AH L (k + 1) - AH L k : Nat) : Int), .int (prA r L k (AH L k + (AH L (k + 1) - AH L k))).batter, .int (prA r L k (AH L k + (AH L (k + 1) - AH L k))).wides, .int (prA r L k (AH L k + (AH L (k + 1) - AH L k))).noballs, .int (prA r L k (AH L k + (AH L (k + 1) - AH L k))).byes, .int (prA r L k (AH L k + (AH L (k + 1) - AH L k))).legbyes, .int (prA r L k (AH L k + (AH L (k + 1) - AH L k))).bowler, .bool false, .bool false, .bool false, .bool false] = _
      rw [e, this]
      rfl)
    (fun i self hi => by
      have f2 := f1 i self hi (prA r L k (AH L k + i))
      have st : prA r L k (AH L k + i + 1) = cond ((evR L (AH L k + i)).kind == 4) (eh (prA r L k (AH L k + i)) (Ah r (evR L (AH L k + i)))) (prA r L k (AH L k + i)) := by
        cases h4 : (evR L (AH L k + i)).kind == 4 with
        | true => exact iM rk (sg.mid _ (by omega) (by omega)) (by omega)
        | false => exact jJ h4
      rw [← st] at f2
      exact f2) N (by omega)
  rw [Nat.add_zero, z0] at this
  exact this
set_option maxHeartbeats 4000000 in
theorem QW {N : Nat} {r1 r2 r3 r4 r5 r6 r7 r9 r10 r11 r12 : Int} {r8 : Bool} {r0 : ByteArray} {r13 : Rows} {L : Rows} {k : Int} (hN : 2097152 < N) (hs : r0.size ≤ 1048576) (h13 : r13.length ≤ 1048576) (hL : L.length ≤ 1048576) : CH N [.str r0, .int r1, .int r2, .int r3, .int r4, .int r5, .int r6, .int r7, .bool r8, .int r9, .int r10, .int r11, .int r12, .rows r13, .rows L, .int k] = some (W3 (Wj (⟨r0, r1, r2, r3, r4, r5, r6, r7, r8, r9, r10, r11, r12, r13⟩ : Rul) L k)) := by
 show H1 (std (D0 N) N) (xOf _) = _
 generalize hres : (some (W3 (Wj (⟨r0, r1, r2, r3, r4, r5, r6, r7, r8, r9, r10, r11, r12, r13⟩ : Rul) L k)) : Option (List PV)) = RR
 simp only [H1, MH, Oh, El, std, xOf, PXb, V0 hN hs h13 hL, Iz hN hL, PXp, Mt]
 subst hres; simp only [Wj]
 cases hc : CY (⟨r0, r1, r2, r3, r4, r5, r6, r7, r8, r9, r10, r11, r12, r13⟩ : Rul) L == 0 with
 | false => rfl
 | true =>
  obtain ⟨il, rk⟩ := aB (beq_iff_eq.1 hc)
  simp only [PXb, Bool.not_true]
  cases hb : iLt k 0 || iLe (opn L L.length : Int) k with
  | true => rfl
  | false =>
   simp only [Bool.or_eq_false_iff, iLt, iLe, decide_eq_false_iff_not] at hb
   obtain ⟨K, rfl⟩ : ∃ K : Nat, k = (K : Int) := ⟨k.toNat, by omega⟩
   have hk : K < opn L L.length := by omega
   have sg := seg hL hk
   have sgl := sg.lt
   have sge := sg.le
   have l4 := il.len
   have rg : iRg (AH L K : Int) (AH L (K + 1) : Int) (L.length : Int) = true := by simp only [iRg, decide_eq_true_eq]; omega
   have sl := eJ (L := L) (a := AH L K) sge
   simp only [PXb, Ac hk, sg.x0, sg.x1, rg, j0 hL hk, Int.toNat_natCast]
   generalize hX : List.drop (AH L K) (List.take (AH L (K + 1)) L) = X at *
   have z0 : prA (⟨r0, r1, r2, r3, r4, r5, r6, r7, r8, r9, r10, r11, r12, r13⟩ : Rul) L K (AH L K) = J0 := bA (by rw [sg.o0]; exact Nat.le_refl _)
   have e1 : AH L K + (AH L (K + 1) - AH L K) = AH L (K + 1) := by omega
   refine AY (gw hN il rk hk ?_ ?_) rfl
   ·intro c self
    simp only [PXb, PXc, PXn, AG, sl, BK]
   ·intro i self hi c
    have hev : evR X i = evR L (AH L K + i) := by rw [← hX]; exact gA L i hi
    have kx : pvI (AE X i 0) = (evR L (AH L K + i)).kind := congrArg Ev.kind hev
    have bx : (⟨pvI (AE X i 7), pvI (AE X i 8), pvI (AE X i 9), pvI (AE X i 10), pvI (AE X i 11), pvB (AE X i 12), pvI (AE X i 13), pvI (AE X i 14), pvI (AE X i 15), pvI (AE X i 16), pvB (AE X i 17), pvI (AE X i 18)⟩ : Del) = (evR L (AH L K + i)).ball := congrArg Ev.ball hev
    simp only [PXb, PXc, PXn, AG, PXc, sl, Km (show i ≤ 1099511627776 by omega), A1 hi, Ac hi, Nat.reduceAdd, kx, El, Fv, bx, Cre.ls]
    unfold Ah
    cases h4 : (evR L (AH L K + i)).kind == 4 <;> rfl
end Go.Px
end
section
namespace Go.Px
set_option maxRecDepth 100000
theorem ge {N : Nat} {L : Rows}  : Nc N [.rows L] = some [.rows (cut L 60)] := by
 show Na (std (Ja N) N) (xOf _) = _
 simp only [Na, std, xOf, PXb, PXc, PXn, PXm, Nat.reduceAdd, Int.reduceBEq, mL (show (0 : Int) ≤ 60 by omega)]
 rfl
theorem Ti {N : Nat} {L : Rows} (hN : 2097152 < N) (h : L.length ≤ 1048576) : C5 N [.rows L, .rows L] = some [.bool true] := by
 show Eb (std (Ke N) N) (xOf _) = _
 simp only [Eb, std, xOf, PXb, PXm]
 refine AY (Ck (len := L.length) (fun i => [.int (i : Int)]) [.int 1] ?_ ?_ N (by omega)) ?_
 ·intro self
  simp only [PXb, PXc, PXn, AG, BK]
 ·intro i self hi
  simp only [PXb, PXc, PXn, PXm, Nat.reduceAdd, Int.reduceBEq, Ar (show i ≤ 1099511627776 by omega), A1 hi, Ac hi]
  rfl
 ·simp only [PXb, PXc, PXn, PXm, Nat.reduceAdd, Int.reduceBEq]
def K4 (k s p o : Int) (y : Bool) (t f n b h v : Int) : List PV := [.int k, .int s, .int p, .int o, .bool y, .int 0, .int 0, .int t, .int f, .int n, .int 0, .int b, .bool false, .int h, .int v, .int 0, .int 0, .bool false, .int 0]
def Fw : Rows := [K4 1 1 0 0 true 0 0 0 0 0 0, K4 2 0 1 2 false 0 0 0 0 0 0, K4 8 0 2 0 false 0 0 0 0 0 0, K4 3 0 1 0 false 0 0 0 0 0 0, K4 4 0 0 0 false 1 1 1 0 0 0, K4 4 0 0 0 false 1 0 0 0 1 1, K4 2 0 2 1 false 0 0 0 0 0 0, K4 8 0 1 0 false 0 0 0 0 0 0, K4 3 0 2 0 false 0 0 0 0 0 0, K4 4 0 0 0 false 2 0 0 0 0 0, K4 4 0 0 0 false 1 1 0 4 0 0]
def Lg : Rul := ⟨⟨#[84, 69, 83, 84]⟩, 2, 1, 1, 4, 0, 1, 1, false, 0, 0, 0, 11, []⟩
theorem jd : NV 4194304 [] = some [.rows Fw] := by kernel_rfl
theorem kP : JQ 4194304 [] = some Lg.ls := by kernel_rfl
theorem ke : CY Lg Fw = 0 := by kernel_rfl
theorem mC : Sk Lg Fw (sdT Fw) = [⟨1, 1, 1, 2, 0, 0, 0, 0, 0, 0⟩, ⟨2, 5, 0, 1, 1, 0, 0, 0, 0, 0⟩] := by kernel_rfl
theorem mM : Wj Lg Fw 1 = (⟨4, 1, 0, 0, 0, 5, false, false, false, false⟩, 0) := by kernel_rfl
theorem lu : Ep (Bg Fw Fw.length) = [[.int 1, .int 6], [.int 6, .int 11]] := by kernel_rfl
theorem U2 {x : Option (List PV)} {v : List PV} {f : List PV → Option (List PV)} {r : Option (List PV)} (h : x = some v) (hk : f v = r) : x.bind f = r := by rw [h]; exact hk
set_option maxHeartbeats 2000000 in
theorem dP : Jj 4194304 [] = some [.bool true] := by
 have hs : Lg.name.size ≤ 1048576 := by decide
 have hl : Fw.length ≤ 1048576 := by decide
 have hN : 2097152 < 4194304 := by omega
 have k1 : Ca 4194304 (Lg.ls ++ [.rows Fw]) = some [.rows (cond (!(CY Lg Fw == 0)) [] (Ai (Sk Lg Fw (sdT Fw)))), .int (CY Lg Fw)] := Rd hN hs (Nat.zero_le _) hl aB
 have k2 : CH 4194304 (Lg.ls ++ [.rows Fw, .int 1]) = some (W3 (Wj Lg Fw 1)) := QW hN hs (Nat.zero_le _) hl
 have k3 := Iz (L := Fw) hN hl
 rw [ke, mC] at k1
 rw [mM] at k2
 rw [lu] at k3
 show NA (std (CT 4194304) 4194304) (xOf []) = _
 simp only [NA, L4, Pi, PE, Lk, Oa, RW, Tg, std, xOf, PXb, jd, kP]
 refine U2 k1 ?_
 simp only [PXb, PXc, PXn, PXm, Nat.reduceAdd, Int.reduceBEq]
 refine U2 k2 ?_
 simp only [W3, PXb, PXc, PXn, PXm, Nat.reduceAdd, Int.reduceBEq, Int.reduceBEq]
 refine U2 (SJ (L := Ai [⟨1, 1, 1, 2, 0, 0, 0, 0, 0, 0⟩, ⟨2, 5, 0, 1, 1, 0, 0, 0, 0, 0⟩]) hN (by decide)) ?_
 simp only [PXb, PXc, PXn, PXm, Nat.reduceAdd, Int.reduceBEq, jd, k3]
 refine U2 (Ti (L := [[.int 1, .int 6], [.int 6, .int 11]]) hN (by decide)) ?_
 rfl
theorem mG (L : Rows) : (cut L 60).length ≤ 1048576 := Nat.le_trans (lU L 60) (show 60 ≤ 1048576 by omega)
theorem lr {r : Rul} (rk : RulOk r) (L : Rows) (k : Nat) {p : Nat} (hp : p ≤ 4000) : (0 ≤ (prA r L k p).batter ∧ (prA r L k p).batter ≤ 100000) ∧ (0 ≤ (prA r L k p).wides ∧ (prA r L k p).wides ≤ 100000) ∧ (0 ≤ (prA r L k p).noballs ∧ (prA r L k p).noballs ≤ 100000) ∧ (0 ≤ (prA r L k p).byes ∧ (prA r L k p).byes ≤ 100000) ∧ (0 ≤ (prA r L k p).legbyes ∧ (prA r L k p).legbyes ≤ 100000) := by
 have b0 := D3 (L := L) (f := fun e => (Ah r e).batter) (fun e => (B9 rk e).ba) k p
 have b1 := D3 (L := L) (f := fun e => (Ah r e).wides) (fun e => (B9 rk e).wi) k p
 have b2 := D3 (L := L) (f := fun e => (Ah r e).noballs) (fun e => (B9 rk e).no) k p
 have b3 := D3 (L := L) (f := fun e => (Ah r e).byes) (fun e => (B9 rk e).bb) k p
 have b4 := D3 (L := L) (f := fun e => (Ah r e).legbyes) (fun e => (B9 rk e).lb) k p
 unfold prA
 simp only
 omega
theorem dh {r : Rul} (rk : RulOk r) (L : Rows) (k : Nat) : ∀ p, smi L (SZ r) k p = (prA r L k p).batter + (prA r L k p).wides + (prA r L k p).noballs + (prA r L k p).byes + (prA r L k p).legbyes ∧ (prA r L k p).bowler = (prA r L k p).batter + (prA r L k p).wides + (prA r L k p).noballs
 | 0 => ⟨rfl, rfl⟩
 | p + 1 => by
  obtain ⟨h1, h2⟩ := dh rk L k p
  have c := B9 rk (evR L p)
  have c1 := c.tot
  have c2 := c.bo
  unfold prA at h1 h2 ⊢
  simp only [MO] at h1 h2 ⊢
  unfold SZ
  unfold SZ at h1
  cases Nat.beq (opn L (p + 1)) (k + 1) <;> simp only [cond_true, cond_false] <;> omega
theorem mP {b w o y l p : Int} (h0 : 0 ≤ b ∧ b ≤ 100000) (h1 : 0 ≤ w ∧ w ≤ 100000) (h2 : 0 ≤ o ∧ o ≤ 100000) (h3 : 0 ≤ y ∧ y ≤ 100000) (h4 : 0 ≤ l ∧ l ≤ 100000) (h5 : 0 ≤ p ∧ p ≤ 1000000) :
    IntKind.i64.wrap (IntKind.i64.wrap (IntKind.i64.wrap (IntKind.i64.wrap (IntKind.i64.wrap (b + w) + o) + y) + l) + p) = b + w + o + y + l + p ∧ IntKind.i64.wrap (IntKind.i64.wrap (IntKind.i64.wrap (b + w + o + y) + l) + p) = b + w + o + y + l + p := by
  rw [Az (n := b + w) (by omega) (by omega), Az (n := b + w + o) (by omega) (by omega), Az (n := b + w + o + y) (by omega) (by omega), Az (n := b + w + o + y + l) (by omega) (by omega), Az (n := b + w + o + y + l + p) (by omega) (by omega)]
  exact ⟨rfl, rfl⟩
theorem kq {r : Rul} {L : Rows} {k : Nat} (hc : CY r L = 0) (hk : k < opn L L.length) : Wj r L (k : Int) = (prA r L k L.length, 0) := by
 unfold Wj
 have e : (iLt (k : Int) 0 || iLe (opn L L.length : Int) (k : Int)) = false := by
  simp only [Bool.or_eq_false_iff, iLt, iLe, decide_eq_false_iff_not]
  omega
 rw [hc, e]
 rfl
set_option maxHeartbeats 4000000 in
theorem VI {N : Nat} {r1 r2 r3 r4 r5 r6 r7 r9 r10 r11 r12 : Int} {r8 : Bool} {r0 : ByteArray} {r13 : Rows} {L : Rows} (ha : Jj N [] = some [.bool true]) (hN : 2097152 < N) (hs : r0.size ≤ 1048576) (h13 : r13.length ≤ 1048576) : Dn N [.str r0, .int r1, .int r2, .int r3, .int r4, .int r5, .int r6, .int r7, .bool r8, .int r9, .int r10, .int r11, .int r12, .rows r13, .rows L] = some [.bool true] := by
 show Dr (std (BL N) N) (xOf _) = _
 have l := mG L
 simp only [Dr, NM, Oq, K7, Eo, std, xOf, PXb, PXc, PXn, PXm, Nat.reduceAdd, Int.reduceBEq, ha, ge, Rd hN hs h13 l aB, PXc]
 generalize cut L 60 = X at *
 cases hc : CY (⟨r0, r1, r2, r3, r4, r5, r6, r7, r8, r9, r10, r11, r12, r13⟩ : Rul) X == 0 with
 | false => rfl
 | true =>
  have c0 := beq_iff_eq.1 hc
  obtain ⟨il, rk⟩ := aB c0
  simp only [PXb, PXc, PXn, PXm, Nat.reduceAdd, Int.reduceBEq, Int.reduceBEq, PXs, kD]
  have ol := RT X X.length
  refine AY (Ck (len := opn X X.length) (fun i => [.int (i : Int)]) [.int 1] ?_ ?_ N (by omega)) ?_
  ·intro self
   simp only [PXb, PXc, PXn, AG, BK]
  ·intro i self hi
   obtain ⟨s1, s2⟩ := dh rk X i X.length
   have pb := lr rk X i il.len
   have sm := (dg rk X (sdT X) (opn X X.length) i il.len).pens
   have a5 := mP pb.1 pb.2.1 pb.2.2.1 pb.2.2.2.1 pb.2.2.2.2 sm
   have e1 : (BB (⟨r0, r1, r2, r3, r4, r5, r6, r7, r8, r9, r10, r11, r12, r13⟩ : Rul) X (sdT X) (opn X X.length) i X.length).runs = (prA (⟨r0, r1, r2, r3, r4, r5, r6, r7, r8, r9, r10, r11, r12, r13⟩ : Rul) X i X.length).batter + (prA (⟨r0, r1, r2, r3, r4, r5, r6, r7, r8, r9, r10, r11, r12, r13⟩ : Rul) X i X.length).wides + (prA (⟨r0, r1, r2, r3, r4, r5, r6, r7, r8, r9, r10, r11, r12, r13⟩ : Rul) X i X.length).noballs + (prA (⟨r0, r1, r2, r3, r4, r5, r6, r7, r8, r9, r10, r11, r12, r13⟩ : Rul) X i X.length).byes + (prA (⟨r0, r1, r2, r3, r4, r5, r6, r7, r8, r9, r10, r11, r12, r13⟩ : Rul) X i X.length).legbyes + (BB (⟨r0, r1, r2, r3, r4, r5, r6, r7, r8, r9, r10, r11, r12, r13⟩ : Rul) X (sdT X) (opn X X.length) i X.length).pens := by rw [← s1]; rfl
   have e2 : (BB (⟨r0, r1, r2, r3, r4, r5, r6, r7, r8, r9, r10, r11, r12, r13⟩ : Rul) X (sdT X) (opn X X.length) i X.length).wides = (prA (⟨r0, r1, r2, r3, r4, r5, r6, r7, r8, r9, r10, r11, r12, r13⟩ : Rul) X i X.length).wides := rfl
   simp only [PXb, PXc, PXn, PXm, Nat.reduceAdd, Int.reduceBEq, PXs, Ar (show i ≤ 1099511627776 by omega), A1 hi, Ac hi, Eo, QW hN hs h13 l, kq c0 hi, W3, lL hi, Int.reduceBEq]
   rw [s2, e1, e2, a5.1, a5.2]
   simp only [PXb, PXc, PXn, PXm, Nat.reduceAdd, Int.reduceBEq]
   rfl
  ·simp only [PXb, PXc, PXn, PXm, Nat.reduceAdd, Int.reduceBEq]
end Go.Px
end
