/- Part 13. -/
import Derived.Test.YtmpgkalgfmnpjaaGreatPart12
import Derived.KernelRfl
set_option linter.unusedVariables false
set_option linter.unusedSimpArgs false
section
namespace Go.Px
set_option maxRecDepth 100000
theorem Rm {xs ys : List Sco} (hl : xs.length = ys.length) (h : ∀ j, j < xs.length → sco xs j = sco ys j) : xs = ys := by
 apply List.ext_getElem?
 intro i
 by_cases hi : i < xs.length
 ·have := h i hi
  rw [HL, HL, List.getElem?_eq_getElem hi, List.getElem?_eq_getElem (by omega)] at this
  rw [List.getElem?_eq_getElem hi, List.getElem?_eq_getElem (by omega)]
  exact congrArg some this
 ·rw [List.getElem?_eq_none (by omega), List.getElem?_eq_none (by omega)]
def DV (r : Rul) (L : Rows) (sd : Nat → Int) (n q i : Nat) : List Sco := (List.range n).map fun j => { BQ r L sd n j i with side := cond (Nat.blt j q) (sd j) 0 }
theorem CZ (r : Rul) (L : Rows) (sd : Nat → Int) (n q i : Nat) : (DV r L sd n q i).length = n := by unfold DV; rw [List.length_map, List.length_range]
theorem GA (r : Rul) (L : Rows) (sd : Nat → Int) {n q i j : Nat} (h : j < n) : sco (DV r L sd n q i) j = { BQ r L sd n j i with side := cond (Nat.blt j q) (sd j) 0 } := by
 rw [HL]
 unfold DV
 rw [List.getElem?_map, List.getElem?_range h]
 rfl
theorem VT {a b : Nat} (h : a < b) : Nat.blt a b = true := Nat.ble_eq_true_of_le h
theorem cp {a b : Nat} (h : ¬ a < b) : Nat.blt a b = false := by
 cases hq : Nat.blt a b with
 | false => rfl
 | true => exact absurd (Nat.le_of_ble_eq_true hq) h
theorem S9 {xs : List Sco} {k : Nat} (h : k < xs.length) (s : Sco) : sco (xs.set k s) k = s := by rw [ZB _ _ _ _ h, if_pos rfl]
theorem jw {r : Rul} {L : Rows} {sd : Nat → Int} {n k i : Nat} (h : k < n) : (DV r L sd n k i).set k { sco (DV r L sd n k i) k with side := sd k } = DV r L sd n (k + 1) i := by
 refine Rm (by rw [List.length_set, CZ, CZ]) (fun j hj => ?_)
 rw [List.length_set, CZ] at hj
 rw [ZB _ _ _ _ (by rw [CZ]; exact hj), GA _ _ _ h, GA _ _ _ hj, GA _ _ _ hj]
 by_cases e : k = j
 ·subst e
  rw [if_pos rfl, VT (Nat.lt_succ_self k)]
  rfl
 ·rw [if_neg e]
  have : Nat.blt j k = Nat.blt j (k + 1) := by
   by_cases hl : j < k
   ·rw [VT hl, VT (by omega)]
   ·rw [cp hl, cp (by omega)]
  rw [this]
theorem lE (r : Rul) (L : Rows) (sd : Nat → Int) (n i : Nat) : DV r L sd n n i = (List.range n).map fun j => BQ r L sd n j i := by
 refine Rm (by rw [CZ, List.length_map, List.length_range]) (fun j hj => ?_)
 rw [CZ] at hj
 rw [GA _ _ _ hj, HL, List.getElem?_map, List.getElem?_range hj, VT hj]
 rfl
theorem jl {r : Rul} {L : Rows} {sd : Nat → Int} {n i : Nat} (ho : opn L i = 0) (h13 : ∀ j, j < i → ((evR L j).kind == 13) = true → 1 ≤ opn L (j + 1)) : List.replicate n dS = DV r L sd n 0 i := by
 have pz : ∀ j, pnS L sd n j i = 0 := fun j => by
  have : ∀ m, m ≤ i → pnS L sd n j m = 0 := by
   intro m
   induction m with
   | zero => intro _; rfl
   | succ m ih =>
    intro hm
    rw [Yt, ih (by omega)]
    cases k13 : (evR L m).kind == 13 with
    | false => rfl
    | true =>
     have h1 := h13 m (by omega) k13
     have h2 := Ii L (show m + 1 ≤ i by omega)
     omega
  exact this i (Nat.le_refl i)
 refine Rm (by rw [CZ, List.length_replicate]) (fun j hj => ?_)
 rw [List.length_replicate] at hj
 rw [GA _ _ _ hj, HL, List.getElem?_replicate, if_pos hj, cp (by omega)]
 unfold BQ
 have z : ∀ f : Ev → Int, smi L f j i = 0 := fun f => W4 i (by omega)
 simp only [pz, z]
 rfl
theorem VD {r : Rul} {L : Rows} {sd : Nat → Int} {n k q i : Nat} {y : Sco} (hk : k < n) (hy : y = { BQ r L sd n k (i + 1) with side := cond (Nat.blt k q) (sd k) 0 }) (ho : ∀ j, j < n → ¬ k = j → BQ r L sd n j (i + 1) = BQ r L sd n j i) :
    (DV r L sd n q i).set k y = DV r L sd n q (i + 1) := by
  refine Rm (by rw [List.length_set, CZ, CZ]) (fun j hj => ?_)
  rw [List.length_set, CZ] at hj
  rw [ZB _ _ _ _ (by rw [CZ]; exact hj), GA _ _ _ hj, GA _ _ _ hj]
  by_cases e : k = j
  · subst e
    rw [if_pos rfl, hy]
  · rw [if_neg e, ho j hj e]
theorem cZ {r : Rul} {L : Rows} {sd : Nat → Int} {n q i : Nat} (ho : ∀ j, j < n → BQ r L sd n j (i + 1) = BQ r L sd n j i) : DV r L sd n q i = DV r L sd n q (i + 1) := by
 refine Rm (by rw [CZ, CZ]) (fun j hj => ?_)
 rw [CZ] at hj
 rw [GA _ _ _ hj, GA _ _ _ hj, ho j hj]
def aa (r : Rul) (e : Ev) (k : Nat) (d : Option Nat) (xs : List Sco) : List Sco :=
  let x1 := cond (RZ e) (xs.set k { sco xs k with wickets := IntKind.i64.wrap ((sco xs k).wickets + 1) }) xs
  let c := AB r e.ball
  cond (e.kind == 4)
    (x1.set k { sco x1 k with runs := IntKind.i64.wrap ((sco x1 k).runs + C6 c), balls := cond c.counts (IntKind.i64.wrap ((sco x1 k).balls + 1)) (sco x1 k).balls, wides := IntKind.i64.wrap ((sco x1 k).wides + c.wides), noballs := IntKind.i64.wrap ((sco x1 k).noballs + c.noballs), byes := IntKind.i64.wrap ((sco x1 k).byes + c.byes), legbyes := IntKind.i64.wrap ((sco x1 k).legbyes + c.legbyes) })
    (cond (e.kind == 13) (match d with
      | some j => x1.set j { sco x1 j with runs := IntKind.i64.wrap ((sco x1 j).runs + 5), pens := IntKind.i64.wrap ((sco x1 j).pens + 5) }
      | none => x1) x1)
theorem ge {sd : Nat → Int} {n k j : Nat} {s : Int} (hk : k < n) (h : JQ sd n k s = some j) : j < n := by
 rcases (jG h).2 with h | h <;> omega
theorem jm {r : Rul} {L : Rows} {sd : Nat → Int} {n k i : Nat} (rk : RulOk r) (hk : k < n) (ho : opn L (i + 1) = k + 1) (hi : i < 4000) : aa r (evR L i) k (JQ sd n k (evR L i).side) (DV r L sd n (k + 1) i) = DV r L sd n (k + 1) (i + 1) := by
 have hn : ∀ j, ¬ k = j → Nat.beq (opn L (i + 1)) (j + 1) = false := fun j hj => YV (by omega)
 have hy : Nat.beq (opn L (i + 1)) (k + 1) = true := by rw [ho]; exact ZL _
 have sm := fun j => lF rk L sd n j (show i ≤ 4000 by omega)
 have cs := js r L sd n
 have hp : opn L (i + 1) - 1 = k := by omega
 have tl : k < (DV r L sd n (k + 1) i).length := by rw [CZ]; exact hk
 unfold aa
 cases h4 : (evR L i).kind == 4 with
 | true =>
  have k4 := beq_iff_eq.1 h4
  have h13 : ((evR L i).kind == 13) = false := by rw [k4]; rfl
  have ce : As r (evR L i) = AB r (evR L i).ball := by unfold As; rw [h4]; rfl
  have co := EH rk (evR L i)
  have tb := kK rk (evR L i)
  rw [← ce]
  have fin : ∀ y : Sco, y = { BQ r L sd n k (i + 1) with side := cond (Nat.blt k (k + 1)) (sd k) 0 } → (DV r L sd n (k + 1) i).set k y = DV r L sd n (k + 1) (i + 1) := fun y hyy => VD hk hyy (fun j hj hjk => by
   rw [cs, h13, Bool.false_and, cond_false, Cv, hn j hjk]; rfl)
  have ex : BQ r L sd n k (i + 1) = Mx r (evR L i) (BQ r L sd n k i) := by rw [cs, h13, Bool.false_and, cond_false, Cv, hy]; rfl
  have s := sm k
  have s1 := s.runs
  have s2 := s.wk
  have s3 := s.balls
  have s4 := s.wides
  have s5 := s.no
  have s6 := s.bb
  have s7 := s.lb
  have c1 := co.wi
  have c2 := co.no
  have c3 := co.bb
  have c4 := co.lb
  unfold ZO at tb
  have w1 : IntKind.i64.wrap ((BQ r L sd n k i).runs + C6 (As r (evR L i))) = (BQ r L sd n k i).runs + C6 (As r (evR L i)) := BC (by omega) (by omega)
  have w2 : IntKind.i64.wrap ((BQ r L sd n k i).wickets + 1) = (BQ r L sd n k i).wickets + 1 := BC (by omega) (by omega)
  have w3 : IntKind.i64.wrap ((BQ r L sd n k i).balls + 1) = (BQ r L sd n k i).balls + 1 := BC (by omega) (by omega)
  have w4 : IntKind.i64.wrap ((BQ r L sd n k i).wides + (As r (evR L i)).wides) = (BQ r L sd n k i).wides + (As r (evR L i)).wides := BC (by omega) (by omega)
  have w5 : IntKind.i64.wrap ((BQ r L sd n k i).noballs + (As r (evR L i)).noballs) = (BQ r L sd n k i).noballs + (As r (evR L i)).noballs := BC (by omega) (by omega)
  have w6 : IntKind.i64.wrap ((BQ r L sd n k i).byes + (As r (evR L i)).byes) = (BQ r L sd n k i).byes + (As r (evR L i)).byes := BC (by omega) (by omega)
  have w7 : IntKind.i64.wrap ((BQ r L sd n k i).legbyes + (As r (evR L i)).legbyes) = (BQ r L sd n k i).legbyes + (As r (evR L i)).legbyes := BC (by omega) (by omega)
  have od := gz (evR L i)
  cases hb : RZ (evR L i) with
  | false =>
   simp only [cond_false, cond_true, GA _ _ _ hk, w1, w3, w4, w5, w6, w7]
   refine fin _ ?_
   rw [ex]
   unfold Mx
   rw [od, hb]
   cases (As r (evR L i)).counts <;> simp only [cond_false, cond_true, Int.add_zero]
  | true =>
   simp only [cond_true, S9 tl, List.set_set, GA _ _ _ hk, w1, w2, w3, w4, w5, w6, w7]
   refine fin _ ?_
   rw [ex]
   unfold Mx
   rw [od, hb]
   cases (As r (evR L i)).counts <;> simp only [cond_false, cond_true, Int.add_zero]
 | false =>
  have s := sm k
  have s2 := s.wk
  have w2 : IntKind.i64.wrap ((BQ r L sd n k i).wickets + 1) = (BQ r L sd n k i).wickets + 1 := BC (by omega) (by omega)
  have od := gz (evR L i)
  cases h13 : (evR L i).kind == 13 with
  | true =>
   have k13 := beq_iff_eq.1 h13
   have ob : RZ (evR L i) = false := by unfold RZ; rw [k13]; rfl
   have oe : DF (evR L i) = 0 := by unfold DF; rw [k13]; rfl
   have ex : ∀ j, BQ r L sd n j (i + 1) = KW (cond (isS (JQ sd n k (evR L i).side) j) 5 0) (BQ r L sd n j i) := fun j => by
    rw [cs, h13, Bool.true_and, hp, Ql _ h4 oe]
    cases Nat.beq (opn L (i + 1)) (j + 1) <;> rfl
   simp only [ob, cond_false, cond_true]
   cases hd : JQ sd n k (evR L i).side with
   | none =>
    refine cZ (fun j hj => ?_)
    rw [ex, hd]
    exact Cv _
   | some d =>
    have dl := ge hk hd
    have q := sm d
    have q1 := q.runs
    have q2 := q.pens
    have v1 : IntKind.i64.wrap ((BQ r L sd n d i).runs + 5) = (BQ r L sd n d i).runs + 5 := BC (by omega) (by omega)
    have v2 : IntKind.i64.wrap ((BQ r L sd n d i).pens + 5) = (BQ r L sd n d i).pens + 5 := BC (by omega) (by omega)
    simp only [GA _ _ _ dl, v1, v2]
    refine VD dl ?_ (fun j hj hjd => ?_)
    ·rw [ex, hd, show isS (some d) d = true from ZL d]
     rfl
    ·rw [ex, hd, show isS (some d) j = false from YV hjd]
     exact Cv _
  | false =>
   have ex : ∀ j, BQ r L sd n j (i + 1) = cond (Nat.beq (opn L (i + 1)) (j + 1)) (Mx r (evR L i) (BQ r L sd n j i)) (BQ r L sd n j i) := fun j => by
    rw [cs, h13, Bool.false_and, cond_false, Cv]
   have oe : MX (evR L i) = DF (evR L i) := by unfold MX; rw [h4]; rfl
   rw [oe] at od
   cases hb : RZ (evR L i) with
   | false =>
    rw [hb] at od
    simp only [cond_false]
    refine cZ (fun j hj => ?_)
    rw [ex, Ql _ h4 od]
    cases Nat.beq (opn L (i + 1)) (j + 1) <;> rfl
   | true =>
    rw [hb] at od
    simp only [cond_false, cond_true, GA _ _ _ hk, w2]
    refine VD hk ?_ (fun j hj hjk => ?_)
    ·rw [ex, hy, cond_true, Wo _ h4, od]
     rfl
    ·rw [ex, hn j hjk]; rfl
def sdT (L : Rows) : Nat → Int := PF (Kh L) (DT L L.length)
def bN (r : Rul) (L : Rows) (sd : Nat → Int) : List Sco := (List.range (opn L L.length)).map fun j => BQ r L sd (opn L L.length) j L.length
structure InLog (L : Rows) : Prop where
 len : L.length ≤ 4000
 pen : ∀ j, j < L.length → ((evR L j).kind == 13) = true → 1 ≤ opn L (j + 1)
set_option maxHeartbeats 4000000 in
theorem gt {N : Nat} {r : Rul} {L : Rows} {k : Nat} (hN : 2097152 < N) (il : InLog L) (rk : RulOk r) (hk : k < opn L L.length) {F : (List AR → Option (List PV)) → List PV → Option (List PV)}
    (f0 : ∀ xs self, F self [.rows (Ah xs), .int ((AH L (k + 1) - AH L k : Nat) : Int)] = some [.rows (Ah xs), .int ((AH L (k + 1) - AH L k : Nat) : Int)])
    (f1 : ∀ (i : Nat) self, i < AH L (k + 1) - AH L k → ∀ xs : List Sco, xs.length = opn L L.length → F self [.rows (Ah xs), .int (i : Int)] = self [.rows (Ah (aa r (evR L (AH L k + i)) k (JQ (sdT L) (opn L L.length) k (evR L (AH L k + i)).side) xs)), .int ((i + 1 : Nat) : Int)]) :
    C8 F N [.rows (Ah (DV r L (sdT L) (opn L L.length) (k + 1) (AH L k))), .int 0] = some [.rows (Ah (DV r L (sdT L) (opn L L.length) (k + 1) (AH L (k + 1)))), .int ((AH L (k + 1) - AH L k : Nat) : Int)] := by
  have sg := seg (by have := il.len; omega) hk
  have h1 := sg.lt
  have h2 := sg.le
  have h3 := il.len
  have e : AH L k + (AH L (k + 1) - AH L k) = AH L (k + 1) := by omega
  have := C9 (F := F) (len := AH L (k + 1) - AH L k) (fun i => [.rows (Ah (DV r L (sdT L) (opn L L.length) (k + 1) (AH L k + i))), .int (i : Int)]) [.rows (Ah (DV r L (sdT L) (opn L L.length) (k + 1) (AH L (k + 1)))), .int ((AH L (k + 1) - AH L k : Nat) : Int)]
    (fun self => by
      show F self [.rows (Ah (DV r L (sdT L) (opn L L.length) (k + 1) (AH L k + (AH L (k + 1) - AH L k)))), _] = _
      rw [e]
      exact f0 _ self)
    (fun i self hi => by
      show F self [.rows (Ah (DV r L (sdT L) (opn L L.length) (k + 1) (AH L k + i))), .int (i : Int)] = _
      rw [f1 i self hi _ (CZ _ _ _ _ _ _), jm rk hk (sg.mid _ (by omega) (by omega)) (by omega)]
      rfl) N (by omega)
  exact this
theorem mI (L : Rows) (i : Nat) : (⟨pvI (AE L i 0), pvI (AE L i 1), pvI (AE L i 2), pvI (AE L i 3), pvB (AE L i 4), pvI (AE L i 5), pvI (AE L i 6), ⟨pvI (AE L i 7), pvI (AE L i 8), pvI (AE L i 9), pvI (AE L i 10), pvI (AE L i 11), pvB (AE L i 12), pvI (AE L i 13), pvI (AE L i 14), pvI (AE L i 15), pvI (AE L i 16), pvB (AE L i 17), pvI (AE L i 18)⟩⟩ : Ev) = evR L i := rfl
set_option maxHeartbeats 4000000 in
theorem ZU {N : Nat} {r1 r2 r3 r4 r5 r6 r7 r9 r10 r11 r12 : Int} {r8 : Bool} {r0 : ByteArray} {r13 : Rows} {L : Rows} (hN : 2097152 < N) (hs : r0.size ≤ 1048576) (h13 : r13.length ≤ 1048576) (hL : L.length ≤ 1048576) (il : C3 (⟨r0, r1, r2, r3, r4, r5, r6, r7, r8, r9, r10, r11, r12, r13⟩ : Rul) L = 0 → InLog L ∧ RulOk (⟨r0, r1, r2, r3, r4, r5, r6, r7, r8, r9, r10, r11, r12, r13⟩ : Rul)) : EF N [.str r0, .int r1, .int r2, .int r3, .int r4, .int r5, .int r6, .int r7, .bool r8, .int r9, .int r10, .int r11, .int r12, .rows r13, .rows L] = some [.rows (cond (!(C3 (⟨r0, r1, r2, r3, r4, r5, r6, r7, r8, r9, r10, r11, r12, r13⟩ : Rul) L == 0)) [] (Ah (bN (⟨r0, r1, r2, r3, r4, r5, r6, r7, r8, r9, r10, r11, r12, r13⟩ : Rul) L (sdT L)))), .int (C3 (⟨r0, r1, r2, r3, r4, r5, r6, r7, r8, r9, r10, r11, r12, r13⟩ : Rul) L)] := by
  show Ir (std (Bl N) N) (xOf _) = _
  generalize hres : (some [.rows (cond (!(C3 (⟨r0, r1, r2, r3, r4, r5, r6, r7, r8, r9, r10, r11, r12, r13⟩ : Rul) L == 0)) [] (Ah (bN (⟨r0, r1, r2, r3, r4, r5, r6, r7, r8, r9, r10, r11, r12, r13⟩ : Rul) L (sdT L)))), .int (C3 (⟨r0, r1, r2, r3, r4, r5, r6, r7, r8, r9, r10, r11, r12, r13⟩ : Rul) L)] : Option (List PV)) = RR
  simp only [Ir, Nk, OC, QD, Il, Fe, Fo, P9, std, xOf, PXb, WV hN hs h13 hL]
  subst hres
  cases hc : C3 (⟨r0, r1, r2, r3, r4, r5, r6, r7, r8, r9, r10, r11, r12, r13⟩ : Rul) L == 0 with
  | false => rfl
  | true =>
    have c0 := beq_iff_eq.1 hc
    obtain ⟨il, rk⟩ := il c0
    have ol := Po L L.length
    have l4 := il.len
    have s80 : iSm ((opn L L.length : Nat) : Int) 80 = true := Eh (by omega) (by omega)
    rw [c0]
    simp only [PXb, Bool.not_true, Tj hN hL, IM, Nm, s80, F5 hN hL, kl]
    have st : List.replicate (opn L L.length) dS = DV (⟨r0, r1, r2, r3, r4, r5, r6, r7, r8, r9, r10, r11, r12, r13⟩ : Rul) L (sdT L) (opn L L.length) 0 (AH L 0) := by
      refine jl ?_ (fun j hj => il.pen j ?_)
      · by_cases h0 : 0 < opn L L.length
        · exact (seg hL h0).o0
        · unfold AH; rw [if_neg h0]; omega
      · have : AH L 0 ≤ L.length := by
          by_cases h0 : 0 < opn L L.length
          · have := (seg hL h0).lt; have := (seg hL h0).le; omega
          · unfold AH; rw [if_neg h0]; exact Nat.le_refl _
        omega
    rw [st]
    refine AP (C9 (len := opn L L.length) (fun k => [.rows (Ah (DV (⟨r0, r1, r2, r3, r4, r5, r6, r7, r8, r9, r10, r11, r12, r13⟩ : Rul) L (sdT L) (opn L L.length) k (AH L k))), .int (k : Int)]) [.rows (Ah (bN (⟨r0, r1, r2, r3, r4, r5, r6, r7, r8, r9, r10, r11, r12, r13⟩ : Rul) L (sdT L)))] ?_ ?_ N (by omega)) ?_
    · intro self
      simp only [PXb, PXc, PXn, AF, PXp, I5, A4, kq, lE]
      rfl
    · intro k self hk
      have sg := seg hL hk
      have sgl := sg.lt
      have sge := sg.le
      have rg : iRg (AH L k : Int) (AH L (k + 1) : Int) (L.length : Int) = true := by simp only [iRg, decide_eq_true_eq]; omega
      have zk : atI (Eu (zs (sdT L) (opn L L.length))) k 0 = sdT L k := fi _ hk
      have sl := fC (L := L) (a := AH L k) sge
      have zk' : pvI (AE (Eu (zs (PF (Kh L) (DT L L.length)) (opn L L.length))) k 0) = sdT L k := zk
      simp only [PXb, PXc, PXn, AF, PXp, PXs, I5, FD (show k ≤ 1099511627776 by omega), Az hk, AX hk, CZ, IM, Nm, sg.x0, sg.x1, rg, zk', PXt, jw hk]
      generalize hX : List.drop (AH L k) (List.take (AH L (k + 1)) L) = X at *
      refine AP (gt hN il rk hk ?_ ?_) ?_
      · intro xs self
        simp only [PXb, PXc, PXn, AF, sl, A4]
      · intro i self hi xs hx
        have hev : evR X i = evR L (AH L k + i) := by rw [← hX]; exact ia L i hi
        simp only [PXb, PXc, PXn, AF, PXc, sl, FD (show i ≤ 1099511627776 by omega), Az hi, AX hi, Nat.reduceAdd, Il, dk, mI, hev]
        have hk' : k < xs.length := by rw [hx]; exact hk
        generalize hd : JQ (sdT L) (opn L L.length) k (evR L (AH L k + i)).side = d
        have kx : pvI (AE X i 0) = (evR L (AH L k + i)).kind := congrArg Ev.kind hev
        have sx : pvI (AE X i 1) = (evR L (AH L k + i)).side := congrArg Ev.side hev
        have LD : Hc N [.rows (Eu (zs (PF (Kh L) (DT L L.length)) (opn L L.length))), .int (k : Int), .int (evR L (AH L k + i)).side] = some [.int (fO d)] := by rw [← hd]; exact eD hN (by omega) hk
        have bx : (⟨pvI (AE X i 7), pvI (AE X i 8), pvI (AE X i 9), pvI (AE X i 10), pvI (AE X i 11), pvB (AE X i 12), pvI (AE X i 13), pvI (AE X i 14), pvI (AE X i 15), pvI (AE X i 16), pvB (AE X i 17), pvI (AE X i 18)⟩ : Del) = (evR L (AH L k + i)).ball := congrArg Ev.ball hev
        rw [kx]
        unfold aa
        cases ho : RZ (evR L (AH L k + i)) <;> cases h4 : (evR L (AH L k + i)).kind == 4 <;> cases h13 : (evR L (AH L k + i)).kind == 13
        all_goals simp only [PXb, PXc, PXn, AF, PXc, PXs, PXt, Nat.reduceAdd, Fe, F1, bx, sx, LD, Fo, QG, List.length_set, AX hk', hk', S9 hk', List.set_set, Cre.ls, ho, h4, h13]
        all_goals first
          | (cases (AB (⟨r0, r1, r2, r3, r4, r5, r6, r7, r8, r9, r10, r11, r12, r13⟩ : Rul) (evR L (AH L k + i)).ball).counts <;> rfl)
          | (cases d with
             | none => rfl
             | some j =>
               have dl : j < xs.length := by rw [hx]; exact ge hk hd
               have dl2 : ∀ y s, sco ((xs.set k y).set j s) j = s := fun y s => S9 (by rw [List.length_set]; exact dl) s
               simp only [fO, PXb, im, AX dl, List.length_set, S9 dl, List.set_set, dl2])
      · simp only [PXb, PXc, PXn, AF, PXc, PXb, PXc, PXn, PXm, Nat.reduceAdd, Int.reduceBEq]
    · simp only [PXb, PXc, PXn, PXm, Nat.reduceAdd, Int.reduceBEq]
end Go.Px
end
section
namespace Go.Px
set_option maxRecDepth 100000
theorem gj {r : Rul} {L : Rows} (h : C3 r L = 0) : ((Cl r).2 == 0) = true ∧ BD r = 0 ∧ L.length ≤ 4000 ∧ acc L L.length 0 (Cl r).1 ∧ HX r L = (stM L L.length 0 (Cl r).1, -1, 0) := by
 unfold C3 at h
 cases hc : BD r == 0 with
 | false => rw [hc] at h; rw [show BD r = 0 from h] at hc; cases hc
 | true =>
  cases hl : iLt 4000 (L.length : Int) with
  | true => rw [hc, hl] at h; cases h
  | false =>
   cases hr : (HX r L).2.2 == 0 with
   | false => rw [hc, hl, hr] at h; cases h
   | true =>
    have hn := (jz r).trans hc
    have hrep : HX r L = G3 L L.length 0 (Cl r).1 := by unfold HX; rw [hn]; rfl
    obtain ⟨k, h1, h2, h3, h4⟩ := bL L L.length 0 (Cl r).1
    have l4 : L.length ≤ 4000 := by simp only [iLt, decide_eq_false_iff_not] at hl; omega
    rcases h4 with ⟨h5, h6⟩ | ⟨h5, h6, h7⟩
    ·subst h5
     exact ⟨hn, beq_iff_eq.1 hc, l4, h2, hrep.trans h6⟩
    ·rw [hrep, h7] at hr
     rw [h6] at hr
     cases hr
theorem kF {r : Rul} {L : Rows} (h : C3 r L = 0) : InLog L ∧ RulOk r := by
 obtain ⟨h1, h2, h3, h4, h5⟩ := gj h
 obtain ⟨_, _, h6⟩ := ef h1 h4 L.length (Nat.le_refl _)
 refine ⟨⟨h3, fun j hj k13 => ?_⟩, Ez h2⟩
 have e := beq_iff_eq.1 k13
 have := (h6 j hj).2.play (by rw [e]; rfl) (by rw [e]; rfl) (by rw [e]; rfl) (by rw [e]; rfl)
 exact Nat.le_trans this (XQ L j)
theorem S6 {N : Nat} {L : Rows} (hN : 2097152 < N) (h : L.length ≤ 1048576) : Ch N [.rows L, .rows L] = some [.bool true] := by
 show D6 (std (Ji N) N) (xOf _) = _
 simp only [D6, std, xOf, PXb, PXm]
 refine AP (C9 (len := L.length) (fun i => [.int (i : Int)]) [.int 1] ?_ ?_ N (by omega)) ?_
 ·intro self
  simp only [PXb, PXc, PXn, AF, A4]
 ·intro i self hi
  simp only [PXb, PXc, PXn, PXm, Nat.reduceAdd, Int.reduceBEq, Ap (show i ≤ 1099511627776 by omega), Az hi, AX hi]
  rfl
 ·simp only [PXb, PXc, PXn, PXm, Nat.reduceAdd, Int.reduceBEq]
def prA (r : Rul) (L : Rows) (k p : Nat) : Cre := ⟨smi L (fun e => (As r e).batter) k p, smi L (fun e => (As r e).wides) k p, smi L (fun e => (As r e).noballs) k p, smi L (fun e => (As r e).byes) k p, smi L (fun e => (As r e).legbyes) k p, smi L (fun e => (As r e).bowler) k p, false, false, false, false⟩
theorem bU {r : Rul} {L : Rows} {k p : Nat} (h : opn L p ≤ k) : prA r L k p = KG := by
 unfold prA
 have z : ∀ f : Ev → Int, smi L f k p = 0 := fun f => W4 p h
 simp only [z]
 rfl
theorem j5 {r : Rul} (h : RulOk r) (e : Ev) : 0 ≤ (As r e).bowler ∧ (As r e).bowler ≤ 36 := by
 have c := EH h e
 have h0 := c.ba
 have h1 := c.wi
 have h2 := c.no
 have h3 := c.bo
 omega
def fV (a c : Cre) : Cre := ⟨IntKind.i64.wrap (a.batter + c.batter), IntKind.i64.wrap (a.wides + c.wides), IntKind.i64.wrap (a.noballs + c.noballs), IntKind.i64.wrap (a.byes + c.byes), IntKind.i64.wrap (a.legbyes + c.legbyes), IntKind.i64.wrap (a.bowler + c.bowler), false, false, false, false⟩
theorem jo {r : Rul} {L : Rows} {k p : Nat} (rk : RulOk r) (ho : opn L (p + 1) = k + 1) (hp : p < 4000) : prA r L k (p + 1) = fV (prA r L k p) (As r (evR L p)) := by
 have hy : Nat.beq (opn L (p + 1)) (k + 1) = true := by rw [ho]; exact ZL _
 have c := EH rk (evR L p)
 have h0 := c.ba
 have h1 := c.wi
 have h2 := c.no
 have h3 := c.bb
 have h4 := c.lb
 have h5 := j5 rk (evR L p)
 have b0 := H3 (L := L) (f := fun e => (As r e).batter) (fun e => (EH rk e).ba) k p
 have b1 := H3 (L := L) (f := fun e => (As r e).wides) (fun e => (EH rk e).wi) k p
 have b2 := H3 (L := L) (f := fun e => (As r e).noballs) (fun e => (EH rk e).no) k p
 have b3 := H3 (L := L) (f := fun e => (As r e).byes) (fun e => (EH rk e).bb) k p
 have b4 := H3 (L := L) (f := fun e => (As r e).legbyes) (fun e => (EH rk e).lb) k p
 have b5 := H3 (L := L) (f := fun e => (As r e).bowler) (j5 rk) k p
 unfold prA fV
 simp only [QL, hy, cond_true]
 rw [BC (n := smi L (fun e => (As r e).batter) k p + _) (by omega) (by omega), BC (n := smi L (fun e => (As r e).wides) k p + _) (by omega) (by omega), BC (n := smi L (fun e => (As r e).noballs) k p + _) (by omega) (by omega), BC (n := smi L (fun e => (As r e).byes) k p + _) (by omega) (by omega), BC (n := smi L (fun e => (As r e).legbyes) k p + _) (by omega) (by omega), BC (n := smi L (fun e => (As r e).bowler) k p + _) (by omega) (by omega)]
theorem jd {r : Rul} {L : Rows} {k p : Nat} (h4 : ((evR L p).kind == 4) = false) : prA r L k (p + 1) = prA r L k p := by
 have c0 : As r (evR L p) = KG := by unfold As; rw [h4]; rfl
 unfold prA
 simp only [QL, c0, KG]
 cases Nat.beq (opn L (p + 1)) (k + 1) <;> simp only [cond_true, cond_false, Int.add_zero]
def cO (r : Rul) (L : Rows) (k : Int) : Cre × Int := cond (!(C3 r L == 0)) (KG, C3 r L) (cond (iLt k 0 || iLe (opn L L.length : Int) k) (KG, 2) (prA r L k.toNat L.length, 0))
def aY (x : Cre × Int) : List PV := [.int x.1.batter, .int x.1.wides, .int x.1.noballs, .int x.1.byes, .int x.1.legbyes, .int x.1.bowler, .bool x.1.counts, .bool x.1.faced, .bool x.1.wicket, .bool x.1.swap, .int x.2]
theorem Zb {L : Rows} {f : Ev → Int} {k p : Nat} (h : opn L p = k + 1) (hp : p ≤ L.length) (hn : p = L.length ∨ ((evR L p).kind == 2) = true) : ∀ c, p + c ≤ L.length → smi L f k (p + c) = smi L f k p
 | 0, _ => rfl
 | c + 1, hc => by
  rw [show p + (c + 1) = p + c + 1 by omega, QL, Zb h hp hn c (by omega)]
  rcases hn with hn | hn
  ·omega
  ·have := Ii L (show p + 1 ≤ p + c + 1 by omega)
   rw [Pv hn] at this
   rw [YV (by omega), cond_false, Int.add_zero]
theorem iR {L : Rows} (hL : L.length ≤ 1048576) {k : Nat} (hk : k < opn L L.length) : AH L (k + 1) = L.length ∨ ((evR L (AH L (k + 1))).kind == 2) = true := by
 by_cases h : k + 1 < opn L L.length
 ·obtain ⟨a, p1, p2, p3, p4, p5⟩ := YW hL L.length (Nat.le_refl _) (k + 1) h
  have : AH L (k + 1) = a := by unfold AH; rw [if_pos h, p1]; rfl
  rw [this]
  exact Or.inr p4
 ·exact Or.inl (by unfold AH; rw [if_neg h])
theorem lB {L : Rows} (hL : L.length ≤ 1048576) {f : Ev → Int} {k : Nat} (hk : k < opn L L.length) : smi L f k L.length = smi L f k (AH L (k + 1)) := by
 have sg := seg hL hk
 have := Zb (f := f) sg.o1 sg.le (iR hL hk) (L.length - AH L (k + 1)) (by have := sg.le; omega)
 rw [show AH L (k + 1) + (L.length - AH L (k + 1)) = L.length by have := sg.le; omega] at this
 exact this
theorem kv {r : Rul} {L : Rows} (hL : L.length ≤ 1048576) {k : Nat} (hk : k < opn L L.length) : prA r L k L.length = prA r L k (AH L (k + 1)) := by
 unfold prA
 simp only [lB hL hk]
theorem gY {N : Nat} {r : Rul} {L : Rows} {k : Nat} (hN : 2097152 < N) (il : InLog L) (rk : RulOk r) (hk : k < opn L L.length) {F : (List AR → Option (List PV)) → List PV → Option (List PV)}
    (f0 : ∀ (c : Cre) self, F self [.int ((AH L (k + 1) - AH L k : Nat) : Int), .int c.batter, .int c.wides, .int c.noballs, .int c.byes, .int c.legbyes, .int c.bowler, .bool false, .bool false, .bool false, .bool false] = some [.int c.batter, .int c.wides, .int c.noballs, .int c.byes, .int c.legbyes, .int c.bowler, .bool false, .bool false, .bool false, .bool false])
    (f1 : ∀ (i : Nat) self, i < AH L (k + 1) - AH L k → ∀ c : Cre, F self [.int (i : Int), .int c.batter, .int c.wides, .int c.noballs, .int c.byes, .int c.legbyes, .int c.bowler, .bool false, .bool false, .bool false, .bool false] = (let d := cond ((evR L (AH L k + i)).kind == 4) (fV c (As r (evR L (AH L k + i)))) c; self [.int ((i + 1 : Nat) : Int), .int d.batter, .int d.wides, .int d.noballs, .int d.byes, .int d.legbyes, .int d.bowler, .bool false, .bool false, .bool false, .bool false])) :
    C8 F N [.int 0, .int 0, .int 0, .int 0, .int 0, .int 0, .int 0, .bool false, .bool false, .bool false, .bool false] = some (prA r L k (AH L (k + 1))).ls := by
  have sg := seg (by have := il.len; omega) hk
  have h1 := sg.lt
  have h2 := sg.le
  have h3 := il.len
  have e : AH L k + (AH L (k + 1) - AH L k) = AH L (k + 1) := by omega
  have z0 : prA r L k (AH L k) = KG := bU (by rw [sg.o0]; exact Nat.le_refl _)
  have := C9 (F := F) (len := AH L (k + 1) - AH L k) (fun i => [.int (i : Int), .int (prA r L k (AH L k + i)).batter, .int (prA r L k (AH L k + i)).wides, .int (prA r L k (AH L k + i)).noballs, .int (prA r L k (AH L k + i)).byes, .int (prA r L k (AH L k + i)).legbyes, .int (prA r L k (AH L k + i)).bowler, .bool false, .bool false, .bool false, .bool false]) (prA r L k (AH L (k + 1))).ls
    (fun self => by
      have := f0 (prA r L k (AH L k + (AH L (k + 1) - AH L k))) self
      rw [e] at this
      show F self [.int ((AH L (k + 1) - AH L k : Nat) : Int), .int (prA r L k (AH L k + (AH L (k + 1) - AH L k))).batter, .int (prA r L k (AH L k + (AH L (k + 1) - AH L k))).wides, .int (prA r L k (AH L k + (AH L (k + 1) - AH L k))).noballs, .int (prA r L k (AH L k + (AH L (k + 1) - AH L k))).byes, .int (prA r L k (AH L k + (AH L (k + 1) - AH L k))).legbyes, .int (prA r L k (AH L k + (AH L (k + 1) - AH L k))).bowler, .bool false, .bool false, .bool false, .bool false] = _
      rw [e, this]
      rfl)
    (fun i self hi => by
      have f2 := f1 i self hi (prA r L k (AH L k + i))
      have st : prA r L k (AH L k + i + 1) = cond ((evR L (AH L k + i)).kind == 4) (fV (prA r L k (AH L k + i)) (As r (evR L (AH L k + i)))) (prA r L k (AH L k + i)) := by
        cases h4 : (evR L (AH L k + i)).kind == 4 with
        | true => exact jo rk (sg.mid _ (by omega) (by omega)) (by omega)
        | false => exact jd h4
      rw [← st] at f2
      exact f2) N (by omega)
  rw [Nat.add_zero, z0] at this
  exact this
set_option maxHeartbeats 4000000 in
theorem Xk {N : Nat} {r1 r2 r3 r4 r5 r6 r7 r9 r10 r11 r12 : Int} {r8 : Bool} {r0 : ByteArray} {r13 : Rows} {L : Rows} {k : Int} (hN : 2097152 < N) (hs : r0.size ≤ 1048576) (h13 : r13.length ≤ 1048576) (hL : L.length ≤ 1048576) : DZ N [.str r0, .int r1, .int r2, .int r3, .int r4, .int r5, .int r6, .int r7, .bool r8, .int r9, .int r10, .int r11, .int r12, .rows r13, .rows L, .int k] = some (aY (cO (⟨r0, r1, r2, r3, r4, r5, r6, r7, r8, r9, r10, r11, r12, r13⟩ : Rul) L k)) := by
 show H7 (std (Dp N) N) (xOf _) = _
 generalize hres : (some (aY (cO (⟨r0, r1, r2, r3, r4, r5, r6, r7, r8, r9, r10, r11, r12, r13⟩ : Rul) L k)) : Option (List PV)) = RR
 simp only [H7, Mb, Oo, Et, std, xOf, PXb, WV hN hs h13 hL, F5 hN hL, PXp, I5]
 subst hres; simp only [cO]
 cases hc : C3 (⟨r0, r1, r2, r3, r4, r5, r6, r7, r8, r9, r10, r11, r12, r13⟩ : Rul) L == 0 with
 | false => rfl
 | true =>
  obtain ⟨il, rk⟩ := kF (beq_iff_eq.1 hc)
  simp only [PXb, Bool.not_true]
  cases hb : iLt k 0 || iLe (opn L L.length : Int) k with
  | true => rfl
  | false =>
   simp only [Bool.or_eq_false_iff, iLt, iLe, decide_eq_false_iff_not] at hb
   obtain ⟨K, rfl⟩ : ∃ K : Nat, k = (K : Int) := ⟨k.toNat, by omega⟩
   have hk : K < opn L L.length := by omega
   have sg := seg hL hk
   have sgl := sg.lt
   have sge := sg.le
   have l4 := il.len
   have rg : iRg (AH L K : Int) (AH L (K + 1) : Int) (L.length : Int) = true := by simp only [iRg, decide_eq_true_eq]; omega
   have sl := fC (L := L) (a := AH L K) sge
   simp only [PXb, AX hk, sg.x0, sg.x1, rg, kv hL hk, Int.toNat_natCast]
   generalize hX : List.drop (AH L K) (List.take (AH L (K + 1)) L) = X at *
   have z0 : prA (⟨r0, r1, r2, r3, r4, r5, r6, r7, r8, r9, r10, r11, r12, r13⟩ : Rul) L K (AH L K) = KG := bU (by rw [sg.o0]; exact Nat.le_refl _)
   have e1 : AH L K + (AH L (K + 1) - AH L K) = AH L (K + 1) := by omega
   refine AP (gY hN il rk hk ?_ ?_) rfl
   ·intro c self
    simp only [PXb, PXc, PXn, AF, sl, A4]
   ·intro i self hi c
    have hev : evR X i = evR L (AH L K + i) := by rw [← hX]; exact ia L i hi
    have kx : pvI (AE X i 0) = (evR L (AH L K + i)).kind := congrArg Ev.kind hev
    have bx : (⟨pvI (AE X i 7), pvI (AE X i 8), pvI (AE X i 9), pvI (AE X i 10), pvI (AE X i 11), pvB (AE X i 12), pvI (AE X i 13), pvI (AE X i 14), pvI (AE X i 15), pvI (AE X i 16), pvB (AE X i 17), pvI (AE X i 18)⟩ : Del) = (evR L (AH L K + i)).ball := congrArg Ev.ball hev
    simp only [PXb, PXc, PXn, AF, PXc, sl, FD (show i ≤ 1099511627776 by omega), Az hi, AX hi, Nat.reduceAdd, kx, Et, F1, bx, Cre.ls]
    unfold As
    cases h4 : (evR L (AH L K + i)).kind == 4 <;> rfl
end Go.Px
end
section
namespace Go.Px
set_option maxRecDepth 100000
theorem iJ {N : Nat} {L : Rows}  : NZ N [.rows L] = some [.rows (cut L 60)] := by
 show Ni (std (Ja N) N) (xOf _) = _
 simp only [Ni, std, xOf, PXb, PXc, PXn, PXm, Nat.reduceAdd, Int.reduceBEq, mY (show (0 : Int) ≤ 60 by omega)]
 rfl
theorem MM {N : Nat} {L : Rows} (hN : 2097152 < N) (h : L.length ≤ 1048576) : Bx N [.rows L, .rows L] = some [.bool true] := by
 show Ee (std (Kj N) N) (xOf _) = _
 simp only [Ee, std, xOf, PXb, PXm]
 refine AP (C9 (len := L.length) (fun i => [.int (i : Int)]) [.int 1] ?_ ?_ N (by omega)) ?_
 ·intro self
  simp only [PXb, PXc, PXn, AF, A4]
 ·intro i self hi
  simp only [PXb, PXc, PXn, PXm, Nat.reduceAdd, Int.reduceBEq, Ap (show i ≤ 1099511627776 by omega), Az hi, AX hi]
  rfl
 ·simp only [PXb, PXc, PXn, PXm, Nat.reduceAdd, Int.reduceBEq]
def LJ (k s p o : Int) (y : Bool) (t f n b h v : Int) : List PV := [.int k, .int s, .int p, .int o, .bool y, .int 0, .int 0, .int t, .int f, .int n, .int 0, .int b, .bool false, .int h, .int v, .int 0, .int 0, .bool false, .int 0]
def F4 : Rows := [LJ 1 1 0 0 true 0 0 0 0 0 0, LJ 2 0 1 2 false 0 0 0 0 0 0, LJ 8 0 2 0 false 0 0 0 0 0 0, LJ 3 0 1 0 false 0 0 0 0 0 0, LJ 4 0 0 0 false 1 1 1 0 0 0, LJ 4 0 0 0 false 1 0 0 0 1 1, LJ 2 0 2 1 false 0 0 0 0 0 0, LJ 8 0 1 0 false 0 0 0 0 0 0, LJ 3 0 2 0 false 0 0 0 0 0 0, LJ 4 0 0 0 false 2 0 0 0 0 0, LJ 4 0 0 0 false 1 1 0 4 0 0]
def Ls : Rul := ⟨⟨#[84, 69, 83, 84]⟩, 2, 1, 1, 4, 0, 1, 1, false, 0, 0, 0, 11, []⟩
theorem j7 : Nl 4194304 [] = some [.rows F4] := by kernel_rfl
theorem lK : Jt 4194304 [] = some Ls.ls := by kernel_rfl
theorem kc : C3 Ls F4 = 0 := by kernel_rfl
theorem ml : bN Ls F4 (sdT F4) = [⟨1, 1, 1, 2, 0, 0, 0, 0, 0, 0⟩, ⟨2, 5, 0, 1, 1, 0, 0, 0, 0, 0⟩] := by kernel_rfl
theorem ma : cO Ls F4 1 = (⟨4, 1, 0, 0, 0, 5, false, false, false, false⟩, 0) := by kernel_rfl
theorem mu : D5 (BW F4 F4.length) = [[.int 1, .int 6], [.int 6, .int 11]] := by kernel_rfl
theorem VO {x : Option (List PV)} {v : List PV} {f : List PV → Option (List PV)} {r : Option (List PV)} (h : x = some v) (hk : f v = r) : x.bind f = r := by rw [h]; exact hk
set_option maxHeartbeats 2000000 in
theorem eC : Jf 4194304 [] = some [.bool true] := by
 have hs : Ls.name.size ≤ 1048576 := by decide
 have hl : F4.length ≤ 1048576 := by decide
 have hN : 2097152 < 4194304 := by omega
 have k1 : EF 4194304 (Ls.ls ++ [.rows F4]) = some [.rows (cond (!(C3 Ls F4 == 0)) [] (Ah (bN Ls F4 (sdT F4)))), .int (C3 Ls F4)] := ZU hN hs (Nat.zero_le _) hl kF
 have k2 : DZ 4194304 (Ls.ls ++ [.rows F4, .int 1]) = some (aY (cO Ls F4 1)) := Xk hN hs (Nat.zero_le _) hl
 have k3 := F5 (L := F4) hN hl
 rw [kc, ml] at k1
 rw [ma] at k2
 rw [mu] at k3
 show NG (std (CS 4194304) 4194304) (xOf []) = _
 simp only [NG, ME, Pf, PZ, L5, Ou, R6, Tt, std, xOf, PXb, j7, lK]
 refine VO k1 ?_
 simp only [PXb, PXc, PXn, PXm, Nat.reduceAdd, Int.reduceBEq]
 refine VO k2 ?_
 simp only [aY, PXb, PXc, PXn, PXm, Nat.reduceAdd, Int.reduceBEq, Int.reduceBEq]
 refine VO (S6 (L := Ah [⟨1, 1, 1, 2, 0, 0, 0, 0, 0, 0⟩, ⟨2, 5, 0, 1, 1, 0, 0, 0, 0, 0⟩]) hN (by decide)) ?_
 simp only [PXb, PXc, PXn, PXm, Nat.reduceAdd, Int.reduceBEq, j7, k3]
 refine VO (MM (L := [[.int 1, .int 6], [.int 6, .int 11]]) hN (by decide)) ?_
 rfl
theorem mq (L : Rows) : (cut L 60).length ≤ 1048576 := Nat.le_trans (mM L 60) (show 60 ≤ 1048576 by omega)
end Go.Px
end
section
namespace Go.Px
set_option maxRecDepth 100000
structure Up (x y : Sco) : Prop where
 side : y.side = x.side
 runs : x.runs ≤ y.runs
 wk : x.wickets ≤ y.wickets
 balls : x.balls ≤ y.balls
theorem Up.refl (x : Sco) : Up x x := ⟨rfl, Int.le_refl _, Int.le_refl _, Int.le_refl _⟩
theorem jY (L : Rows) : eqL L L = true := by
 unfold eqL
 have : BR (fun i => !(atI L i 0 == atI L i 0)) L.length 0 = false := G4.2 (fun j _ _ => by rw [beq_self_eq_true]; rfl)
 rw [this, beq_self_eq_true]
 rfl
theorem fa {f : Int} (h : IntKind.i64.wrap f = f) : A2 (A2 f) = f := by
 unfold A2
 simp only [Kw] at h ⊢
 omega
theorem dU {L : Rows} (hr : ∀ i, IntKind.i64.wrap (evR L i).side = (evR L i).side) : ∀ n v, Cz L n = some v → IntKind.i64.wrap v = v
 | 0, v, h => by cases h
 | n + 1, v, h => by
  unfold Cz at h
  cases hf : Cz L n with
  | some w =>
   rw [hf] at h
   cases h
   exact dU hr n _ hf
  | none =>
   rw [hf] at h
   cases k1 : (evR L n).kind == 1 with
   | false => simp only [k1, cond_false] at h; cases h
   | true =>
    simp only [k1, cond_true] at h
    cases h
    unfold Lr A2
    cases (evR L n).yes
    ·exact Fd _
    ·exact hr n
theorem jE {L : Rows} (hr : ∀ i, IntKind.i64.wrap (evR L i).side = (evR L i).side) (n : Int) : ∀ i, IntKind.i64.wrap (evR (cut L n) i).side = (evR (cut L n) i).side := fun i => by
 have e : cut L n = L.take (cond (iLt n (L.length : Int)) n (L.length : Int)).toNat := rfl
 rw [e]
 generalize (cond (iLt n (L.length : Int)) n (L.length : Int)).toNat = k
 by_cases h : i < k
 ·have e : (evR (L.take k) i).side = (evR L i).side := by
   show atI (L.take k) i 1 = atI L i 1
   exact bE h
  rw [e]
  exact hr i
 ·have e : (evR (L.take k) i).side = 0 := by
   show pvI (AE (L.take k) i 1) = 0
   unfold AE Af
   rw [List.getD_eq_getElem?_getD, List.getElem?_eq_none (by rw [List.length_take]; omega)]
   rfl
  rw [e]
  rfl
set_option maxHeartbeats 4000000 in
theorem Vm {N : Nat} {L : Rows} (ha : Jf N [] = some [.bool true]) (hN : 2097152 < N) (hr : ∀ i, IntKind.i64.wrap (evR L i).side = (evR L i).side) : Dz N [.rows L] = some [.bool true] := by
 show D0 (std (Ao N) N) (xOf _) = _
 have l := mq L
 have hr2 := jE hr 60
 simp only [D0, N2, O8, I3, Lu, M0, JI, MG, Nc, std, xOf, PXb, PXc, PXn, PXm, Nat.reduceAdd, Int.reduceBEq, ha, iJ]
 generalize cut L 60 = X at *
 have ol := Po X X.length
 have sl : (D5 (BW X X.length)).length ≤ 1048576 := by rw [Wj, I5]; omega
 have ff : A2 (A2 (Kh X)) = Kh X := by
  unfold Kh
  cases hf : Cz X X.length with
  | none => rfl
  | some v => exact fa (dU hr2 _ v hf)
 have sides : PF (Kh X) (DT X X.length) = SW (Kh X) (DT X X.length) := funext fun k => kt ff _ k
 have zl : (Eu (zs (SW (Kh X) (DT X X.length)) (opn X X.length))).length ≤ 1048576 := by rw [IM, Nm]; omega
 simp only [PXb, PXc, PXn, PXm, Nat.reduceAdd, Int.reduceBEq, F5 hN l, Uf hN l, MM hN sl, Tj hN l, dv hN l, sides, Uz hN zl, jY]
end Go.Px
end
