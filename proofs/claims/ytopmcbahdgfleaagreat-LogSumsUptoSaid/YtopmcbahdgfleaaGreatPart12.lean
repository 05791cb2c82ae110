/- Part 12. -/
import Derived.Test.YtopmcbahdgfleaaGreatPart11
set_option linter.unusedVariables false
set_option linter.unusedSimpArgs false
namespace Go.Px
set_option maxRecDepth 100000
theorem eS (m : Mat) (e : Ev) : m.inns.length ≤ (F7 m e).1.inns.length := by
 have c : ∀ (b : Bool) (x y : Mat × Int), m.inns.length ≤ x.1.inns.length → m.inns.length ≤ y.1.inns.length → m.inns.length ≤ (cond b x y).1.inns.length := fun b x y hx hy => by cases b <;> assumption
 have z : ∀ n : Int, m.inns.length ≤ ((m, n) : Mat × Int).1.inns.length := fun _ => Nat.le_refl _
 unfold F7
 refine c _ _ _ (c _ _ _ (z _) (Nat.le_refl _)) (c _ _ _ (c _ _ _ (z _) ?_) (c _ _ _ (c _ _ _ (z _) (c _ _ _ (z _) (Nat.le_refl _))) (c _ _ _ ?_ (c _ _ _ (z _) ?_))))
 ·unfold Sx
  refine c _ _ _ (z _) (c _ _ _ (z _) ?_)
  show _ ≤ (m.inns ++ [_]).length
  rw [List.length_append]
  exact Nat.le_add_right _ _
 ·show _ ≤ (cond (m.stage == 3) (m.inns.set _ _) m.inns).length
  cases m.stage == 3
  ·exact Nat.le_refl _
  ·show _ ≤ (m.inns.set _ _).length
   rw [List.length_set]
   exact Nat.le_refl _
 ·unfold TC
  refine c _ _ _ (z _) ?_
  show _ ≤ (cond _ (Gd _ _) _).inns.length
  have hl : m.inns.length ≤ (m.inns.set (lnx m.inns) (Aj m.rules (A7 m) e).1).length := by rw [List.length_set]; exact Nat.le_refl _
  cases (e.kind == 13 && !(e.side == (Aj m.rules (A7 m) e).1.side))
  ·exact hl
  ·simp only [cond_true]
   unfold Gd
   cases Iu (m.inns.set (lnx m.inns) (Aj m.rules (A7 m) e).1) e.side (m.inns.set (lnx m.inns) (Aj m.rules (A7 m) e).1).length with
   | none => exact hl
   | some k => show _ ≤ ((m.inns.set _ _).set _ _).length; rw [List.length_set]; exact hl
theorem co {m : Mat} {e : Ev} (h : ((CL m e).2 == 0) = true) : m.inns.length ≤ (CL m e).1.inns.length := by
 obtain ⟨_, _, _, _, hs⟩ := UE h
 rw [hs, (NY _).2]
 exact eS m e
def Vp (D : Rows) (n : Nat) : Prop := ∀ j, j < D.length → ∃ z : Nat, z < n ∧ atI D j 1 = (z : Int)
theorem fA {D : Rows} {n k : Nat} (h : Vp D n) (hk : n ≤ k) : Vp D k := fun j hj => by
 obtain ⟨z, h1, h2⟩ := h j hj
 exact ⟨z, by omega, h2⟩
theorem Xm (L : Rows) (r : Rul) : ∀ k i m out, acc L k i m → StepOk r m → Vp out m.inns.length → Vp (Lq L k i m out) (stM L k i m).inns.length
 | 0, i, m, out, _, _, h => h
 | k + 1, i, m, out, ha, ok, h => by
  have hq := (X2 ha.1).1
  have hs : ((CL m (evR L i)).2 == 0) = true := by rw [← hq]; exact ha.1
  have hl := co hs
  refine Xm L r k (i + 1) (Al i m (evR L i)).1 _ ha.2 (Qv ok (i : Int) (evR L i)) ?_
  rw [hq]
  have h2 := fA h hl
  cases hk : (evR L i).kind == 4 with
  | false => exact h2
  | true =>
   obtain ⟨g1, g2, g3, g4⟩ := Q6 hs hk
   intro j hj
   rw [cond_true, List.length_append] at hj
   by_cases e : j < out.length
   ·obtain ⟨z, z1, z2⟩ := h2 j e
    refine ⟨z, z1, ?_⟩
    show pvI (AF (out ++ [_]) j 1) = _
    rw [cU e]
    exact z2
   ·have : j = out.length := by simp at hj; omega
    subst this
    have := ok.len
    have hx := Pp g2 (by omega)
    refine ⟨lnx m.inns, by omega, ?_⟩
    show pvI (AF (out ++ [_]) out.length 1) = _
    rw [bz]
    show IntKind.i64.wrap ((m.inns.length : Int) - 1) = _
    rw [beq_eq_false_iff_ne] at g2
    unfold lnx
    rw [DP (by omega) (by omega)]
    omega
def UX (L : Rows) : Nat → Int
 | 0 => 0
 | n + 1 => UX L n + Cd (evR L n)
theorem Zj {L X : Rows} : ∀ k i, (∀ j, j < i + k → evR X j = evR L j) → UX X i + aN L k i = UX X (i + k)
 | 0, i, _ => Int.add_zero _
 | k + 1, i, h => by
  have ih := Zj k (i + 1) (fun j hj => h j (by omega))
  rw [show i + (k + 1) = i + 1 + k by omega, ← ih]
  show _ + (Cd (evR L i) + _) = UX X i + Cd (evR X i) + _
  rw [h i (by omega)]
  omega
def Se (xs : List Inn) : Nat → Int
 | 0 => 0
 | n + 1 => Se xs n + (inn xs n).wickets
theorem Wj (x : Inn) (xs : List Inn) : ∀ n, Se (x :: xs) (n + 1) = x.wickets + Se xs n
 | 0 => by show (0 : Int) + x.wickets = x.wickets + 0; omega
 | n + 1 => by
  show Se (x :: xs) (n + 1) + (inn xs n).wickets = x.wickets + (Se xs n + (inn xs n).wickets)
  rw [Wj x xs n, Int.add_assoc]
theorem Zu : ∀ xs : List Inn, (xs.map Inn.wickets).sum = Se xs xs.length
 | [] => rfl
 | x :: xs => by
  rw [List.length_cons, Wj, ← Zu xs]
  rfl
def Ln (r : Rul) (L : Rows) : Int := cond (iLt (B1 r L).2.1 0) (L.length : Int) (B1 r L).2.1
theorem bu (r : Rul) (L : Rows) : SumInv r.balls (B1 r L).1.inns (fun j => rS (CE r L) j (CE r L).length) (fun j => bS (CE r L) j (CE r L).length) (hS (CE r L) (CE r L).length + UX (Fk L (Ln r L)) (Fk L (Ln r L)).length) ∧
    Vp (CE r L) (B1 r L).1.inns.length ∧ iRg 0 (Ln r L) (L.length : Int) = true := by
  cases hc : (De r).2 == 0 with
  | false =>
    have e1 : B1 r L = (Xd, 0, 1) := by unfold B1; rw [hc]; rfl
    have e2 : CE r L = [] := by unfold CE; rw [hc]; rfl
    have e3 : Ln r L = 0 := by unfold Ln; rw [e1]; rfl
    have e4 : Fk L 0 = [] := rfl
    rw [e1, e2, e3, e4]
    exact ⟨⟨fun i hi => absurd hi (Nat.not_lt_zero i), fun i hi => absurd hi (Nat.not_lt_zero i), fun i hi => absurd hi (Nat.not_lt_zero i), fun _ _ => ⟨rfl, rfl⟩, rfl⟩, fun j hj => absurd hj (Nat.not_lt_zero j), by simp only [iRg, decide_eq_true_eq]; omega⟩
  | true =>
    obtain ⟨k, h1, h2, h3, h4⟩ := X3 L L.length 0 (De r).1
    have hr : B1 r L = DZ L L.length 0 (De r).1 := by unfold B1; rw [hc]; rfl
    have hp : CE r L = Lq L k 0 (De r).1 [] := by unfold CE; rw [hc]; exact h3 []
    have okm := Vz r hc
    have hm : (B1 r L).1 = stM L k 0 (De r).1 ∧ Ln r L = (k : Int) := by
      unfold Ln
      rw [hr]
      rcases h4 with ⟨h5, h6⟩ | ⟨h5, h6, h7⟩
      · rw [h6, h5]; exact ⟨rfl, rfl⟩
      · rw [h7]
        refine ⟨rfl, ?_⟩
        have : iLt ((0 + k : Nat) : Int) 0 = false := by simp only [iLt, decide_eq_false_iff_not]; omega
        rw [Nat.zero_add] at this ⊢
        simp only [this, cond_false]
    have m0 : (De r).1.inns = [] := by unfold De at hc ⊢; cases Bh r == 0 <;> rfl
    have i0 : SumInv r.balls (De r).1.inns (fun j => rS [] j ([] : Rows).length) (fun j => bS [] j ([] : Rows).length) (hS [] ([] : Rows).length + 0) := by
      rw [m0]
      exact ⟨fun i hi => absurd hi (Nat.not_lt_zero i), fun i hi => absurd hi (Nat.not_lt_zero i), fun i hi => absurd hi (Nat.not_lt_zero i), fun _ _ => ⟨rfl, rfl⟩, rfl⟩
    have d1 := Yj L r k 0 (De r).1 [] 0 h2 okm i0
    have d2 := Xm L r k 0 (De r).1 [] h2 okm (fun j hj => absurd hj (Nat.not_lt_zero j))
    rw [hm.1, hm.2, hp, Z2 h1]
    refine ⟨d1.congr (fun _ => rfl) (fun _ => rfl) ?_, d2, by simp only [iRg, decide_eq_true_eq]; omega⟩
    have := Zj (L := L) (X := Fk L (k : Int)) k 0 (fun j hj => cw (by omega))
    rw [Nat.zero_add] at this
    rw [← this]
    show _ + (0 + _) = _ + (0 + _)
    rfl
def IC (xs : List Int) : Rows := xs.map fun x => [.int x]
theorem UB (xs : List Int) : (IC xs).length = xs.length := List.length_map _
theorem da (xs : List Int) (i : Nat) : Au (IC xs) i = (match xs[i]? with | some x => [.int x] | none => []) := by
 unfold Au IC
 rw [List.getD_eq_getElem?_getD, List.getElem?_map]
 cases xs[i]? <;> rfl
theorem fD (xs : List Int) (i : Nat) : atI (IC xs) i 0 = xs.getD i 0 := by
 unfold atI AF
 rw [da, List.getD_eq_getElem?_getD]
 cases xs[i]? <;> rfl
theorem fQ (xs : List Int) (i : Nat) (v : Int) : (IC xs).set i (Bt (Au (IC xs) i) 0 [.int v]) = IC (xs.set i v) := by
 by_cases h : i < xs.length
 ·rw [da, List.getElem?_eq_getElem h]
  show (IC xs).set i [.int v] = _
  exact List.map_set.symm
 ·rw [List.set_eq_of_length_le (by rw [UB]; omega), List.set_eq_of_length_le (by omega)]
theorem fT (n : Nat) : List.replicate n [PV.int 0] = IC (List.replicate n 0) := by unfold IC; rw [List.map_replicate]
theorem YD (xs : List Int) (i k : Nat) (v : Int) (hk : k < xs.length) : (xs.set i v).getD k 0 = (if i = k then v else xs.getD k 0) := by
 rw [List.getD_eq_getElem?_getD, List.getD_eq_getElem?_getD, List.getElem?_set]
 by_cases h : i = k
 ·subst h
  rw [if_pos rfl, if_pos rfl, if_pos hk]
  rfl
 ·rw [if_neg h, if_neg h]
theorem Ol {St : Type} {body : Nat → St → List PV ⊕ St} {fin : St → List PV} (I : Nat → St → Prop) (nx : Nat → St → St) (hb : ∀ i s, body i s = .inr (nx i s)) (hI : ∀ i s, I i s → I (i + 1) (nx i s)) :
    ∀ k i s, I i s → ∃ s', I (i + k) s' ∧ QY body fin k i s = fin s'
  | 0, i, s, h => ⟨s, h, rfl⟩
  | k + 1, i, s, h => by
    obtain ⟨s', h1, h2⟩ := Ol I nx hb hI k (i + 1) (nx i s) (hI i s h)
    refine ⟨s', by rw [show i + (k + 1) = i + 1 + k by omega]; exact h1, ?_⟩
    simp only [QY, hb]
    exact h2
def XZ (D : Rows) (i : Nat) (s : List Int × List Int × Int) : List Int × List Int × Int :=
  (s.1.set (atI D i 1).toNat (wr (s.1.getD (atI D i 1).toNat 0 + rT D i)), cond (atB D i 26) (s.2.1.set (atI D i 1).toNat (wr (s.2.1.getD (atI D i 1).toNat 0 + 1))) s.2.1, cond (atI D i 14 == 0) s.2.2 (wr (s.2.2 + 1)))
structure SumSt (D : Rows) (n i : Nat) (s : List Int × List Int × Int) : Prop where
 l1 : s.1.length = n
 l2 : s.2.1.length = n
 r : ∀ k, k < n → s.1.getD k 0 = wr (rS D k i)
 b : ∀ k, k < n → s.2.1.getD k 0 = wr (bS D k i)
 h : s.2.2 = wr (hS D i)
theorem Vg (a b : Int) : wr (wr a + b) = wr (a + b) := by
 simp only [wr, Ck]
 omega
theorem bH {D : Rows} {n i : Nat} {s : List Int × List Int × Int} (h : SumSt D n i s) (hz : ∃ z : Nat, z < n ∧ atI D i 1 = (z : Int)) : SumSt D n (i + 1) (XZ D i s) := by
 obtain ⟨z, hz, hd⟩ := hz
 have ht : (atI D i 1).toNat = z := by rw [hd]; rfl
 have hne : ∀ k : Nat, ¬ z = k → ((z : Int) == (k : Int)) = false := fun k hk => beq_false_of_ne (by omega)
 refine ⟨?_, ?_, fun k hk => ?_, fun k hk => ?_, ?_⟩
 ·show (s.1.set _ _).length = n
  rw [List.length_set]; exact h.l1
 ·show (cond _ (s.2.1.set _ _) s.2.1).length = n
  cases atB D i 26
  ·exact h.l2
  ·show (s.2.1.set _ _).length = n
   rw [List.length_set]; exact h.l2
 ·show (s.1.set (atI D i 1).toNat _).getD k 0 = wr (rS D k i + cond (atI D i 1 == (k : Int)) (rT D i) 0)
  rw [YD _ _ _ _ (by rw [h.l1]; exact hk), ht, hd]
  by_cases e : z = k
  ·subst e
   rw [if_pos rfl, beq_self_eq_true, h.r z hz]
   exact Vg _ _
  ·rw [if_neg e, hne k e, h.r k hk, cond_false, Int.add_zero]
 ·show (cond (atB D i 26) (s.2.1.set (atI D i 1).toNat _) s.2.1).getD k 0 = wr (bS D k i + cond (atI D i 1 == (k : Int) && atB D i 26) 1 0)
  cases atB D i 26 with
  | false => rw [Bool.and_false, cond_false, cond_false, h.b k hk, Int.add_zero]
  | true =>
   rw [Bool.and_true, cond_true, YD _ _ _ _ (by rw [h.l2]; exact hk), ht, hd]
   by_cases e : z = k
   ·subst e
    rw [if_pos rfl, beq_self_eq_true, h.b z hz]
    exact Vg _ _
   ·rw [if_neg e, hne k e, h.b k hk, cond_false, Int.add_zero]
 ·show cond (atI D i 14 == 0) s.2.2 (wr (s.2.2 + 1)) = wr (hS D i + cond (atI D i 14 == 0) 0 1)
  rw [h.h]
  cases atI D i 14 == 0
  ·exact Vg _ _
  ·rw [cond_true, cond_true, Int.add_zero]
set_option maxHeartbeats 4000000 in
theorem XX {N : Nat} {r1 r2 r3 r4 r5 r6 r7 r9 r10 r11 r12 : Int} {r8 : Bool} {r0 : ByteArray} {r13 : Rows} {L : Rows} (ha : Gg N [] = some [.bool true]) (hN : 2097152 < N) (hs : r0.size ≤ 1048576) : GG N [.str r0, .int r1, .int r2, .int r3, .int r4, .int r5, .int r6, .int r7, .bool r8, .int r9, .int r10, .int r11, .int r12, .rows r13, .rows L] = some [.bool true] := by
  show GZ (std (BN N) N) (xOf _) = _
  have nn := Yt (⟨r0, r1, r2, r3, r4, r5, r6, r7, r8, r9, r10, r11, r12, r13⟩ : Rul) hs
  have p := W8 (⟨r0, r1, r2, r3, r4, r5, r6, r7, r8, r9, r10, r11, r12, r13⟩ : Rul)
  have l : (cut L 70).length ≤ 1048576 := Nat.le_trans (cP L 70) (show 70 ≤ 1048576 by omega)
  have k := cD (r := LX (⟨r0, r1, r2, r3, r4, r5, r6, r7, r8, r9, r10, r11, r12, r13⟩ : Rul)) (cut L 70) nn p
  have pl := ar (LX (⟨r0, r1, r2, r3, r4, r5, r6, r7, r8, r9, r10, r11, r12, r13⟩ : Rul)) (cut L 70)
  simp only [GZ, OZ, NF, Pw, PT, Fi, std, xOf, PXb, PXc, PXn, PXm, Nat.reduceAdd, Int.reduceBEq, ha, XK, bV, Rul.ls, aq hN nn p l, YY]
  generalize LX (⟨r0, r1, r2, r3, r4, r5, r6, r7, r8, r9, r10, r11, r12, r13⟩ : Rul) = R at *
  generalize cut L 70 = X at *
  obtain ⟨sf, si, sr⟩ := bu R X
  have fy := Nat.le_trans (bk X (Ln R X)) l
  have hi : cond (iLt (B1 R X).2.1 0) (X.length : Int) (B1 R X).2.1 = Ln R X := rfl
  have E : ∀ n : Int, List.drop (Int.toNat 0) (List.take n.toNat X) = Fk X n := fun _ => rfl
  have kl := k.len
  have h8 : iSm (((B1 R X).1.inns.length : Nat) : Int) 8 = true := Is (by omega) (by omega)
  simp only [PXi, fT, hi, E, h8, sr, PXb]
  generalize Fk X (Ln R X) = Y at *
  generalize (B1 R X).1 = m at *
  generalize CE R X = D at *
  clear hi E sr h8 k
  have st0 : SumSt D m.inns.length 0 (List.replicate m.inns.length 0, List.replicate m.inns.length 0, 0) := ⟨List.length_replicate, List.length_replicate, fun k hk => by
    rw [List.getD_eq_getElem?_getD, List.getElem?_replicate, if_pos hk]; rfl, fun k hk => by
    rw [List.getD_eq_getElem?_getD, List.getElem?_replicate, if_pos hk]; rfl, rfl⟩
  refine Ae (MJ (St := List Int × List Int × Int) (len := D.length) (enc := fun i s => [.rows (IC s.1), .rows (IC s.2.1), .int s.2.2, .int (i : Int)]) (body := fun i s => .inr (XZ D i s)) (fin := fun s => [.int 1, .rows (IC s.1), .rows (IC s.2.1), .int s.2.2])
    (fun i s => SumSt D m.inns.length i s) ?_ ?_ D.length 0 _ N (by omega) (by omega) st0) ?_
  · intro s self _
    simp only [PXb, PXc, PXn, AK, Bp]
  · intro i s self hi st
    refine ⟨?_, fun s' h => by cases h; exact bH st (si i hi)⟩
    obtain ⟨z, hz, hd⟩ := si i hi
    have g1 : iLe (m.inns.length : Int) (z : Int) = false := by simp only [iLe, decide_eq_false_iff_not]; omega
    have g2 : iIn (z : Int) (m.inns.length : Int) = true := Ap hz
    have tz : ((z : Int)).toNat = z := Int.toNat_natCast z
    have s1 := st.l1
    have s2 := st.l2
    obtain ⟨xs, ys, o⟩ := s
    simp only at s1 s2
    simp only [PXb, PXc, PXn, AK, As (show i ≤ 1099511627776 by omega), BL hi, Ap hi, CK, S6, UB, s1, s2, hd, g1, g2, tz, Fi, fQ, fD]
    simp only [OJ, PXb, XZ, hd, tz]
    cases atB D i 26 <;> cases atI D i 14 == 0 <;> rfl
  · obtain ⟨s', h1, h2⟩ := Ol (fin := fun s => [.int 1, .rows (IC s.1), .rows (IC s.2.1), .int s.2.2]) (fun i s => i ≤ D.length → SumSt D m.inns.length i s) (XZ D) (fun _ _ => rfl) (fun i s h hi => bH (h (by omega)) (si i (by omega))) D.length 0 _ (fun _ => st0)
    rw [h2]
    have st := h1 (by omega)
    clear h1 h2 st0 si
    obtain ⟨xs, ys, o⟩ := s'
    rw [Nat.zero_add] at st
    obtain ⟨s1, s2, s3, s4, s5⟩ := st
    simp only at s1 s2 s3 s4 s5
    simp only [PXb, Int.reduceBEq, UB, s1, s2]
    refine Ae (MJ (St := Int) (len := Y.length) (enc := fun i s => [.int s, .int (i : Int)]) (body := fun i s => .inr (cond ((atI Y i 0 == 5 && atB Y i 4) || (atI Y i 0 == 6 && !atB Y i 4)) (wr (s + 1)) s)) (fin := fun s => [.int s])
      (fun i s => True) ?_ ?_ Y.length 0 o N (by omega) (by omega) trivial) ?_
    · intro s self _
      simp only [PXb, PXc, PXn, AK, Bp]
    · intro i s self hi _
      refine ⟨?_, fun _ _ => trivial⟩
      simp only [PXb, PXc, PXn, AK, As (show i ≤ 1099511627776 by omega), BL hi, Ap hi, CK, S6]
      cases ((atI Y i 0 == 5 && atB Y i 4) || (atI Y i 0 == 6 && !atB Y i 4)) <;> rfl
    · obtain ⟨t, h1, h2⟩ := Ol (fin := fun s => [.int s]) (fun i s => s = wr (hS D D.length + UX Y i)) (fun i s => cond ((atI Y i 0 == 5 && atB Y i 4) || (atI Y i 0 == 6 && !atB Y i 4)) (wr (s + 1)) s) (fun _ _ => rfl) (fun i s h => by
        rw [h]
        show _ = wr (_ + (UX Y i + cond ((atI Y i 0 == 5 && atB Y i 4) || (atI Y i 0 == 6 && !atB Y i 4)) 1 0))
        cases ((atI Y i 0 == 5 && atB Y i 4) || (atI Y i 0 == 6 && !atB Y i 4))
        · rw [cond_false, cond_false, Int.add_zero]
        · rw [cond_true, cond_true, Vg, Int.add_assoc]) Y.length 0 o (by rw [s5]; show _ = wr (_ + 0); rw [Int.add_zero])
      rw [h2]
      rw [Nat.zero_add] at h1
      refine Ae (MJ (St := Int) (len := m.inns.length) (enc := fun i s => [.int s, .int (i : Int)]) (body := fun i s => .inr (wr (s - (inn m.inns i).wickets))) (fin := fun s => [.int 1, .int s])
        (fun i s => True) ?_ ?_ m.inns.length 0 t N (by omega) (by omega) trivial) ?_
      · intro s self _
        simp only [PXb, PXc, PXn, AK, Bp]
      · intro i s self hi _
        refine ⟨?_, fun _ _ => trivial⟩
        have c1 : ((inn m.inns i).runs == wr (xs.getD i 0 + (inn m.inns i).pens)) = true := by
          have a1 := sf.runs i hi
          have a2 := sf.rw i hi
          rw [s3 i hi, ← a1, beq_iff_eq, Vg, Int.sub_add_cancel]
          exact a2.symm
        have c2 : (wr (wr ((inn m.inns i).complete * R.balls) + (inn m.inns i).inover) == ys.getD i 0) = true := by
          rw [s4 i hi, beq_iff_eq]
          exact sf.balls i hi
        simp only [PXb, PXc, PXn, AK, As (show i ≤ 1099511627776 by omega), BL hi, Ap hi, CK, S6, fD, c1, c2]
        rfl
      · obtain ⟨u, h3, h4⟩ := Ol (fin := fun s => [.int 1, .int s]) (fun i s => s = wr (t - Se m.inns i)) (fun i s => wr (s - (inn m.inns i).wickets)) (fun _ _ => rfl) (fun i s h => by
          rw [h]
          show _ = wr (t - (Se m.inns i + _))
          simp only [wr, Ck]
          omega) m.inns.length 0 t (by rw [h1]; show _ = wr (_ - 0); rw [Int.sub_zero]; exact (Ft _).symm)
        rw [h4]
        rw [Nat.zero_add] at h3
        have hu : u = 0 := by
          have a := sf.wk
          rw [Zu] at a
          rw [h3, h1]
          simp only [wr, Ck] at a ⊢
          omega
        rw [hu]
        rfl
end Go.Px
