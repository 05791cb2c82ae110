/- Part 12. -/
import Derived.Test.YtmpgkalgfmnpjaaGreatPart11
set_option linter.unusedVariables false
set_option linter.unusedSimpArgs false
section
namespace Go.Px
set_option maxRecDepth 100000
def F8 (xs : List Int) : Rows := xs.map fun x => [.int x]
theorem MG (xs : List Int) : (F8 xs).length = xs.length := List.length_map _
theorem lm (xs : List Int) (i : Nat) : Ag (F8 xs) i = (match xs[i]? with | some x => [.int x] | none => []) := by
 unfold Ag F8
 rw [List.getD_eq_getElem?_getD, List.getElem?_map]
 cases xs[i]? <;> rfl
theorem mT (xs : List Int) (i : Nat) : atI (F8 xs) i 0 = xs.getD i 0 := by
 unfold atI AE
 rw [lm, List.getD_eq_getElem?_getD]
 cases xs[i]? <;> rfl
structure SumSt (D : Rows) (n i : Nat) (s : List Int × List Int × Int) : Prop where
 l1 : s.1.length = n
 l2 : s.2.1.length = n
 r : ∀ k, k < n → s.1.getD k 0 = wr (rS D k i)
 b : ∀ k, k < n → s.2.1.getD k 0 = wr (bS D k i)
 h : s.2.2 = wr (hS D i)
end Go.Px
end
section
namespace Go.Px
set_option maxRecDepth 100000
structure Sco where
 side : Int
 runs : Int
 wickets : Int
 balls : Int
 wides : Int
 noballs : Int
 byes : Int
 legbyes : Int
 pens : Int
 ending : Int
theorem Az {n : Int} (h1 : -1000000000000 ≤ n) (h2 : n ≤ 1000000000000) : IntKind.i64.wrap n = n := DQ (by omega) (by omega)
theorem db {d : Del} (h : (E6 d == 0) = true) : (0 ≤ d.runs ∧ d.runs ≤ 7) ∧ (0 ≤ d.short ∧ d.short ≤ d.runs) ∧ (d.boundary = 0 ∨ d.boundary = 4 ∨ d.boundary = 6) := by
 unfold E6 at h
 cases h1 : (iLt d.type 1 || iLt 3 d.type || iLt 3 d.source || iLt 10 d.how || !btw d.sector 0 8) with
 | true => rw [h1] at h; cases h
 | false =>
  cases h2 : (!btw d.runs 0 7 || !btw d.short 0 d.runs || (!(d.boundary == 0) && !(d.boundary == 4) && !(d.boundary == 6))) with
  | true => rw [h1, h2] at h; cases h
  | false =>
   simp only [btw, iLe, Bool.or_eq_false_iff, Bool.not_eq_false', Bool.and_eq_true, Bool.and_eq_false_iff, decide_eq_true_eq, beq_iff_eq] at h2
   omega
structure CreOk (c : Cre) : Prop where
 ba : 0 ≤ c.batter ∧ c.batter ≤ 13
 wi : 0 ≤ c.wides ∧ c.wides ≤ 18
 no : 0 ≤ c.noballs ∧ c.noballs ≤ 5
 bb : 0 ≤ c.byes ∧ c.byes ≤ 13
 lb : 0 ≤ c.legbyes ∧ c.legbyes ≤ 13
 bo : c.bowler = c.batter + c.wides + c.noballs
 tot : C8 c = c.batter + c.wides + c.noballs + c.byes + c.legbyes
theorem f9 {b w o y l bo : Int} {x1 x2 x3 x4 : Bool} (hb : 0 ≤ b ∧ b ≤ 13) (hw : 0 ≤ w ∧ w ≤ 18) (ho : 0 ≤ o ∧ o ≤ 5) (hy : 0 ≤ y ∧ y ≤ 13) (hl : 0 ≤ l ∧ l ≤ 13) (hbo : bo = IntKind.i64.wrap (IntKind.i64.wrap (b + w) + o)) : CreOk ⟨b, w, o, y, l, bo, x1, x2, x3, x4⟩ := by
 refine ⟨hb, hw, ho, hy, hl, ?_, ?_⟩
 ·show bo = b + w + o
  rw [hbo, Az (n := b + w) (by omega) (by omega), Az (by omega) (by omega)]
 ·show IntKind.i64.wrap (IntKind.i64.wrap (IntKind.i64.wrap (IntKind.i64.wrap (b + w) + o) + y) + l) = b + w + o + y + l
  rw [Az (n := b + w) (by omega) (by omega), Az (n := b + w + o) (by omega) (by omega), Az (n := b + w + o + y) (by omega) (by omega), Az (by omega) (by omega)]
def J0 : Cre := ⟨0, 0, 0, 0, 0, 0, false, false, false, false⟩
theorem bz : CreOk J0 := f9 (by decide) (by decide) (by decide) (by decide) (by decide) rfl
theorem gx {r : Rul} (h : RulOk r) (d : Del) : CreOk (AB r d) := by
 unfold AB
 cases hl : E6 d == 0 with
 | false => exact bz
 | true =>
  obtain ⟨⟨a1, a2⟩, ⟨a3, a4⟩, a5⟩ := db hl
  have hw := h.wide
  have hn := h.noball
  have e1 : IntKind.i64.wrap (IntKind.i64.wrap (d.runs - d.short) + d.boundary) = d.runs - d.short + d.boundary := by
   rw [Az (n := d.runs - d.short) (by omega) (by omega), Az (by omega) (by omega)]
  have n0 : 0 ≤ d.runs - d.short + d.boundary ∧ d.runs - d.short + d.boundary ≤ 13 := by omega
  simp only [Bool.not_true, cond_false, Qw, e1]
  generalize d.runs - d.short + d.boundary = n at n0
  have e2 : IntKind.i64.wrap (r.wide + n) = r.wide + n := Az (by omega) (by omega)
  have c13 : ∀ b : Bool, 0 ≤ cond b n 0 ∧ cond b n 0 ≤ 13 := fun b => by cases b <;> simp <;> omega
  refine f9 (c13 _) ?_ ?_ (c13 _) (c13 _) rfl
  ·rw [e2]; cases d.type == 2 <;> simp <;> omega
  ·cases d.type == 3 <;> simp <;> omega
def Ah (r : Rul) (e : Ev) : Cre := cond (e.kind == 4) (AB r e.ball) J0
theorem B9 {r : Rul} (h : RulOk r) (e : Ev) : CreOk (Ah r e) := by
 unfold Ah
 cases e.kind == 4
 ·exact bz
 ·exact gx h _
theorem lN (e : Ev) : 0 ≤ Mq e ∧ Mq e ≤ 1 := by
 unfold Mq DI
 cases e.kind == 4 <;> cases e.ball.how == 0 <;> cases (e.kind == 5 && e.yes || e.kind == 6 && !e.yes) <;> decide
def BS (q : Int) (s : Inn) : Sco := ⟨s.side, s.runs, s.wickets, Cd q s.complete s.inover, s.wides, s.noballs, s.byes, s.legbyes, s.pens, 0⟩
def Mv (r : Rul) (e : Ev) (x : Sco) : Sco := ⟨x.side, x.runs + C8 (Ah r e), x.wickets + Mq e, x.balls + cond (Ah r e).counts 1 0, x.wides + (Ah r e).wides, x.noballs + (Ah r e).noballs, x.byes + (Ah r e).byes, x.legbyes + (Ah r e).legbyes, x.pens, x.ending⟩
def KU (n : Int) (x : Sco) : Sco := ⟨x.side, x.runs + n, x.wickets, x.balls, x.wides, x.noballs, x.byes, x.legbyes, x.pens + n, x.ending⟩
theorem Ct (x : Sco) : KU 0 x = x := by
 obtain ⟨x0, x1, x2, x3, x4, x5, x6, x7, x8, x9⟩ := x
 simp only [KU, Int.add_zero]
theorem WW {r : Rul} {e : Ev} (x : Sco) (hk : (e.kind == 4) = false) : Mv r e x = { x with wickets := x.wickets + DI e } := by
 have c0 : Ah r e = J0 := by unfold Ah; rw [hk]; rfl
 have o0 : Mq e = DI e := by unfold Mq; rw [hk]; rfl
 have t0 : C8 J0 = 0 := rfl
 unfold Mv
 rw [c0, o0, t0]
 simp only [J0, cond_false, Int.add_zero]
theorem QF {r : Rul} {e : Ev} (x : Sco) (hk : (e.kind == 4) = false) (ho : DI e = 0) : Mv r e x = x := by
 rw [WW x hk, ho, Int.add_zero]
theorem kw {r : Rul} {s : Inn} (ok : InnOk r s) : 0 ≤ s.wickets ∧ s.wickets ≤ 11 := by
 have h := ok.bat
 unfold U4 at h
 simp only [Bool.and_eq_true] at h
 have h1 := beq_iff_eq.1 h.2.2
 have h2 := aY (pIs s.batters 2) s.batters.length
 have h3 := (Ew ok.code).side
 have h4 := ok.lb
 unfold Wg at h1
 omega
theorem mA {c q : Int} (hc : 0 ≤ c ∧ c ≤ 1000000000) (hq : 0 ≤ q ∧ q ≤ 8) : 0 ≤ c * q ∧ c * q ≤ 8000000000 := by
 refine ⟨Int.mul_nonneg hc.1 hq.1, ?_⟩
 have h1 := Int.mul_le_mul_of_nonneg_right hc.2 hq.1
 have h2 := Int.mul_le_mul_of_nonneg_left hq.2 (show (0 : Int) ≤ 1000000000 by omega)
 omega
theorem iU {r : Rul} {s : Inn} (ok : InnOk r s) : Cd r.balls s.complete s.inover = s.complete * r.balls + s.inover ∧ 0 ≤ Cd r.balls s.complete s.inover ∧ Cd r.balls s.complete s.inover ≤ 9000000000 := by
 have h1 := (Ew ok.code).balls
 have h2 := ok.io
 have h3 := mA ok.complete (show 0 ≤ r.balls ∧ r.balls ≤ 8 by omega)
 rw [PQ]
 have : wr (s.complete * r.balls + s.inover) = s.complete * r.balls + s.inover := Az (by omega) (by omega)
 rw [this]
 omega
theorem lw {x a d : Int} (h : wr (x - a) = d) (hx : wr x = x) (ha : 0 ≤ a ∧ a ≤ 9000000000) (hd : 0 ≤ d ∧ d ≤ 1000) : x = a + d := by
 simp only [wr, Md] at h hx
 omega
theorem jq (q : Int) (r : Rul) (t : Inn) (b : Bool) : BS q (Bf r t b) = BS q t := rfl
theorem im {r : Rul} {s : Inn} {e : Ev} (hk : (e.kind == 4) = true) (h : ((Al r s e).2 == 0) = true) : BS r.balls (Al r s e).1 = Mv r e (BS r.balls s) := by
 obtain ⟨g1, g2, g3, g4, g5, g6, g7, g8, g9, g10⟩ := fX hk h
 obtain ⟨hv, he, hn, hw, hp, hs⟩ := YY h
 have ok := NJ.1 hv
 have rk := Ew ok.code
 have co := gx rk e.ball
 have k4 := beq_iff_eq.1 hk
 have hpb : B3 r s e = Lb r s e.ball := by unfold B3; rw [k4]; rfl
 rw [hpb] at hp hs
 obtain ⟨hr, hb⟩ := du hp
 obtain ⟨q1, q2, q3, q4, q5, q6⟩ := Y7 hr
 have ce : Ah r e = AB r e.ball := by unfold Ah; rw [hk]; rfl
 have od : Mq e = cond (e.ball.how == 0) 0 1 := by unfold Mq; rw [hk]; rfl
 have hx := iU ok
 have r0 := ok.runs
 have w0 := ok.wides
 have n0 := ok.noballs
 have b0 := ok.byes
 have l0 := ok.legbyes
 have wk := kw ok
 unfold Bh at r0 w0 n0 b0 l0
 have f0 := co.ba
 have f1 := co.wi
 have f2 := co.no
 have f3 := co.bb
 have f4 := co.lb
 have f5 := co.tot
 rw [hs, hb] at g1 g7 g8 ⊢
 have e1 : (Bf r (Hd r s e.ball) (e.kind == 4)).runs = IntKind.i64.wrap (s.runs + C8 (AB r e.ball)) := rfl
 have e2 : (Bf r (Hd r s e.ball) (e.kind == 4)).wides = IntKind.i64.wrap (s.wides + (AB r e.ball).wides) := rfl
 have e3 : (Bf r (Hd r s e.ball) (e.kind == 4)).noballs = IntKind.i64.wrap (s.noballs + (AB r e.ball).noballs) := rfl
 have e4 : (Bf r (Hd r s e.ball) (e.kind == 4)).byes = IntKind.i64.wrap (s.byes + (AB r e.ball).byes) := rfl
 have e5 : (Bf r (Hd r s e.ball) (e.kind == 4)).legbyes = IntKind.i64.wrap (s.legbyes + (AB r e.ball).legbyes) := rfl
 have e6 : (Bf r (Hd r s e.ball) (e.kind == 4)).side = s.side ∧ (Bf r (Hd r s e.ball) (e.kind == 4)).pens = s.pens ∧ (Bf r (Hd r s e.ball) (e.kind == 4)).wickets = (Ad s e.ball).wickets := by
  obtain ⟨w1, w2⟩ := dc r (Ad s e.ball) (AB r e.ball).counts
  obtain ⟨k1, k2, k3, k4, k5, k6, k7, k8, k9, k10⟩ := WV s e.ball
  have w3 : (Aj r (Ad s e.ball) (AB r e.ball).counts).1.side = s.side := by
   have s1 : (Ad s e.ball).side = s.side := by
    unfold Ad
    cases (!(e.ball.runs.tmod 2 == 0) != e.ball.crossed) <;> exact P_c (P := fun x : Inn => x.side = s.side) _ _ _ rfl (P_c (P := fun x : Inn => x.side = s.side) _ _ _ rfl rfl)
   unfold Aj
   exact P_c (P := fun x : Inn × Bool => x.1.side = s.side) _ _ _ s1 (P_c (P := fun x : Inn × Bool => x.1.side = s.side) _ _ _ s1 s1)
  refine ⟨?_, ?_, ?_⟩
  ·show (cond (Aj r (Ad s e.ball) (AB r e.ball).counts).2 (HU (Aj r (Ad s e.ball) (AB r e.ball).counts).1) (Aj r (Ad s e.ball) (AB r e.ball).counts).1).side = _
   rw [← w3]
   cases (Aj r (Ad s e.ball) (AB r e.ball).counts).2 <;> rfl
  ·show (cond (Aj r (Ad s e.ball) (AB r e.ball).counts).2 (HU (Aj r (Ad s e.ball) (AB r e.ball).counts).1) (Aj r (Ad s e.ball) (AB r e.ball).counts).1).pens = _
   rw [← k6, ← w2]
   cases (Aj r (Ad s e.ball) (AB r e.ball).counts).2 <;> rfl
  ·show (cond (Aj r (Ad s e.ball) (AB r e.ball).counts).2 (HU (Aj r (Ad s e.ball) (AB r e.ball).counts).1) (Aj r (Ad s e.ball) (AB r e.ball).counts).1).wickets = _
   rw [← w1]
   cases (Aj r (Ad s e.ball) (AB r e.ball).counts).2 <;> rfl
 obtain ⟨z1, z2⟩ := aE q1 (bn hw (by rw [k4]; rfl))
 have hout := dq (d := e.ball) z1 z2 (fun hd => V5 q5 hd)
 have wv : IntKind.i64.wrap (Cd r.balls (Bf r (Hd r s e.ball) (e.kind == 4)).complete (Bf r (Hd r s e.ball) (e.kind == 4)).inover) = Cd r.balls (Bf r (Hd r s e.ball) (e.kind == 4)).complete (Bf r (Hd r s e.ball) (e.kind == 4)).inover := Gb _
 have hb7 := lw g7 wv (by omega) (by cases (AB r e.ball).counts <;> simp)
 unfold BS Mv
 rw [e1, e2, e3, e4, e5, e6.1, e6.2.1, e6.2.2, hb7, ce, od, hout]
 have i1 : IntKind.i64.wrap (s.runs + C8 (AB r e.ball)) = s.runs + C8 (AB r e.ball) := Az (by omega) (by omega)
 have i2 : IntKind.i64.wrap (s.wides + (AB r e.ball).wides) = s.wides + (AB r e.ball).wides := Az (by omega) (by omega)
 have i3 : IntKind.i64.wrap (s.noballs + (AB r e.ball).noballs) = s.noballs + (AB r e.ball).noballs := Az (by omega) (by omega)
 have i4 : IntKind.i64.wrap (s.byes + (AB r e.ball).byes) = s.byes + (AB r e.ball).byes := Az (by omega) (by omega)
 have i5 : IntKind.i64.wrap (s.legbyes + (AB r e.ball).legbyes) = s.legbyes + (AB r e.ball).legbyes := Az (by omega) (by omega)
 have i6 : inc s.wickets = s.wickets + 1 := Az (by omega) (by omega)
 rw [i1, i2, i3, i4, i5, i6]
 cases e.ball.how == 0 with
 | false => rfl
 | true => simp only [cond_true, Int.add_zero]
def Kz (q : Int) (s : Inn) (x : Inn × Int) : Prop := (x.2 == 0) = true → BS q x.1 = BS q s
theorem DP {q : Int} {s : Inn} (b : Bool) (x y : Inn × Int) (hx : Kz q s x) (hy : Kz q s y) : Kz q s (cond b x y) := by cases b <;> assumption
theorem bu {r : Rul} {s : Inn} {e : Ev} (h : ((Al r s e).2 == 0) = true) : BS r.balls (Al r s e).1 = KU (cond (e.kind == 13 && e.side == s.side) 5 0) (Mv r e (BS r.balls s)) := by
 cases hk : e.kind == 4 with
 | true =>
  rw [im hk h, beq_iff_eq.1 hk]
  exact (Ct _).symm
 | false =>
  obtain ⟨hv, he, hn, hw, hp, hs⟩ := YY h
  have ok := NJ.1 hv
  have wk := kw ok
  have iw : IntKind.i64.wrap (s.wickets + 1) = s.wickets + 1 := Az (by omega) (by omega)
  rw [hs, jq, WW _ hk]
  have z : ∀ {x : Inn × Int}, Kz r.balls s x → (x.2 == 0) = true → DI e = 0 → BS r.balls x.1 = KU (cond (false && e.side == s.side) 5 0) { BS r.balls s with wickets := (BS r.balls s).wickets + DI e } := fun k hx h0 => by
   rw [k hx, h0, Int.add_zero]
   exact (Ct _).symm
  have kn : ∀ {t : Inn} {n : Int}, (n == 0) = false → Kz r.balls s (t, n) := fun hn hx => by rw [hn] at hx; cases hx
  have ks : ∀ {n : Int}, Kz r.balls s (s, n) := fun _ => rfl
  revert hp
  unfold B3
  rw [hk]
  cases h5 : e.kind == 5 with
  | true =>
   have h5' := beq_iff_eq.1 h5
   have ho : DI e = cond e.yes 1 0 := by unfold DI; rw [h5']; cases e.yes <;> rfl
   rw [ho, h5']
   cases e.yes with
   | false =>
    intro hp
    refine Eq.trans (b := BS r.balls s) ?_ ?_
    ·exact (show Kz r.balls s (Ni s e.player) by unfold Ni; exact DP _ _ _ (fun _ => rfl) (fun _ => rfl)) hp
    ·simp only [cond_false, Int.add_zero]; exact (Ct _).symm
   | true =>
    intro hp
    change ((Gr s e.player).2 == 0) = true at hp
    show BS r.balls (Gr s e.player).1 = _
    unfold Gr at hp ⊢
    cases hm : MS s e.player == 0 with
    | false => rw [hm] at hp; exact absurd (show (MS s e.player == 0) = true from hp) (by rw [hm]; decide)
    | true =>
     simp only [cond_true]
     unfold BS KU
     simp only [iw, cond_true, Int.reduceBEq, Bool.false_and, cond_false, Int.add_zero]
  | false =>
   cases h6 : e.kind == 6 with
   | true =>
    have h6' := beq_iff_eq.1 h6
    have ho : DI e = cond e.yes 0 1 := by unfold DI; rw [h6']; cases e.yes <;> rfl
    rw [ho, h6']
    intro hp
    change ((Ik s e.player e.yes).2 == 0) = true at hp
    show BS r.balls (Ik s e.player e.yes).1 = _
    unfold Ik at hp ⊢
    cases hm1 : (!inR e.player s.batters.length) with
    | true => rw [hm1] at hp; cases hp
    | false =>
     cases hm2 : (s.striker == 0 || s.other == 0) with
     | true => rw [hm1, hm2] at hp; cases hp
     | false =>
      cases hm3 : (!(e.player == s.striker) && !(e.player == s.other)) with
      | true => rw [hm1, hm2, hm3] at hp; cases hp
      | false =>
       cases hm4 : (e.yes && ((D4 s.batters s.batters.length).length : Int) == 0) with
       | true => rw [hm1, hm2, hm3, hm4] at hp; cases hp
       | false =>
        simp only [cond_false]
        cases e.yes with
        | true => unfold BS KU; simp only [cond_true, Int.reduceBEq, Bool.false_and, cond_false, Int.add_zero]
        | false => unfold BS KU; simp only [iw, cond_false, Int.reduceBEq, Bool.false_and, Int.add_zero]
   | false =>
    have ho : DI e = 0 := by unfold DI; rw [h5, h6]; rfl
    cases h13 : e.kind == 13 with
    | true =>
     have k13 := beq_iff_eq.1 h13
     rw [k13, ho]
     intro hp
     change ((Gi s e.side e.runs).2 == 0) = true at hp
     show BS r.balls (Gi s e.side e.runs).1 = _
     have rn := ok.runs
     have pn := ok.pens
     unfold Bh at rn pn
     have i1 : IntKind.i64.wrap (s.runs + 5) = s.runs + 5 := Az (by omega) (by omega)
     have i2 : IntKind.i64.wrap (s.pens + 5) = s.pens + 5 := Az (by omega) (by omega)
     unfold Gi at hp ⊢
     cases hr5 : e.runs == 5 with
     | false => rw [hr5] at hp; cases hp
     | true =>
      cases hsd : e.side == s.side with
      | true =>
       simp only [Bool.not_true, cond_false, cond_true]
       unfold BS KU N0
       simp only [i1, i2, Bool.and_self, cond_true, Int.reduceBEq, Bool.true_and, Int.add_zero]
      | false =>
       simp only [Bool.not_true, cond_false, Bool.and_false, Int.add_zero]
       exact (Ct _).symm
    | false =>
     simp only [cond_false]
     intro hp
     refine z ?_ hp ho
     refine DP _ _ _ ?_ (DP _ _ _ ?_ (DP _ _ _ ?_ (DP _ _ _ ?_ (DP _ _ _ ?_ (DP _ _ _ ?_ (DP _ _ _ ?_ (DP _ _ _ ?_ ?_)))))))
     ·unfold SG
      exact DP _ _ _ ks (DP _ _ _ ks (DP _ _ _ ks (fun _ => rfl)))
     ·unfold ST
      cases Mo r s e.player == 0
      ·exact ks
      ·exact fun _ => rfl
     ·unfold KP
      exact DP _ _ _ ks (fun _ => rfl)
     ·unfold MX
      exact DP _ _ _ ks (DP _ _ _ ks (DP _ _ _ ks (fun _ => rfl)))
     ·unfold PA
      exact DP _ _ _ ks (DP _ _ _ ks (fun _ => rfl))
     ·unfold KI
      exact DP _ _ _ ks (fun _ => rfl)
     ·unfold KJ
      exact DP _ _ _ ks (DP _ _ _ ks (fun _ => rfl))
     ·unfold Kj
      exact DP _ _ _ ks (DP _ _ _ (fun _ => rfl) ks)
     ·unfold MY
      exact DP _ _ _ ks (DP _ _ _ ks (DP _ _ _ ks (fun _ => rfl)))
end Go.Px
end
section
namespace Go.Px
set_option maxRecDepth 100000
def sco (xs : List Sco) (i : Nat) : Sco := xs.getD i ⟨0, 0, 0, 0, 0, 0, 0, 0, 0, 0⟩
theorem GV (xs : List Sco) (i : Nat) : sco xs i = (match xs[i]? with | some s => s | none => ⟨0, 0, 0, 0, 0, 0, 0, 0, 0, 0⟩) := by
 unfold sco
 rw [List.getD_eq_getElem?_getD]
 cases xs[i]? <;> rfl
theorem Yi (xs : List Sco) (k : Nat) (s : Sco) (i : Nat) (hi : i < xs.length) : sco (xs.set k s) i = (if k = i then s else sco xs i) := by
 rw [GV, GV, List.getElem?_set]
 by_cases h : k = i
 ·subst h
  rw [if_pos rfl, if_pos rfl, if_pos hi]
 ·rw [if_neg h, if_neg h]
structure TS where
 xs : List Sco
 p1 : Int
 p2 : Int
 first : Int
 follow : Bool
def KC (m : Mat) : TS := ⟨m.inns.map (BS m.rules.balls), m.pen1, m.pen2, m.first, m.follow⟩
theorem R2 (q : Int) (xs : List Inn) {i : Nat} (h : i < xs.length) : sco (xs.map (BS q)) i = BS q (inn xs i) := by
 rw [GV, Lp, List.getElem?_map, List.getElem?_eq_getElem h]
 rfl
theorem jC (q : Int) (xs : List Inn) (i : Nat) : (sco (xs.map (BS q)) i).side = (inn xs i).side := by
 rw [GV, Lp, List.getElem?_map]
 cases xs[i]? <;> rfl
def jU (first : Int) (follow : Bool) (i : Int) : Int := cond (cond (follow && iLe 2 i) (i == 2) (i.tmod 2 == 1)) (BZ first) first
theorem ei (m : Mat) (i : Int) : Cg m i = jU m.first m.follow i := rfl
def gK (sd p : Int) : Sco := ⟨sd, p, 0, 0, 0, 0, 0, 0, p, 0⟩
def Dk (sd : Nat → Int) (s : Int) : Nat → Option Nat
 | 0 => none
 | k + 1 => cond (sd k == s) (some k) (Dk sd s k)
theorem YG {f g : Nat → Int} {s : Int} : ∀ n, (∀ k, k < n → f k = g k) → Dk f s n = Dk g s n
 | 0, _ => rfl
 | n + 1, h => by
  unfold Dk
  rw [h n (Nat.lt_succ_self n), YG n (fun k hk => h k (by omega))]
theorem UU {f : Nat → Int} {s : Int} {j : Nat} : ∀ n, Dk f s n = some j → j < n ∧ f j = s
 | 0, h => by cases h
 | n + 1, h => by
  unfold Dk at h
  cases hq : f n == s with
  | true =>
   rw [hq] at h
   cases h
   exact ⟨Nat.lt_succ_self _, beq_iff_eq.1 hq⟩
  | false =>
   rw [hq] at h
   obtain ⟨h1, h2⟩ := UU n h
   exact ⟨by omega, h2⟩
theorem eI (xs : List Inn) (sd : Int) : ∀ n, LI xs sd n = Dk (fun k => (inn xs k).side) sd n
 | 0 => rfl
 | n + 1 => by
  unfold LI Dk
  rw [eI xs sd n]
def jf (T : TS) : TS :=
 let sd := jU T.first T.follow (T.xs.length : Int)
 { T with xs := T.xs ++ [gK sd (cond (sd == 2) T.p2 T.p1)], p1 := cond (sd == 1) 0 T.p1, p2 := cond (sd == 2) 0 T.p2 }
def WB (s : Int) (T : TS) : TS := match Dk (fun k => (sco T.xs k).side) s T.xs.length with
 | some k => { T with xs := T.xs.set k (KU 5 (sco T.xs k)) }
 | none => { T with p1 := cond (s == 1) (T.p1 + 5) T.p1, p2 := cond (s == 2) (T.p2 + 5) T.p2 }
def jT (r : Rul) (e : Ev) (T : TS) : TS := { T with xs := T.xs.set (T.xs.length - 1) (Mv r e (sco T.xs (T.xs.length - 1))) }
def PN (e : Ev) : Int := cond e.yes e.side (BZ e.side)
def Ss (r : Rul) (e : Ev) (T : TS) : TS :=
 cond (e.kind == 1) { T with first := PN e } (cond (e.kind == 2) (jf T) (cond (e.kind == 12) { T with follow := e.yes } (cond (e.kind == 16) T (cond (e.kind == 13) (WB e.side T) (jT r e T)))))
theorem fx (x : Mat) : KC (B0 x) = KC x ∧ (B0 x).inns = x.inns ∧ ((B0 x).stage = x.stage ∨ (x.stage = 3 ∧ ((B0 x).stage = 5 ∨ ((B0 x).stage = 4 ∧ x.inns.length = 2) ∨ (B0 x).stage = 2))) := by
 unfold B0
 cases h3 : (x.stage == 3 && !((Ao x).ending == 0)) with
 | false => exact ⟨rfl, rfl, Or.inl rfl⟩
 | true =>
  rw [Bool.and_eq_true] at h3
  have s3 := beq_iff_eq.1 h3.1
  simp only [cond_true]
  unfold O5
  dsimp only
  cases ((x.inns.length : Int) == IntKind.i64.wrap (2 * x.rules.innings) || ((x.inns.length : Int) == 3 && iLt (Bx x (Ao x).side) (Bx x (BZ (Ao x).side)))) with
  | true => exact ⟨rfl, rfl, Or.inr ⟨s3, Or.inl rfl⟩⟩
  | false =>
   cases h4 : ((x.inns.length : Int) == 2 && iLt 0 x.rules.followon && iLe x.rules.followon (IntKind.i64.wrap (Bx x x.first - Bx x (BZ x.first)))) with
   | true =>
    simp only [Bool.and_eq_true, beq_iff_eq] at h4
    exact ⟨rfl, rfl, Or.inr ⟨s3, Or.inr (Or.inl ⟨rfl, by omega⟩)⟩⟩
   | false => exact ⟨rfl, rfl, Or.inr ⟨s3, Or.inr (Or.inr rfl)⟩⟩
theorem Xr {m : Mat} (h : Fc m = true) : (0 ≤ m.pen1 ∧ m.pen1 ≤ 1000000) ∧ (0 ≤ m.pen2 ∧ m.pen2 ≤ 1000000) ∧ ((m.stage == 1) = true → m.first = 0) ∧ ((m.stage == 4) = true → m.inns.length = 2) ∧ 0 ≤ m.first ∧ m.first ≤ 2 := by
 unfold Fc Z0 at h
 simp only [Bool.and_eq_true, Bool.not_eq_true'] at h
 obtain ⟨⟨h1, h2, h3, h4, h5, h6, h7, h8, h9, h10⟩, h11, h12⟩ := h
 unfold XG at h4
 simp only [Bool.or_eq_false_iff, iLt, decide_eq_false_iff_not] at h4
 simp only [Bool.or_eq_false_iff, iLt, decide_eq_false_iff_not] at h5
 refine ⟨by omega, by omega, fun hs => ?_, fun hs => ?_, by omega, by omega⟩
 ·rw [hs, Bool.true_and, Bool.not_eq_false', beq_iff_eq] at h7
  exact h7
 ·rw [hs, Bool.true_and, Bool.or_eq_false_iff, Bool.not_eq_false', Bool.not_eq_false', beq_iff_eq, beq_iff_eq] at h9
  omega
theorem gD {r : Rul} {a b c : Int} (h : ((CL r a b c).2 == 0) = true) : BS r.balls (CL r a b c).1 = gK a c ∧ (a = 1 ∨ a = 2) := by
 unfold CL at h ⊢
 cases h1 : BA r == 0 with
 | false => rw [h1] at h; exact absurd (show (BA r == 0) = true from h) (by rw [h1]; decide)
 | true =>
  cases h2 : (!btw a 1 2 || !btw b 0 1000000 || !btw c 0 1000000) with
  | true => rw [h1, h2] at h; cases h
  | false =>
   rw [Bool.or_eq_false_iff, Bool.or_eq_false_iff, Bool.not_eq_false'] at h2
   have := R5.1 h2.1.1
   refine ⟨?_, by omega⟩
   show Sco.mk a c 0 (Cd r.balls 0 0) 0 0 0 0 c 0 = _
   rw [PQ, Int.zero_mul]
   rfl
theorem Jl (q : Int) (xs : List Inn) (k : Nat) (t : Inn) : (xs.set k t).map (BS q) = (xs.map (BS q)).set k (BS q t) := List.map_set
theorem cl (xs : List Sco) (k : Nat) (h : k < xs.length) : xs.set k (sco xs k) = xs := by
 apply List.ext_getElem?
 intro i
 rw [List.getElem?_set]
 by_cases e : k = i
 ·subst e
  rw [if_pos rfl, if_pos h, GV, List.getElem?_eq_getElem h]
 ·rw [if_neg e]
theorem kJ {r : Rul} {s : Inn} (hv : F1 r s = true) (q : Int) : BS q (N0 s) = KU 5 (BS q s) := by
 have ok := NJ.1 hv
 have rn := ok.runs
 have pn := ok.pens
 unfold Bh at rn pn
 have i1 : IntKind.i64.wrap (s.runs + 5) = s.runs + 5 := Az (by omega) (by omega)
 have i2 : IntKind.i64.wrap (s.pens + 5) = s.pens + 5 := Az (by omega) (by omega)
 unfold BS KU N0
 simp only [i1, i2]
structure Stg (m : Mat) (e : Ev) (t : Mat) : Prop where
 k1 : (e.kind == 1) = true → m.stage = 1 ∧ t.stage = 2
 k2 : (e.kind == 2) = true → m.stage = 2 ∧ m.inns.length ≤ 3
 k12 : (e.kind == 12) = true → m.stage = 4 ∧ m.inns.length = 2 ∧ t.stage = 2
 k16 : (e.kind == 16) = true → t.stage = 5
 play : (e.kind == 1) = false → (e.kind == 2) = false → (e.kind == 12) = false → (e.kind == 16) = false → m.stage = 3 ∧ 1 ≤ m.inns.length
 not1 : ¬ t.stage = 1
 four : t.stage = 4 → t.inns.length = 2
set_option maxHeartbeats 4000000 in
theorem aQ {m : Mat} {e : Ev} (h : ((DE m e).2 == 0) = true) : KC (DE m e).1 = Ss m.rules e (KC m) ∧ Stg m e (DE m e).1 := by
 obtain ⟨hv, he, h5, hp, hs⟩ := Wn h
 have ok := UJ hv
 obtain ⟨v1, v2, v3, v4, v5, v6⟩ := Xr hv
 obtain ⟨c1, c2, c3⟩ := fx (Hc m e).1
 rw [hs, c1]
 have len4 := ok.len
 unfold Ss
 unfold Hc at hp c2 c3 ⊢
 cases k1 : e.kind == 1 with
 | true =>
  have e1 := beq_iff_eq.1 k1
  rw [k1] at hp c2 c3
  cases s1 : m.stage == 1 with
  | false => rw [s1] at hp; cases hp
  | true =>
   rw [s1] at c2 c3
   simp only [Bool.not_true, cond_false, cond_true] at c2 c3 ⊢
   refine ⟨rfl, ?_⟩
   have st : (B0 { m with first := cond e.yes e.side (BZ e.side), stage := 2 }).stage = 2 := by
    rcases c3 with c3 | c3
    ·exact c3
    ·exact absurd c3.1 (by decide)
   exact ⟨fun _ => ⟨beq_iff_eq.1 s1, st⟩, fun k => (by rw [e1] at k; cases k), fun k => (by rw [e1] at k; cases k), fun k => (by rw [e1] at k; cases k), fun k => (by rw [e1] at k; cases k), by rw [st]; decide, (by rw [st]; intro k; cases k)⟩
 | false =>
  rw [k1] at hp c2 c3
  cases k2 : e.kind == 2 with
  | true =>
   have e2 := beq_iff_eq.1 k2
   rw [k2] at hp c2 c3
   cases s2 : m.stage == 2 with
   | false => rw [s2] at hp; cases hp
   | true =>
    rw [s2] at hp c2 c3
    simp only [Bool.not_true, cond_false, cond_true] at hp c2 c3 ⊢
    have room := ok.room s2
    have inn2 := (Ew ok.code).innings
    unfold W1 at hp c2 c3 ⊢
    cases hb : (CL m.rules (Cg m (m.inns.length : Int)) (GN m (Cg m (m.inns.length : Int))) (cond (Cg m (m.inns.length : Int) == 2) m.pen2 m.pen1)).2 == 0 with
    | false => simp only [hb, Bool.not_false, cond_true] at hp; cases hp
    | true =>
     simp only [hb, Bool.not_true, cond_false] at hp c2 c3 ⊢
     cases ht : (Al m.rules (CL m.rules (Cg m (m.inns.length : Int)) (GN m (Cg m (m.inns.length : Int))) (cond (Cg m (m.inns.length : Int) == 2) m.pen2 m.pen1)).1 e).2 == 0 with
     | false => simp only [ht, Bool.not_false, cond_true] at hp; exact absurd hp Bool.false_ne_true
     | true =>
      simp only [ht, Bool.not_true, cond_false] at c2 c3 ⊢
      have n1 := bu ht
      have o0 : DI e = 0 := by unfold DI; rw [e2]; rfl
      rw [QF _ (by rw [e2]; rfl) o0, e2] at n1
      have n2 := n1.trans (Ct _)
      rw [(gD hb).1] at n2
      refine ⟨?_, ?_⟩
      ·unfold KC jf
       rw [← ei] at *
       simp only [List.map_append, List.map_cons, List.map_nil, n2, List.length_map]
      ·refine ⟨fun k => (by rw [k1] at k; cases k), fun _ => ⟨beq_iff_eq.1 s2, by omega⟩, fun k => (by rw [e2] at k; cases k), fun k => (by rw [e2] at k; cases k), fun _ k => (by rw [k2] at k; cases k), ?_, ?_⟩
       ·rcases c3 with c3 | ⟨_, c3 | c3 | c3⟩
        ·rw [c3]; decide
        ·rw [c3]; decide
        ·rw [c3.1]; decide
        ·rw [c3]; decide
       ·intro k
        rw [c2]
        rcases c3 with c3 | ⟨_, c3 | c3 | c3⟩
        ·rw [c3] at k; cases k
        ·rw [c3] at k; cases k
        ·exact c3.2
        ·rw [c3] at k; cases k
  | false =>
   rw [k2] at hp c2 c3
   cases k12 : e.kind == 12 with
   | true =>
    have e12 := beq_iff_eq.1 k12
    rw [k12] at hp c2 c3
    cases s4 : m.stage == 4 with
    | false => rw [s4] at hp; cases hp
    | true =>
     rw [s4] at hp c2 c3
     cases sf : e.side == m.first with
     | false => rw [sf] at hp; cases hp
     | true =>
      rw [sf] at c2 c3
      simp only [Bool.not_true, cond_false, cond_true] at c2 c3 ⊢
      refine ⟨rfl, ?_⟩
      have st : (B0 { m with follow := e.yes, stage := 2 }).stage = 2 := by
       rcases c3 with c3 | c3
       ·exact c3
       ·exact absurd c3.1 (by decide)
      exact ⟨fun k => (by rw [k1] at k; cases k), fun k => (by rw [k2] at k; cases k), fun _ => ⟨beq_iff_eq.1 s4, v4 s4, st⟩, fun k => (by rw [e12] at k; cases k), fun _ _ k => (by rw [k12] at k; cases k), by rw [st]; decide, (by rw [st]; intro k; cases k)⟩
   | false =>
    rw [k12] at hp c2 c3
    cases k16 : e.kind == 16 with
    | true =>
     rw [k16] at hp c2 c3
     simp only [cond_false, cond_true] at c2 c3 ⊢
     have st : (B0 (XP m)).stage = 5 := by
      rcases c3 with c3 | c3
      ·exact c3
      ·exact absurd c3.1 (by show ¬ ((5 : Int) = 3); decide)
     refine ⟨?_, ⟨fun k => (by rw [k1] at k; cases k), fun k => (by rw [k2] at k; cases k), fun k => (by rw [k12] at k; cases k), fun _ => st, fun _ _ _ k => (by rw [k16] at k; cases k), by rw [st]; decide, (by rw [st]; intro k; cases k)⟩⟩
     unfold KC XP
     simp only
     cases s3 : m.stage == 3 with
     | false => rfl
     | true =>
      have hl := Uq (ok.begun s3) (by omega)
      simp only [cond_true, Jl]
      rw [show BS m.rules.balls { Ao m with ending := 5 } = sco (m.inns.map (BS m.rules.balls)) (lnx m.inns) from (R2 _ _ hl).symm, cl _ _ (by rw [List.length_map]; exact hl)]
    | false =>
     rw [k16] at hp c2 c3
     simp only [cond_false] at hp c2 c3 ⊢
     cases s3 : m.stage == 3 with
     | false => rw [s3] at hp; exact absurd (show ((1 : Int) == 0) = true from hp) (by decide)
     | true =>
      rw [s3] at hp c2 c3
      simp only [Bool.not_true, cond_false] at hp c2 c3 ⊢
      have h0 := ok.begun s3
      have hl := Uq h0 (by omega)
      have hlen : m.inns.length - 1 = lnx m.inns := by
       rw [beq_eq_false_iff_ne] at h0
       unfold lnx
       rw [DQ (by omega) (by omega)]
       omega
      have stg : (B0 (Fa m e).1).inns.length = m.inns.length → ((B0 (Fa m e).1).stage = 3 ∨ ((B0 (Fa m e).1).stage = 5 ∨ ((B0 (Fa m e).1).stage = 4 ∧ m.inns.length = 2) ∨ (B0 (Fa m e).1).stage = 2)) → Stg m e (B0 (Fa m e).1) := fun hn hq =>
       ⟨fun k => (by rw [k1] at k; cases k), fun k => (by rw [k2] at k; cases k), fun k => (by rw [k12] at k; cases k), fun k => (by rw [k16] at k; cases k), fun _ _ _ _ => ⟨beq_iff_eq.1 s3, by omega⟩, by
        rcases hq with q | q | q | q
        ·rw [q]; decide
        ·rw [q]; decide
        ·rw [q.1]; decide
        ·rw [q]; decide, by
        intro k
        rw [hn]
        rcases hq with q | q | q | q
        ·rw [q] at k; cases k
        ·rw [q] at k; cases k
        ·exact q.2
        ·rw [q] at k; cases k⟩
      have xl : (m.inns.map (BS m.rules.balls)).length = m.inns.length := List.length_map _
      cases hq : (Al m.rules (Ao m) e).2 == 0 with
      | false => unfold Fa at hp; simp only [hq, Bool.not_false, cond_true] at hp; exact absurd hp Bool.false_ne_true
      | true =>
       have n1 := bu hq
       have sd1 : (Al m.rules (Ao m) e).1.side = (Ao m).side := congrArg Sco.side n1
       have s3' := beq_iff_eq.1 s3
       cases k13 : e.kind == 13 with
       | false =>
        rw [k13] at n1
        have n2 := n1.trans (Ct _)
        have pm : Fa m e = ({ m with inns := m.inns.set (lnx m.inns) (Al m.rules (Ao m) e).1 }, 0) := by
         unfold Fa
         simp only [hq, k13, Bool.not_true, Bool.false_and, cond_false]
        rw [pm] at c2 c3 stg ⊢
        refine ⟨?_, stg (by rw [c2]; exact List.length_set) ?_⟩
        ·unfold KC jT
         simp only [cond_false, Jl, n2, xl, hlen, R2 _ _ hl]
         rfl
        ·rcases c3 with c3 | ⟨_, c3 | c3 | c3⟩
         ·exact Or.inl (c3.trans s3')
         ·exact Or.inr (Or.inl c3)
         ·exact Or.inr (Or.inr (Or.inl ⟨c3.1, by have := c3.2; change (m.inns.set _ _).length = 2 at this; rw [List.length_set] at this; exact this⟩))
         ·exact Or.inr (Or.inr (Or.inr c3))
       | true =>
        have e13 := beq_iff_eq.1 k13
        have o0 : DI e = 0 := by unfold DI; rw [e13]; rfl
        rw [QF _ (by rw [e13]; rfl) o0, k13, Bool.true_and] at n1
        have bk : Dk (fun k => (sco (m.inns.map (BS m.rules.balls)) k).side) e.side m.inns.length = cond (e.side == (Ao m).side) (some (lnx m.inns)) (Dk (fun k => (inn m.inns k).side) e.side (lnx m.inns)) := by
         have : m.inns.length = lnx m.inns + 1 := by omega
         rw [this]
         show cond ((sco (m.inns.map (BS m.rules.balls)) (lnx m.inns)).side == e.side) _ (Dk (fun k => (sco (m.inns.map (BS m.rules.balls)) k).side) e.side (lnx m.inns)) = _
         simp only [jC]
         have sy : ((inn m.inns (lnx m.inns)).side == e.side) = (e.side == (Ao m).side) := by
          show ((Ao m).side == e.side) = _
          rw [Bool.eq_iff_iff, beq_iff_eq, beq_iff_eq]
          exact eq_comm
         rw [sy]
        cases hsd : e.side == (Ao m).side with
        | true =>
         rw [hsd] at n1 bk
         simp only [cond_true] at n1 bk
         have pm : Fa m e = ({ m with inns := m.inns.set (lnx m.inns) (Al m.rules (Ao m) e).1 }, 0) := by
          unfold Fa
          simp only [hq, k13, sd1, hsd, Bool.not_true, Bool.and_false, cond_false]
         rw [pm] at c2 c3 stg ⊢
         refine ⟨?_, stg (by rw [c2]; exact List.length_set) ?_⟩
         ·unfold KC WB
          simp only [cond_true, Jl, n1, xl, bk, R2 _ _ hl]
          rfl
         ·rcases c3 with c3 | ⟨_, c3 | c3 | c3⟩
          ·exact Or.inl (c3.trans s3')
          ·exact Or.inr (Or.inl c3)
          ·exact Or.inr (Or.inr (Or.inl ⟨c3.1, by have := c3.2; change (m.inns.set _ _).length = 2 at this; rw [List.length_set] at this; exact this⟩))
          ·exact Or.inr (Or.inr (Or.inr c3))
        | false =>
         rw [hsd] at n1 bk
         simp only [cond_false] at n1 bk
         have n2 := n1.trans (Ct _)
         have pm : Fa m e = (HB { m with inns := m.inns.set (lnx m.inns) (Al m.rules (Ao m) e).1 } e.side, 0) := by
          unfold Fa
          simp only [hq, k13, sd1, hsd, Bool.not_true, Bool.not_false, Bool.and_true, cond_true, cond_false]
         have ab : LI (m.inns.set (lnx m.inns) (Al m.rules (Ao m) e).1) e.side (m.inns.set (lnx m.inns) (Al m.rules (Ao m) e).1).length = Dk (fun k => (inn m.inns k).side) e.side (lnx m.inns) := by
          rw [eI, List.length_set, show m.inns.length = lnx m.inns + 1 by omega]
          show cond ((inn (m.inns.set (lnx m.inns) (Al m.rules (Ao m) e).1) (lnx m.inns)).side == e.side) (some (lnx m.inns)) (Dk (fun k => (inn (m.inns.set (lnx m.inns) (Al m.rules (Ao m) e).1) k).side) e.side (lnx m.inns)) = Dk (fun k => (inn m.inns k).side) e.side (lnx m.inns)
          rw [Uy _ _ _ _ hl, if_pos rfl, sd1]
          have sy : ((Ao m).side == e.side) = false := by
           rw [← hsd, Bool.eq_iff_iff, beq_iff_eq, beq_iff_eq]
           exact eq_comm
          rw [sy]
          exact YG _ (fun k hk => by rw [Uy _ _ _ _ (by omega), if_neg (by omega)])
         have mx : (m.inns.set (lnx m.inns) (Al m.rules (Ao m) e).1).map (BS m.rules.balls) = m.inns.map (BS m.rules.balls) := by
          rw [Jl, n2, show BS m.rules.balls (Ao m) = sco (m.inns.map (BS m.rules.balls)) (lnx m.inns) from (R2 _ _ hl).symm]
          exact cl _ _ (by rw [xl]; exact hl)
         obtain ⟨a1, a2, a3, a4⟩ := aM (m := { m with inns := m.inns.set (lnx m.inns) (Al m.rules (Ao m) e).1 }) e.side (Pz (lnx m.inns) (ZB ok) (by
          have lv := Ot (ok.innv (lnx m.inns) hl).1
          have l1 := lv.1
          have l2 := lv.2.1
          exact PR (QP m.rules (Ao m) e) lv.2.2 (show (inn m.inns (lnx m.inns)).before.length + (inn m.inns (lnx m.inns)).bowlers.length ≤ 1048575 by omega)))
         have a3' : (HB { m with inns := m.inns.set (lnx m.inns) (Al m.rules (Ao m) e).1 } e.side).inns.length = m.inns.length := a3.trans List.length_set
         rw [pm] at c2 c3 stg ⊢
         refine ⟨?_, stg (by rw [c2]; exact a3') ?_⟩
         ·simp only [cond_true]
          unfold HB
          simp only [ab]
          unfold WB
          show KC _ = match Dk (fun k => (sco (m.inns.map (BS m.rules.balls)) k).side) e.side (m.inns.map (BS m.rules.balls)).length with
           | some k => _
           | none => _
          rw [xl, bk]
          cases hk : Dk (fun k => (inn m.inns k).side) e.side (lnx m.inns) with
          | none =>
           have i1 : IntKind.i64.wrap (m.pen1 + 5) = m.pen1 + 5 := Az (by omega) (by omega)
           have i2 : IntKind.i64.wrap (m.pen2 + 5) = m.pen2 + 5 := Az (by omega) (by omega)
           unfold KC
           simp only [mx, i1, i2]
          | some k =>
           have hk2 := (UU _ hk).1
           have hki : inn (m.inns.set (lnx m.inns) (Al m.rules (Ao m) e).1) k = inn m.inns k := by rw [Uy _ _ _ _ (by omega), if_neg (by omega)]
           unfold KC
           simp only [hki, Jl (k := k), mx, kJ (ok.innv k (by omega)).1, R2 _ _ (show k < m.inns.length by omega)]
         ·rcases c3 with c3 | ⟨_, c3 | c3 | c3⟩
          ·exact Or.inl (c3.trans (a4.trans s3'))
          ·exact Or.inr (Or.inl c3)
          ·exact Or.inr (Or.inr (Or.inl ⟨c3.1, a3'.symm.trans c3.2⟩))
          ·exact Or.inr (Or.inr (Or.inr c3))
end Go.Px
end
section
namespace Go.Px
set_option maxRecDepth 100000
def opn (L : Rows) : Nat → Nat
 | 0 => 0
 | n + 1 => opn L n + cond ((evR L n).kind == 2) 1 0
theorem Wi (L : Rows) (n : Nat) : opn L n ≤ opn L (n + 1) := by
 show opn L n ≤ opn L n + _
 exact Nat.le_add_right _ _
theorem IK (L : Rows) {i : Nat} : ∀ {j : Nat}, i ≤ j → opn L i ≤ opn L j
 | 0, h => by rw [Nat.le_zero.1 h]; exact Nat.le_refl _
 | j + 1, h => by
  by_cases e : i = j + 1
  ·rw [e]; exact Nat.le_refl _
  ·exact Nat.le_trans (IK L (by omega)) (Wi L j)
def FZ (L : Rows) : Nat → Option Int
 | 0 => none
 | n + 1 => match FZ L n with
  | some v => some v
  | none => cond ((evR L n).kind == 1) (some (PN (evR L n))) none
def Gw (L : Rows) : Nat → Bool
 | 0 => false
 | n + 1 => Gw L n || ((evR L n).kind == 12 && (evR L n).yes)
def had (L : Rows) : Nat → Bool
 | 0 => false
 | n + 1 => had L n || (evR L n).kind == 12
theorem dz {L : Rows} : ∀ n, had L n = false → Gw L n = false
 | 0, _ => rfl
 | n + 1, h => by
  unfold had at h
  unfold Gw
  rw [Bool.or_eq_false_iff] at h
  rw [dz n h.1, h.2]
  rfl
structure LogI (L : Rows) (i : Nat) (m : Mat) : Prop where
 len : m.inns.length = opn L i
 fs : ∀ v, FZ L i = some v → m.first = v ∧ ¬ m.stage = 1
 fn : FZ L i = none → m.first = 0
 fol : m.follow = Gw L i
 k12 : had L i = true → (m.inns.length = 2 ∧ (m.stage = 2 ∨ m.stage = 5)) ∨ 3 ≤ m.inns.length
structure EvF (L : Rows) (i : Nat) : Prop where
 two : ((evR L i).kind == 2) = true → opn L i ≤ 3 ∧ ∃ v, FZ L i = some v ∧ (v = 1 ∨ v = 2)
 twelve : ((evR L i).kind == 12) = true → opn L i = 2
 play : ((evR L i).kind == 1) = false → ((evR L i).kind == 2) = false → ((evR L i).kind == 12) = false → ((evR L i).kind == 16) = false → 1 ≤ opn L i
theorem iz (s : Int) (T : TS) : (WB s T).xs.length = T.xs.length ∧ (WB s T).first = T.first ∧ (WB s T).follow = T.follow := by
 unfold WB
 cases Dk (fun k => (sco T.xs k).side) s T.xs.length with
 | none => exact ⟨rfl, rfl, rfl⟩
 | some k => exact ⟨List.length_set, rfl, rfl⟩
theorem eP (r : Rul) (e : Ev) (T : TS) : (Ss r e T).xs.length = T.xs.length + cond (e.kind == 2) 1 0 ∧ (Ss r e T).first = cond (e.kind == 1) (PN e) T.first ∧ (Ss r e T).follow = cond (e.kind == 12) e.yes T.follow := by
 unfold Ss
 cases k1 : e.kind == 1 with
 | true =>
  rw [beq_iff_eq.1 k1]
  exact ⟨rfl, rfl, rfl⟩
 | false =>
  cases k2 : e.kind == 2 with
  | true =>
   rw [beq_iff_eq.1 k2]
   refine ⟨?_, rfl, rfl⟩
   show (T.xs ++ [_]).length = _
   rw [List.length_append]
   rfl
  | false =>
   cases k12 : e.kind == 12 with
   | true => exact ⟨rfl, rfl, rfl⟩
   | false =>
    cases k16 : e.kind == 16 with
    | true => exact ⟨rfl, rfl, rfl⟩
    | false =>
     cases k13 : e.kind == 13 with
     | true => exact iz e.side T
     | false => exact ⟨List.length_set, rfl, rfl⟩
theorem jF {L : Rows} {i : Nat} {m : Mat} (h : LogI L i m) (ha : ((DE m (evR L i)).2 == 0) = true) : LogI L (i + 1) (DE m (evR L i)).1 ∧ EvF L i := by
 obtain ⟨ab, sg⟩ := aQ ha
 obtain ⟨hv, he, h5, hp, hs⟩ := Wn ha
 have vp := Xr hv
 obtain ⟨t1, t2, t3⟩ := eP m.rules (evR L i) (KC m)
 rw [← ab] at t1 t2 t3
 have x1 : ∀ z : Mat, (KC z).xs.length = z.inns.length := fun z => List.length_map _
 rw [x1, x1] at t1
 change (DE m (evR L i)).1.first = cond ((evR L i).kind == 1) (PN (evR L i)) m.first at t2
 change (DE m (evR L i)).1.follow = cond ((evR L i).kind == 12) (evR L i).yes m.follow at t3
 have no12 : ((evR L i).kind == 12) = true → had L i = false := fun k => by
  obtain ⟨s1, s2, s3⟩ := sg.k12 k
  cases hh : had L i with
  | false => rfl
  | true => rcases h.k12 hh with ⟨_, q | q⟩ | q <;> omega
 have no5 : ¬ m.stage = 5 := beq_eq_false_iff_ne.1 h5
 refine ⟨⟨?_, ?_, ?_, ?_, ?_⟩, ⟨?_, ?_, ?_⟩⟩
 ·rw [t1, h.len]; rfl
 ·intro v hv2
  refine ⟨?_, sg.not1⟩
  rw [t2]
  unfold FZ at hv2
  cases hf : FZ L i with
  | some w =>
   rw [hf] at hv2
   cases hv2
   obtain ⟨f1, f2⟩ := h.fs _ hf
   cases k1 : (evR L i).kind == 1 with
   | true => exact absurd (sg.k1 k1).1 f2
   | false => exact f1
  | none =>
   rw [hf] at hv2
   cases k1 : (evR L i).kind == 1 with
   | true =>
    simp only [k1, cond_true] at hv2
    cases hv2
    rfl
   | false =>
    simp only [k1, cond_false] at hv2
    cases hv2
 ·intro hn
  rw [t2]
  unfold FZ at hn
  cases hf : FZ L i with
  | some w => rw [hf] at hn; cases hn
  | none =>
   rw [hf] at hn
   cases k1 : (evR L i).kind == 1 with
   | true =>
    simp only [k1, cond_true] at hn
    cases hn
   | false => exact h.fn hf
 ·rw [t3]
  unfold Gw
  cases k12 : (evR L i).kind == 12 with
  | true => rw [dz i (no12 k12)]; rfl
  | false => rw [h.fol, Bool.false_and, Bool.or_false]; rfl
 ·intro hh
  rw [t1]
  unfold had at hh
  cases k12 : (evR L i).kind == 12 with
  | true =>
   obtain ⟨s1, s2, s3⟩ := sg.k12 k12
   rw [beq_iff_eq.1 k12]
   exact Or.inl ⟨s2, Or.inl s3⟩
  | false =>
   rw [k12, Bool.or_false] at hh
   rcases h.k12 hh with ⟨q1, q2⟩ | q
   ·cases k2 : (evR L i).kind == 2 with
    | true => exact Or.inr (by simp only [cond_true]; omega)
    | false =>
     refine Or.inl ⟨q1, ?_⟩
     cases k16 : (evR L i).kind == 16 with
     | true => exact Or.inr (sg.k16 k16)
     | false =>
      cases k1 : (evR L i).kind == 1 with
      | true => have := (sg.k1 k1).1; omega
      | false => have := (sg.play k1 k2 k12 k16).1; omega
   ·exact Or.inr (Nat.le_trans q (Nat.le_add_right _ _))
 ·intro k2
  obtain ⟨s1, s2⟩ := sg.k2 k2
  refine ⟨by rw [← h.len]; exact s2, ?_⟩
  have tk := (UJ hv).toss (by rw [s1]; rfl)
  cases hf : FZ L i with
  | none => have := h.fn hf; omega
  | some w => exact ⟨w, rfl, by rw [← (h.fs w hf).1]; exact tk⟩
 ·intro k
  rw [← h.len]
  exact (sg.k12 k).2.1
 ·intro a b c d
  rw [← h.len]
  exact (sg.play a b c d).2
theorem j5 {r : Rul} (h : ((Cr r).2 == 0) = true) : (Cr r).1 = ⟨r, 1, 0, false, [], 0, 0, 0, 0, 0⟩ ∧ BA r = 0 := by
 unfold Cr at h ⊢
 cases hc : BA r == 0 with
 | false => rw [hc] at h; exact absurd (show (BA r == 0) = true from h) (by rw [hc]; decide)
 | true => exact ⟨rfl, beq_iff_eq.1 hc⟩
theorem dy {r : Rul} {L : Rows} {n : Nat} (hc : ((Cr r).2 == 0) = true) (ha : acc L n 0 (Cr r).1) : ∀ i, i ≤ n → LogI L i (stM L i 0 (Cr r).1) ∧ StepOk r (stM L i 0 (Cr r).1) ∧ ∀ j, j < i → KC (stM L (j + 1) 0 (Cr r).1) = Ss r (evR L j) (KC (stM L j 0 (Cr r).1)) ∧ EvF L j
 | 0, _ => by
  refine ⟨?_, de r hc, fun j hj => absurd hj (Nat.not_lt_zero j)⟩
  show LogI L 0 (Cr r).1
  rw [(j5 hc).1]
  exact ⟨rfl, fun v h => (by cases h), fun _ => rfl, rfl, fun h => (by cases h)⟩
 | i + 1, hi => by
  obtain ⟨h1, h2, h3⟩ := dy hc ha i (by omega)
  have a0 := fo n 0 _ ha i (by omega)
  have s0 := aI (L := L) i 0 (Cr r).1
  rw [Nat.zero_add] at a0 s0
  have q := (hO a0).1
  rw [q] at s0 a0
  obtain ⟨l1, l2⟩ := jF h1 a0
  rw [s0]
  refine ⟨l1, by rw [← q]; exact cG h2 _ _, fun j hj => ?_⟩
  by_cases e : j = i
  ·subst e
   rw [s0]
   refine ⟨?_, l2⟩
   rw [(aQ a0).1, h2.rules]
  ·exact h3 j (by omega)
def smi (L : Rows) (f : Ev → Int) (j : Nat) : Nat → Int
 | 0 => 0
 | n + 1 => smi L f j n + cond (Nat.beq (opn L (n + 1)) (j + 1)) (f (evR L n)) 0
theorem MO (L : Rows) (f : Ev → Int) (j n : Nat) : smi L f j (n + 1) = smi L f j n + cond (Nat.beq (opn L (n + 1)) (j + 1)) (f (evR L n)) 0 := rfl
theorem W7 {a b : Nat} (h : ¬ a = b) : Nat.beq a b = false := by
 cases hq : Nat.beq a b with
 | false => rfl
 | true => exact absurd (Nat.eq_of_beq_eq_true hq) h
theorem Yc (a : Nat) : Nat.beq a a = true := Nat.beq_refl a
theorem Wy {L : Rows} {f : Ev → Int} {j : Nat} : ∀ n, opn L n ≤ j → smi L f j n = 0
 | 0, _ => rfl
 | n + 1, h => by
  have := Wi L n
  unfold smi
  rw [Wy n (by omega), W7 (by omega)]
  rfl
def Wt (sd : Nat → Int) (s : Int) : Nat → Nat → Option Nat
 | 0, _ => none
 | c + 1, i => cond (sd i == s) (some i) (Wt sd s c (i + 1))
theorem ar {sd : Nat → Int} {s : Int} {j : Nat} : ∀ c i, Wt sd s c i = some j → i ≤ j ∧ j < i + c ∧ sd j = s ∧ ∀ k, i ≤ k → k < j → ¬ sd k = s
 | 0, _, h => by cases h
 | c + 1, i, h => by
  unfold Wt at h
  cases hq : sd i == s with
  | true =>
   rw [hq] at h
   cases h
   exact ⟨Nat.le_refl _, by omega, beq_iff_eq.1 hq, fun k h1 h2 => by omega⟩
  | false =>
   rw [hq] at h
   obtain ⟨h1, h2, h3, h4⟩ := ar c (i + 1) h
   refine ⟨by omega, by omega, h3, fun k k1 k2 => ?_⟩
   by_cases e : k = i
   ·subst e; exact beq_eq_false_iff_ne.1 hq
   ·exact h4 k (by omega) k2
def JG (sd : Nat → Int) (n k : Nat) (s : Int) : Option Nat := match Dk sd s (k + 1) with
 | some j => some j
 | none => Wt sd s (n - (k + 1)) (k + 1)
theorem iL {sd : Nat → Int} {n k j : Nat} {s : Int} (h : JG sd n k s = some j) : sd j = s ∧ (j ≤ k ∨ (k < j ∧ j < n ∧ Dk sd s (k + 1) = none)) := by
 unfold JG at h
 cases hb : Dk sd s (k + 1) with
 | some w =>
  rw [hb] at h
  cases h
  have := UU _ hb
  exact ⟨this.2, Or.inl (by omega)⟩
 | none =>
  rw [hb] at h
  obtain ⟨h1, h2, h3, h4⟩ := ar _ _ h
  exact ⟨h3, Or.inr ⟨by omega, by omega, rfl⟩⟩
def isS (o : Option Nat) (j : Nat) : Bool := match o with
 | some k => Nat.beq k j
 | none => false
def pnS (L : Rows) (sd : Nat → Int) (n j : Nat) : Nat → Int
 | 0 => 0
 | i + 1 => pnS L sd n j i + cond ((evR L i).kind == 13 && isS (JG sd n (opn L (i + 1) - 1) (evR L i).side) j) 5 0
theorem Yl (L : Rows) (sd : Nat → Int) (n j i : Nat) : pnS L sd n j (i + 1) = pnS L sd n j i + cond ((evR L i).kind == 13 && isS (JG sd n (opn L (i + 1) - 1) (evR L i).side) j) 5 0 := rfl
def pcS (L : Rows) (s : Int) : Nat → Int
 | 0 => 0
 | i + 1 => pcS L s i + cond ((evR L i).kind == 13 && (evR L i).side == s) 5 0
def jg (L : Rows) (sd : Nat → Int) (s : Int) (k i : Nat) : Int := match Dk sd s k with
 | some _ => 0
 | none => pcS L s i
def SZ (r : Rul) (e : Ev) : Int := C8 (Ah r e)
def jA (r : Rul) (e : Ev) : Int := cond (Ah r e).counts 1 0
def BB (r : Rul) (L : Rows) (sd : Nat → Int) (n j i : Nat) : Sco := ⟨sd j, smi L (SZ r) j i + pnS L sd n j i, smi L Mq j i, smi L (jA r) j i, smi L (fun e => (Ah r e).wides) j i, smi L (fun e => (Ah r e).noballs) j i, smi L (fun e => (Ah r e).byes) j i, smi L (fun e => (Ah r e).legbyes) j i, pnS L sd n j i, 0⟩
theorem ip (r : Rul) (L : Rows) (sd : Nat → Int) (n j i : Nat) : BB r L sd n j (i + 1) = KU (cond ((evR L i).kind == 13 && isS (JG sd n (opn L (i + 1) - 1) (evR L i).side) j) 5 0) (cond (Nat.beq (opn L (i + 1)) (j + 1)) (Mv r (evR L i) (BB r L sd n j i)) (BB r L sd n j i)) := by
 unfold BB
 simp only [MO, Yl]
 generalize (cond ((evR L i).kind == 13 && isS (JG sd n (opn L (i + 1) - 1) (evR L i).side) j) 5 0 : Int) = p
 cases Nat.beq (opn L (i + 1)) (j + 1) with
 | false =>
  unfold KU
  simp only [cond_false, Int.add_zero, Int.add_assoc]
 | true =>
  unfold KU Mv
  simp only [cond_true]
  rw [Sco.mk.injEq]
  refine ⟨rfl, ?_, rfl, rfl, rfl, rfl, rfl, rfl, rfl, rfl⟩
  unfold SZ
  omega
structure Clo (r : Rul) (L : Rows) (sd : Nat → Int) (n i : Nat) (T : TS) : Prop where
 len : T.xs.length = opn L i
 at' : ∀ j, j < opn L i → sco T.xs j = BB r L sd n j i
 p1 : T.p1 = jg L sd 1 (opn L i) i
 p2 : T.p2 = jg L sd 2 (opn L i) i
end Go.Px
end
section
namespace Go.Px
set_option maxRecDepth 100000
def Sco.ls (s : Sco) : List PV := [.int s.side, .int s.runs, .int s.wickets, .int s.balls, .int s.wides, .int s.noballs, .int s.byes, .int s.legbyes, .int s.pens, .int s.ending]
def Ai (xs : List Sco) : Rows := xs.map Sco.ls
def dS : Sco := ⟨0, 0, 0, 0, 0, 0, 0, 0, 0, 0⟩
theorem dk (xs : List Sco) (i : Nat) : Ag (Ai xs) i = (match xs[i]? with | some s => s.ls | none => []) := by
 unfold Ag Ai
 rw [List.getD_eq_getElem?_getD, List.getElem?_map]
 cases xs[i]? <;> rfl
theorem ah (xs : List Sco) : (Ai xs).length = xs.length := List.length_map _
theorem PXs : (∀ xs : List Sco, (Ai xs).length = xs.length) ∧ (∀ (xs : List Sco) (i : Nat), pvI (AE (Ai xs) i 0) = (sco xs i).side) ∧ (∀ (xs : List Sco) (i : Nat), pvI (AE (Ai xs) i 1) = (sco xs i).runs) ∧ (∀ (xs : List Sco) (i : Nat), pvI (AE (Ai xs) i 2) = (sco xs i).wickets) ∧ (∀ (xs : List Sco) (i : Nat), pvI (AE (Ai xs) i 3) = (sco xs i).balls) ∧
    (∀ (xs : List Sco) (i : Nat), pvI (AE (Ai xs) i 4) = (sco xs i).wides) ∧ (∀ (xs : List Sco) (i : Nat), pvI (AE (Ai xs) i 5) = (sco xs i).noballs) ∧ (∀ (xs : List Sco) (i : Nat), pvI (AE (Ai xs) i 6) = (sco xs i).byes) ∧ (∀ (xs : List Sco) (i : Nat), pvI (AE (Ai xs) i 7) = (sco xs i).legbyes) ∧ (∀ (xs : List Sco) (i : Nat), pvI (AE (Ai xs) i 8) = (sco xs i).pens) ∧ (∀ (xs : List Sco) (i : Nat), pvI (AE (Ai xs) i 9) = (sco xs i).ending) := by
  refine ⟨ah, ?_, ?_, ?_, ?_, ?_, ?_, ?_, ?_, ?_, ?_⟩
  all_goals (intro xs i; rw [GV]; unfold AE; rw [dk]; cases xs[i]? <;> rfl)
theorem Cf {xs : List Sco} {i j : Nat} {v : Int} (f : Sco → Sco) (h : ∀ s : Sco, A5 s.ls j [.int v] = (f s).ls) : (Ai xs).set i (A5 (Ag (Ai xs) i) j [.int v]) = Ai (xs.set i (f (sco xs i))) := by
 by_cases hi : i < xs.length
 ·have e : Ag (Ai xs) i = (sco xs i).ls := by rw [dk, GV, List.getElem?_eq_getElem hi]
  rw [e, h]
  exact List.map_set.symm
 ·rw [List.set_eq_of_length_le (by rw [ah]; omega), List.set_eq_of_length_le (by omega)]
theorem PXt : (∀ (xs : List Sco) (i : Nat) (v : Int), (Ai xs).set i (A5 (Ag (Ai xs) i) 0 [.int v]) = Ai (xs.set i { sco xs i with side := v })) ∧ (∀ (xs : List Sco) (i : Nat) (v : Int), (Ai xs).set i (A5 (Ag (Ai xs) i) 1 [.int v]) = Ai (xs.set i { sco xs i with runs := v })) ∧
    (∀ (xs : List Sco) (i : Nat) (v : Int), (Ai xs).set i (A5 (Ag (Ai xs) i) 2 [.int v]) = Ai (xs.set i { sco xs i with wickets := v })) ∧ (∀ (xs : List Sco) (i : Nat) (v : Int), (Ai xs).set i (A5 (Ag (Ai xs) i) 3 [.int v]) = Ai (xs.set i { sco xs i with balls := v })) ∧
    (∀ (xs : List Sco) (i : Nat) (v : Int), (Ai xs).set i (A5 (Ag (Ai xs) i) 4 [.int v]) = Ai (xs.set i { sco xs i with wides := v })) ∧ (∀ (xs : List Sco) (i : Nat) (v : Int), (Ai xs).set i (A5 (Ag (Ai xs) i) 5 [.int v]) = Ai (xs.set i { sco xs i with noballs := v })) ∧
    (∀ (xs : List Sco) (i : Nat) (v : Int), (Ai xs).set i (A5 (Ag (Ai xs) i) 6 [.int v]) = Ai (xs.set i { sco xs i with byes := v })) ∧ (∀ (xs : List Sco) (i : Nat) (v : Int), (Ai xs).set i (A5 (Ag (Ai xs) i) 7 [.int v]) = Ai (xs.set i { sco xs i with legbyes := v })) ∧
    (∀ (xs : List Sco) (i : Nat) (v : Int), (Ai xs).set i (A5 (Ag (Ai xs) i) 8 [.int v]) = Ai (xs.set i { sco xs i with pens := v })) ∧ (∀ (xs : List Sco) (i : Nat) (v : Int), (Ai xs).set i (A5 (Ag (Ai xs) i) 9 [.int v]) = Ai (xs.set i { sco xs i with ending := v })) ∧
    (∀ (xs : List Sco) (a b c d e f g h i j : Int), Ai xs ++ [([.int a, .int b, .int c, .int d, .int e, .int f, .int g, .int h, .int i, .int j] : List PV)] = Ai (xs ++ [⟨a, b, c, d, e, f, g, h, i, j⟩])) := by
  exact ⟨fun xs i v => Cf (j := 0) (v := v) (fun s => { s with side := v }) (fun s => rfl), fun xs i v => Cf (j := 1) (v := v) (fun s => { s with runs := v }) (fun s => rfl), fun xs i v => Cf (j := 2) (v := v) (fun s => { s with wickets := v }) (fun s => rfl), fun xs i v => Cf (j := 3) (v := v) (fun s => { s with balls := v }) (fun s => rfl), fun xs i v => Cf (j := 4) (v := v) (fun s => { s with wides := v }) (fun s => rfl), fun xs i v => Cf (j := 5) (v := v) (fun s => { s with noballs := v }) (fun s => rfl), fun xs i v => Cf (j := 6) (v := v) (fun s => { s with byes := v }) (fun s => rfl), fun xs i v => Cf (j := 7) (v := v) (fun s => { s with legbyes := v }) (fun s => rfl), fun xs i v => Cf (j := 8) (v := v) (fun s => { s with pens := v }) (fun s => rfl), fun xs i v => Cf (j := 9) (v := v) (fun s => { s with ending := v }) (fun s => rfl),
    fun xs a b c d e f g h i j => (List.map_append (f := Sco.ls) (l₁ := xs) (l₂ := [⟨a, b, c, d, e, f, g, h, i, j⟩])).symm⟩
theorem ki (n : Nat) : List.replicate n ([.int 0, .int 0, .int 0, .int 0, .int 0, .int 0, .int 0, .int 0, .int 0, .int 0] : List PV) = Ai (List.replicate n dS) := by
 unfold Ai
 rw [List.map_replicate]
 rfl
def Ep (xs : List (Int × Int)) : Rows := xs.map fun x => [.int x.1, .int x.2]
def pr (xs : List (Int × Int)) (i : Nat) : Int × Int := xs.getD i (0, 0)
theorem Su (xs : List (Int × Int)) (i : Nat) : pr xs i = (match xs[i]? with | some s => s | none => (0, 0)) := by
 unfold pr
 rw [List.getD_eq_getElem?_getD]
 cases xs[i]? <;> rfl
theorem ac (xs : List (Int × Int)) (i : Nat) : Ag (Ep xs) i = (match xs[i]? with | some s => [.int s.1, .int s.2] | none => []) := by
 unfold Ag Ep
 rw [List.getD_eq_getElem?_getD, List.getElem?_map]
 cases xs[i]? <;> rfl
theorem bI (xs : List (Int × Int)) : (Ep xs).length = xs.length := List.length_map _
theorem PXp : (∀ xs : List (Int × Int), (Ep xs).length = xs.length) ∧ (∀ (xs : List (Int × Int)) (i : Nat), pvI (AE (Ep xs) i 0) = (pr xs i).1) ∧ (∀ (xs : List (Int × Int)) (i : Nat), pvI (AE (Ep xs) i 1) = (pr xs i).2) ∧
    (∀ (xs : List (Int × Int)) (i : Nat) (v : Int), (Ep xs).set i (A5 (Ag (Ep xs) i) 1 [.int v]) = Ep (xs.set i ((pr xs i).1, v))) ∧ (∀ (xs : List (Int × Int)) (a b : Int), Ep xs ++ [([.int a, .int b] : List PV)] = Ep (xs ++ [(a, b)])) := by
  refine ⟨bI, ?_, ?_, ?_, ?_⟩
  · intro xs i; rw [Su]; unfold AE; rw [ac]; cases xs[i]? <;> rfl
  · intro xs i; rw [Su]; unfold AE; rw [ac]; cases xs[i]? <;> rfl
  · intro xs i v
    by_cases hi : i < xs.length
    · have e : Ag (Ep xs) i = [.int (pr xs i).1, .int (pr xs i).2] := by rw [ac, Su, List.getElem?_eq_getElem hi]
      rw [e]
      exact (List.map_set (f := fun x : Int × Int => [PV.int x.1, PV.int x.2]) (l := xs) (i := i) (a := ((pr xs i).1, v))).symm
    · rw [List.set_eq_of_length_le (by rw [bI]; omega), List.set_eq_of_length_le (by omega)]
  · intro xs a b; exact (List.map_append (f := fun x : Int × Int => [PV.int x.1, PV.int x.2]) (l₁ := xs) (l₂ := [(a, b)])).symm
end Go.Px
end
section
namespace Go.Px
set_option maxRecDepth 100000
theorem RT (L : Rows) : ∀ i, opn L i ≤ i
 | 0 => Nat.le_refl _
 | i + 1 => by
  have := RT L i
  show opn L i + cond _ 1 0 ≤ _
  cases (evR L i).kind == 2 <;> simp only [cond_true, cond_false] <;> omega
def F7 (xs : List (Int × Int)) (v : Int) : List (Int × Int) := cond (iLt 0 (xs.length : Int)) (xs.set (IntKind.i64.wrap ((xs.length : Int) - 1)).toNat ((pr xs (IntKind.i64.wrap ((xs.length : Int) - 1)).toNat).1, v)) xs
def Bg (L : Rows) : Nat → List (Int × Int)
 | 0 => []
 | i + 1 => cond ((evR L i).kind == 2) (F7 (Bg L i) (i : Int) ++ [((i : Int), (L.length : Int))]) (Bg L i)
theorem RK (xs : List (Int × Int)) (v : Int) : (F7 xs v).length = xs.length := by
 unfold F7
 cases iLt 0 (xs.length : Int)
 ·rfl
 ·exact List.length_set
theorem Mt (L : Rows) : ∀ i, (Bg L i).length = opn L i
 | 0 => rfl
 | i + 1 => by
  have ih := Mt L i
  show (cond ((evR L i).kind == 2) _ (Bg L i)).length = opn L i + cond ((evR L i).kind == 2) 1 0
  cases (evR L i).kind == 2 with
  | false => exact ih
  | true => rw [cond_true, cond_true, List.length_append, RK, ih]; rfl
theorem eC {n : Nat} (h : 0 < n) (h2 : n ≤ 1048576) : (IntKind.i64.wrap ((n : Int) - 1)).toNat = n - 1 ∧ iIn (IntKind.i64.wrap ((n : Int) - 1)) (n : Int) = true := by
 rw [DQ (by omega) (by omega)]
 refine ⟨by omega, ?_⟩
 simp only [iIn, decide_eq_true_eq]
 omega
theorem iP {N : Nat} {L : Rows} (hN : 2097152 < N) (hL : L.length ≤ 1048576) {F : (List AQ → Option (List PV)) → List PV → Option (List PV)}
    (h0 : ∀ self, F self [.rows (Ep (Bg L L.length)), .int (L.length : Int)] = some [.rows (Ep (Bg L L.length))])
    (h1 : ∀ i self, i < L.length → (Bg L i).length ≤ 1048575 → F self [.rows (Ep (Bg L i)), .int (i : Int)] = self [.rows (Ep (Bg L (i + 1))), .int (((i + 1 : Nat)) : Int)]) : DB F N [.rows (Ep []), .int 0] = some [.rows (Ep (Bg L L.length))] := by
  have := Ck (F := F) (len := L.length) (fun i => [.rows (Ep (Bg L i)), .int (i : Int)]) [.rows (Ep (Bg L L.length))] h0 (fun i self hi => h1 i self hi (by rw [Mt]; have := RT L i; omega)) N (by omega)
  exact this
theorem Km {i : Nat} (h : i ≤ 1099511627776) : IntKind.i64.wrap ((i : Int) + 1) = ((i + 1 : Nat) : Int) := Ar h
theorem iI {L : Rows} {i : Nat} {xs : List (Int × Int)} (hk : ((evR L i).kind == 2) = true) (he : Bg L i = xs) (h : iLt 0 (xs.length : Int) = true) : Bg L (i + 1) = xs.set (IntKind.i64.wrap ((xs.length : Int) - 1)).toNat ((pr xs (IntKind.i64.wrap ((xs.length : Int) - 1)).toNat).1, (i : Int)) ++ [((i : Int), (L.length : Int))] := by
 show cond ((evR L i).kind == 2) (F7 (Bg L i) (i : Int) ++ [((i : Int), (L.length : Int))]) (Bg L i) = _
 rw [hk, he]
 unfold F7
 rw [h]
 rfl
theorem fa {L : Rows} {i : Nat} {xs : List (Int × Int)} (hk : ((evR L i).kind == 2) = true) (he : Bg L i = xs) (h : iLt 0 (xs.length : Int) = false) : Bg L (i + 1) = xs ++ [((i : Int), (L.length : Int))] := by
 show cond ((evR L i).kind == 2) (F7 (Bg L i) (i : Int) ++ [((i : Int), (L.length : Int))]) (Bg L i) = _
 rw [hk, he]
 unfold F7
 rw [h]
 rfl
theorem aZ {L : Rows} {i : Nat} (hk : ((evR L i).kind == 2) = false) : Bg L (i + 1) = Bg L i := by
 show cond ((evR L i).kind == 2) _ (Bg L i) = _
 rw [hk]
 rfl
set_option maxHeartbeats 1000000 in
theorem Iz {N : Nat} {L : Rows} (hN : 2097152 < N) (hL : L.length ≤ 1048576) : A2 N [.rows L] = some [.rows (Ep (Bg L L.length))] := by
 show Ip (std (PK N) N) (xOf _) = _
 simp only [Ip, std, xOf, PXb]
 refine AY (iP hN hL ?_ ?_) rfl
 ·intro self
  simp only [PXb, PXc, PXn, AG, BK]
 ·intro i self hi hlen
  have kk : (evR L i).kind = atI L i 0 := rfl
  simp only [PXb, PXc, PXn, AG, Km (show i ≤ 1099511627776 by omega), A1 hi, Ac hi, B8, PXp, ← kk]
  cases hk : (evR L i).kind == 2 with
  | false =>
   rw [aZ hk]
   rfl
  | true =>
   simp only [PXb, Bool.not_true]
   generalize he : Bg L i = xs at hlen
   cases h0 : iLt 0 (xs.length : Int) with
   | false =>
    have sm : iSm ((xs.length + 1 : Nat) : Int) 16 = true := Gz (by omega) (by omega)
    rw [fa hk he h0]
    simp only [PXb, PXc, PXn, AG, PXp, List.length_append, List.length_cons, List.length_nil, sm, Nat.reduceAdd]
   | true =>
    have h1 : 0 < xs.length := by simp only [iLt, decide_eq_true_eq] at h0; omega
    have sm : iSm ((xs.length + 1 : Nat) : Int) 16 = true := Gz (by omega) (by omega)
    rw [iI hk he h0]
    simp only [PXb, PXc, PXn, AG, PXp, List.length_append, List.length_cons, List.length_nil, List.length_set, sm, Nat.reduceAdd, (eC h1 (by omega)).2]
theorem XD (ans : Nat → Option (List PV)) : ∀ k i, A8 ans (k + 1) i = match A8 ans k i with | some r => some r | none => ans (i + k)
 | 0, i => by
  simp only [A8]
  cases ans i <;> rfl
 | k + 1, i => by
  have ih := XD ans k (i + 1)
  have e1 : A8 ans (k + 1 + 1) i = match ans i with | some r => some r | none => A8 ans (k + 1) (i + 1) := rfl
  have e2 : A8 ans (k + 1) i = match ans i with | some r => some r | none => A8 ans k (i + 1) := rfl
  rw [e1, e2, ih, show i + (k + 1) = i + 1 + k by omega]
  cases ans i <;> rfl
def Yg (L : Rows) (i : Nat) : Option (List PV) := cond ((evR L i).kind == 1) (some [.int (PN (evR L i))]) none
theorem ay (L : Rows) : ∀ n, A8 (Yg L) n 0 = (FZ L n).map fun v => [.int v]
 | 0 => rfl
 | n + 1 => by
  rw [XD, ay L n, Nat.zero_add]
  show _ = (match FZ L n with | some v => some v | none => cond ((evR L n).kind == 1) (some (PN (evR L n))) none).map fun v => [PV.int v]
  cases FZ L n with
  | some v => rfl
  | none =>
   show Yg L n = _
   unfold Yg
   cases (evR L n).kind == 1 <;> rfl
def Yb (L : Rows) : Int := (FZ L L.length).getD 1
theorem iG {N : Nat} {L : Rows} (hN : 2097152 < N) (hL : L.length ≤ 1048576) {F : (List AQ → Option (List PV)) → List PV → Option (List PV)} (h0 : ∀ self, F self [.int (L.length : Int)] = some [.int 1])
    (h1 : ∀ i self, i < L.length → F self [.int (i : Int)] = match Yg L i with | some r => some (.int 0 :: r) | none => self [.int ((i : Int) + 1)]) : DB F N [.int 0] = some (Ov ((FZ L L.length).map fun v => [.int v])) := by
  have := CE (F := F) (len := L.length) (Yg L) h0 h1 L.length 0 N (by omega) (by omega)
  rw [ay] at this
  exact this
theorem jm (o : Option Int) : cond (pvI (AJ (Ov (o.map fun v => [.int v])) 0) == ((0 : Nat) : Int)) (some [PV.int (pvI (AJ (Ov (o.map fun v => [.int v])) 1))]) (some [PV.int 1]) = some [.int (o.getD 1)] := by
 cases o <;> rfl
theorem Zm {N : Nat} {L : Rows} (hN : 2097152 < N) (hL : L.length ≤ 1048576) : HD N [.rows L] = some [.int (Yb L)] := by
 show Jo (std (Qd N) N) (xOf _) = _
 simp only [Jo, std, xOf, PXb]
 refine AY (iG hN hL ?_ ?_) (jm _)
 ·intro self
  simp only [PXb, PXc, PXn, AG, BK]
 ·intro i self hi
  have kk : (evR L i).kind = atI L i 0 := rfl
  have ky : (evR L i).yes = atB L i 4 := rfl
  have ks : (evR L i).side = atI L i 1 := rfl
  simp only [PXb, PXc, PXn, AG, Ar (show i ≤ 1099511627776 by omega), A1 hi, Ac hi, B8, YO, Yg, PN, BZ, kk, ky, ks]
  cases atI L i 0 == 1 <;> cases atB L i 4 <;> rfl
def Uz (f : Int) (en : Bool) (k : Nat) : Int := cond (en && ((k : Int) == 2 || (k : Int) == 3)) (BZ (cond ((k : Int).tmod 2 == 1) (BZ f) f)) (cond ((k : Int).tmod 2 == 1) (BZ f) f)
def zs (g : Nat → Int) (n : Nat) : List Int := (List.range n).map g
theorem R4 (g : Nat → Int) (n : Nat) : (zs g n).length = n := by unfold zs; rw [List.length_map, List.length_range]
theorem kb (g : Nat → Int) (n : Nat) : F8 (zs g n) ++ [[.int (g n)]] = F8 (zs g (n + 1)) := by
 unfold zs F8
 rw [List.range_succ, List.map_append, List.map_append]
 rfl
theorem eu (g : Nat → Int) {n k : Nat} (h : k < n) : atI (F8 (zs g n)) k 0 = g k := by
 rw [mT, List.getD_eq_getElem?_getD]
 unfold zs
 rw [List.getElem?_map, List.getElem?_range h]
 rfl
theorem iu {N : Nat} {L : Rows} (hN : 2097152 < N) (hL : L.length ≤ 1048576) {F : (List AQ → Option (List PV)) → List PV → Option (List PV)} (h0 : ∀ self, F self [.bool (Gw L L.length), .int (L.length : Int)] = some [.bool (Gw L L.length)])
    (h1 : ∀ i self, i < L.length → F self [.bool (Gw L i), .int (i : Int)] = self [.bool (Gw L (i + 1)), .int (((i + 1 : Nat)) : Int)]) : DB F N [.bool false, .int 0] = some [.bool (Gw L L.length)] :=
  Ck (F := F) (len := L.length) (fun i => [.bool (Gw L i), .int (i : Int)]) [.bool (Gw L L.length)] h0 h1 N (by omega)
theorem kC {N n : Nat} {g : Nat → Int} (hN : 2097152 < N) (hL : n ≤ 1048576) {F : (List AQ → Option (List PV)) → List PV → Option (List PV)} (h0 : ∀ self, F self [.rows (F8 (zs g n)), .int (n : Int)] = some [.rows (F8 (zs g n))])
    (h1 : ∀ i self, i < n → F self [.rows (F8 (zs g i)), .int (i : Int)] = self [.rows (F8 (zs g (i + 1))), .int (((i + 1 : Nat)) : Int)]) : DB F N [.rows [], .int 0] = some [.rows (F8 (zs g n))] :=
  Ck (F := F) (len := n) (fun i => [.rows (F8 (zs g i)), .int (i : Int)]) [.rows (F8 (zs g n))] h0 h1 N (by omega)
set_option maxHeartbeats 1000000 in
theorem Zn {N : Nat} {L : Rows} (hN : 2097152 < N) (hL : L.length ≤ 1048576) : G8 N [.rows L] = some [.rows (F8 (zs (Uz (Yb L) (Gw L L.length)) (opn L L.length)))] := by
 show Jt (std (Ho N) N) (xOf _) = _
 simp only [Jt, Nx, Oy, std, xOf, PXb, Zm hN hL]
 refine AY (iu hN hL ?_ ?_) ?_
 ·intro self
  simp only [PXb, PXc, PXn, AG, BK]
 ·intro i self hi
  have kk : (evR L i).kind = atI L i 0 := rfl
  have ky : (evR L i).yes = atB L i 4 := rfl
  have e : Gw L (i + 1) = (Gw L i || ((evR L i).kind == 12 && (evR L i).yes)) := rfl
  rw [e, kk, ky]
  simp only [PXb, PXc, PXn, AG, Km (show i ≤ 1099511627776 by omega), A1 hi, Ac hi, B8, YO]
 ·have ol := RT L L.length
  simp only [PXb, PXc, PXn, AG, Iz hN hL, PXp, Mt]
  generalize Gw L L.length = en
  generalize hn : opn L L.length = n at ol
  refine AY (kC (n := n) (g := Uz (Yb L) en) hN (by omega) ?_ ?_) rfl
  ·intro self
   simp only [PXb, PXc, PXn, AG, BK]
  ·intro i self hi
   have sm : iSm ((i + 1 : Nat) : Int) 8 = true := Gz (by omega) (by omega)
   rw [← kb]
   unfold Uz
   cases h1 : (i : Int).tmod 2 == 1 <;> cases h2 : (en && ((i : Int) == 2 || (i : Int) == 3)) <;>
    simp only [PXb, PXc, PXn, AG, Km (show i ≤ 1099511627776 by omega), A1 hi, h1, h2, MG, R4, List.length_append, List.length_cons, List.length_nil, Nat.reduceAdd, sm, BZ]
end Go.Px
end
section
namespace Go.Px
set_option maxRecDepth 100000
theorem lS (xs : List (Int × Int)) (k : Nat) (s : Int × Int) (i : Nat) (hi : i < xs.length) : pr (xs.set k s) i = (if k = i then s else pr xs i) := by
 rw [Su, Su, List.getElem?_set]
 by_cases h : k = i
 ·subst h
  rw [if_pos rfl, if_pos rfl, if_pos hi]
 ·rw [if_neg h, if_neg h]
theorem lO (xs : List (Int × Int)) (s : Int × Int) (i : Nat) (hi : i < xs.length + 1) : pr (xs ++ [s]) i = (if i < xs.length then pr xs i else s) := by
 rw [Su, Su]
 by_cases h : i < xs.length
 ·rw [if_pos h, List.getElem?_append_left h]
 ·have : i = xs.length := by omega
  subst this
  rw [if_neg h, List.getElem?_append_right (Nat.le_refl _), Nat.sub_self]
  rfl
theorem Py {L : Rows} {i : Nat} (h : ((evR L i).kind == 2) = true) : opn L (i + 1) = opn L i + 1 := by
 show opn L i + cond ((evR L i).kind == 2) 1 0 = _
 rw [h]
 rfl
theorem iR {L : Rows} {i : Nat} (h : ((evR L i).kind == 2) = false) : opn L (i + 1) = opn L i := by
 show opn L i + cond ((evR L i).kind == 2) 1 0 = _
 rw [h]
 rfl
theorem W4 {L : Rows} (hL : L.length ≤ 1048576) : ∀ i, i ≤ L.length → ∀ k, k < opn L i → ∃ a : Nat, (pr (Bg L i) k).1 = (a : Int) ∧ a < i ∧ opn L a = k ∧ ((evR L a).kind == 2) = true ∧
    ((k + 1 < opn L i ∧ ∃ b : Nat, (pr (Bg L i) k).2 = (b : Int) ∧ b < i ∧ opn L b = k + 1 ∧ ((evR L b).kind == 2) = true) ∨ (k + 1 = opn L i ∧ (pr (Bg L i) k).2 = (L.length : Int)))
  | 0, _, k, hk => absurd hk (Nat.not_lt_zero k)
  | i + 1, hi, k, hk => by
    have ih := W4 hL i (by omega)
    cases h2 : (evR L i).kind == 2 with
    | false =>
      rw [iR h2] at hk ⊢
      rw [aZ h2]
      obtain ⟨a, h3, h4, h5, h6, h7⟩ := ih k hk
      refine ⟨a, h3, by omega, h5, h6, ?_⟩
      rcases h7 with ⟨q, b, q1, q2, q3, q4⟩ | q
      · exact Or.inl ⟨q, b, q1, by omega, q3, q4⟩
      · exact Or.inr q
    | true =>
      rw [Py h2] at hk ⊢
      have sl := Mt L i
      have hle := RT L i
      have ha := fun (j : Nat) (hj : j < opn L i + 1) => lO (F7 (Bg L i) (i : Int)) ((i : Int), (L.length : Int)) j (by rw [RK, sl]; exact hj)
      have e : Bg L (i + 1) = F7 (Bg L i) (i : Int) ++ [((i : Int), (L.length : Int))] := by
        show cond ((evR L i).kind == 2) _ _ = _
        rw [h2]
        rfl
      rw [e, ha k hk, RK, sl]
      by_cases hkn : k < opn L i
      · rw [if_pos hkn]
        obtain ⟨a, h3, h4, h5, h6, h7⟩ := ih k hkn
        have hp : 0 < opn L i := by omega
        have ix := (eC hp (by omega)).1
        have es : F7 (Bg L i) (i : Int) = (Bg L i).set (opn L i - 1) ((pr (Bg L i) (opn L i - 1)).1, (i : Int)) := by
          unfold F7
          rw [sl, show iLt 0 (opn L i : Int) = true by simp only [iLt, decide_eq_true_eq]; omega, ix]
          rfl
        rw [es, lS _ _ _ _ (by rw [sl]; exact hkn)]
        by_cases hl : opn L i - 1 = k
        · rw [if_pos hl, hl]
          exact ⟨a, h3, by omega, h5, h6, Or.inl ⟨by omega, i, rfl, by omega, by omega, h2⟩⟩
        · rw [if_neg hl]
          refine ⟨a, h3, by omega, h5, h6, Or.inl ⟨by omega, ?_⟩⟩
          rcases h7 with ⟨q, b, q1, q2, q3, q4⟩ | q
          · exact ⟨b, q1, by omega, q3, q4⟩
          · omega
      · have hke : k = opn L i := by omega
        rw [if_neg hkn]
        exact ⟨i, rfl, by omega, hke.symm, h2, Or.inr ⟨by omega, rfl⟩⟩
theorem ic {L : Rows} {a b : Nat} (h : opn L a = opn L b) (ha : ((evR L a).kind == 2) = true) (hb : ((evR L b).kind == 2) = true) : a = b := by
 rcases Nat.lt_trichotomy a b with h1 | h1 | h1
 ·have := IK L (show a + 1 ≤ b by omega)
  have := Py ha
  omega
 ·exact h1
 ·have := IK L (show b + 1 ≤ a by omega)
  have := Py hb
  omega
def AH (L : Rows) (k : Nat) : Nat := if k < opn L L.length then (pr (Bg L L.length) k).1.toNat else L.length
structure Seg (L : Rows) (k : Nat) : Prop where
 x0 : (pr (Bg L L.length) k).1 = (AH L k : Int)
 x1 : (pr (Bg L L.length) k).2 = (AH L (k + 1) : Int)
 lt : AH L k < AH L (k + 1)
 le : AH L (k + 1) ≤ L.length
 o0 : opn L (AH L k) = k
 o1 : opn L (AH L (k + 1)) = k + 1
 mid : ∀ j, AH L k ≤ j → j < AH L (k + 1) → opn L (j + 1) = k + 1
theorem seg {L : Rows} (hL : L.length ≤ 1048576) {k : Nat} (h : k < opn L L.length) : Seg L k := by
 obtain ⟨a, h1, h2, h3, h4, h5⟩ := W4 hL L.length (Nat.le_refl _) k h
 have p0 : AH L k = a := by unfold AH; rw [if_pos h, h1]; rfl
 have key : (pr (Bg L L.length) k).2 = (AH L (k + 1) : Int) ∧ a < AH L (k + 1) ∧ AH L (k + 1) ≤ L.length ∧ opn L (AH L (k + 1)) = k + 1 := by
  rcases h5 with ⟨q, b, q1, q2, q3, q4⟩ | ⟨q, q1⟩
  ·obtain ⟨a', g1, g2, g3, g4, _⟩ := W4 hL L.length (Nat.le_refl _) (k + 1) q
   have e : a' = b := ic (g3.trans q3.symm) g4 q4
   subst e
   have p1 : AH L (k + 1) = a' := by unfold AH; rw [if_pos q, g1]; rfl
   rw [p1]
   refine ⟨q1, ?_, by omega, q3⟩
   rcases Nat.lt_or_ge a a' with hl | hl
   ·exact hl
   ·have := IK L hl
    omega
  ·have p1 : AH L (k + 1) = L.length := by unfold AH; rw [if_neg (by omega)]
   rw [p1]
   exact ⟨q1, h2, Nat.le_refl _, q.symm⟩
 obtain ⟨k1, k2, k3, k4⟩ := key
 refine ⟨by rw [h1, p0], k1, by rw [p0]; exact k2, k3, by rw [p0]; exact h3, k4, fun j j1 j2 => ?_⟩
 rw [p0] at j1
 have m1 := IK L (show a + 1 ≤ j + 1 by omega)
 have m2 := IK L (show j + 1 ≤ AH L (k + 1) by omega)
 rw [Py h4] at m1
 omega
theorem kF (L : Rows) : AH L (opn L L.length) = L.length := by unfold AH; rw [if_neg (Nat.lt_irrefl _)]
theorem kr (L : Rows) {a b : Nat} (i j : Nat) (h : i < b - a) : AE ((L.take b).drop a) i j = AE L (a + i) j := by
 unfold AE Ag
 rw [List.getD_eq_getElem?_getD, List.getD_eq_getElem?_getD, List.getElem?_drop, List.getElem?_take, if_pos (by omega)]
theorem gA (L : Rows) {a b : Nat} (i : Nat) (h : i < b - a) : evR ((L.take b).drop a) i = evR L (a + i) := by
 unfold evR atI atB
 simp only [kr L i _ h]
theorem eJ {L : Rows} {a b : Nat} (h : b ≤ L.length) : ((L.take b).drop a).length = b - a := by
 rw [List.length_drop, List.length_take]
 omega
def RF (e : Ev) : Bool := cond (e.kind == 4) (!(e.ball.how == 0)) (cond (e.kind == 5) e.yes (cond (e.kind == 6) (!e.yes) false))
theorem f8 (e : Ev) : Mq e = cond (RF e) 1 0 := by
 unfold Mq RF DI
 cases h4 : e.kind == 4
 ·cases h5 : e.kind == 5
  ·cases h6 : e.kind == 6 <;> cases e.yes <;> rfl
  ·rw [beq_iff_eq.1 h5]; cases e.yes <;> rfl
 ·cases e.ball.how == 0 <;> rfl
theorem cy {N : Nat} {e0 e1 e2 e3 e5 e6 e7 e8 e9 e10 e11 e13 e14 e15 e16 e18 : Int} {e4 e12 e17 : Bool}  : Jg N [.int e0, .int e1, .int e2, .int e3, .bool e4, .int e5, .int e6, .int e7, .int e8, .int e9, .int e10, .int e11, .bool e12, .int e13, .int e14, .int e15, .int e16, .bool e17, .int e18] = some [.bool (RF (⟨e0, e1, e2, e3, e4, e5, e6, ⟨e7, e8, e9, e10, e11, e12, e13, e14, e15, e16, e17, e18⟩⟩ : Ev))] := by
 show M8 (std (TN N) N) (xOf _) = _
 simp only [M8, std, xOf, PXb, PXc, PXn, PXm, Nat.reduceAdd, Int.reduceBEq]
 unfold RF
 simp only
 cases e0 == 4 <;> cases e0 == 5 <;> cases e0 == 6 <;> rfl
def eV : Option Nat → Int
 | some j => (j : Int)
 | none => -1
theorem Y4 (sd : Nat → Int) (s : Int) (k : Nat) : ∀ c, c ≤ k + 1 → A8 (fun i => cond (sd (k - i) == s) (some [.int ((k - i : Nat) : Int)]) none) c (k + 1 - c) = (Dk sd s c).map fun j : Nat => [PV.int (j : Int)]
 | 0, _ => rfl
 | c + 1, h => by
  have ih := Y4 sd s k c (by omega)
  have e1 : k - (k + 1 - (c + 1)) = c := by omega
  have e2 : k + 1 - (c + 1) + 1 = k + 1 - c := by omega
  simp only [A8, Dk, e1, e2, ih]
  cases sd c == s <;> rfl
theorem cH (sd : Nat → Int) (s : Int) : ∀ c i, A8 (fun i => cond (sd i == s) (some [.int (i : Int)]) none) c i = (Wt sd s c i).map fun j : Nat => [PV.int (j : Int)]
 | 0, _ => rfl
 | c + 1, i => by
  simp only [A8, Wt, cH sd s c (i + 1)]
  cases sd i == s <;> rfl
theorem gS {N : Nat} {sd : Nat → Int} {n k : Nat} {s : Int} (hN : 2097152 < N) (hn : n ≤ 1048576) (hk : k < n) {F G : (List AQ → Option (List PV)) → List PV → Option (List PV)}
    (f0 : ∀ self, F self [.int (-1)] = some [.int 1]) (f1 : ∀ (j : Nat) self, j < n → F self [.int (j : Int)] = cond (sd j == s) (some [.int 0, .int (j : Int)]) (self [.int ((j : Int) - 1)]))
    (g0 : ∀ self, G self [.int (n : Int)] = some [.int 1]) (g1 : ∀ (j : Nat) self, j < n → G self [.int (j : Int)] = cond (sd j == s) (some [.int 0, .int (j : Int)]) (self [.int ((j : Int) + 1)])) :
    ((DB F N [.int (k : Int)]).bind fun c => cond (pvI (AJ c 0) == ((0 : Nat) : Int)) (some [PV.int (pvI (AJ c 1))]) ((DB G N [.int (IntKind.i64.wrap ((k : Int) + 1))]).bind fun c => cond (pvI (AJ c 0) == ((0 : Nat) : Int)) (some [PV.int (pvI (AJ c 1))]) (some [PV.int (-1)]))) = some [.int (eV (JG sd n k s))] := by
  have a1 := Sn (F := F) (len := k + 1) (fun i => [.int ((k : Int) - (i : Int))]) (fun i => cond (sd (k - i) == s) (some [.int ((k - i : Nat) : Int)]) none)
    (fun self => by
      show F self [.int ((k : Int) - ((k + 1 : Nat) : Int))] = _
      rw [show (k : Int) - ((k + 1 : Nat) : Int) = -1 by omega]
      exact f0 self)
    (fun i self hi => by
      show F self [.int ((k : Int) - (i : Int))] = _
      rw [show (k : Int) - (i : Int) = ((k - i : Nat) : Int) by omega, f1 (k - i) self (by omega), show ((k - i : Nat) : Int) - 1 = (k : Int) - ((i + 1 : Nat) : Int) by omega]
      cases sd (k - i) == s <;> rfl) (k + 1) 0 N (by omega) (by omega)
  have fb := Y4 sd s k (k + 1) (Nat.le_refl _)
  rw [Nat.sub_self] at fb
  rw [fb] at a1
  have a1 : DB F N [.int ((k : Int) - ((0 : Nat) : Int))] = _ := a1
  rw [show (k : Int) - ((0 : Nat) : Int) = (k : Int) by omega] at a1
  rw [a1, Ar (show k ≤ 1099511627776 by omega)]
  unfold JG
  cases Dk sd s (k + 1) with
  | some j => rfl
  | none =>
    have a2 := CE (F := G) (len := n) (fun i => cond (sd i == s) (some [.int (i : Int)]) none) g0 (fun i self hi => by rw [g1 i self hi]; cases sd i == s <;> rfl) (n - (k + 1)) (k + 1) N (by omega) (by omega)
    rw [cH] at a2
    rw [show ((k : Int) + 1) = ((k + 1 : Nat) : Int) by omega, a2]
    cases Wt sd s (n - (k + 1)) (k + 1) <;> rfl
theorem lf (n : Int) : iLe 0 (-1) = false := rfl
theorem gF (j : Nat) : iLe 0 (j : Int) = true := by simp only [iLe, decide_eq_true_eq]; omega
theorem gy {j : Nat} (h : j ≤ 1048576) : IntKind.i64.wrap ((j : Int) - 1) = (j : Int) - 1 := DQ (by omega) (by omega)
set_option maxHeartbeats 1000000 in
theorem dQ {N : Nat} {sd : Nat → Int} {n k : Nat} {s : Int} (hN : 2097152 < N) (hn : n ≤ 1048576) (hk : k < n) : HR N [.rows (F8 (zs sd n)), .int (k : Int), .int s] = some [.int (eV (JG sd n k s))] := by
 show M1 (std (Sy N) N) (xOf _) = _
 simp only [M1, std, xOf, PXb]
 refine gS hN hn hk ?_ ?_ ?_ ?_
 ·intro self
  simp only [PXb, PXc, PXn, AG, lf 0]
 ·intro j self hj
  simp only [PXb, PXc, PXn, AG, gF, MG, R4, Ac hj, B8, eu _ hj, gy (show j ≤ 1048576 by omega)]
 ·intro self
  simp only [PXb, PXc, PXn, AG, MG, R4, BK]
 ·intro j self hj
  simp only [PXb, PXc, PXn, AG, MG, R4, A1 hj, Ac hj, B8, eu _ hj, Ar (show j ≤ 1099511627776 by omega)]
theorem D3 {L : Rows} {f : Ev → Int} {c : Int} (hf : ∀ e, 0 ≤ f e ∧ f e ≤ c) (j : Nat) : ∀ i : Nat, 0 ≤ smi L f j i ∧ smi L f j i ≤ c * (i : Int)
 | 0 => by
  have : smi L f j 0 = 0 := rfl
  rw [this]
  omega
 | i + 1 => by
  have ih := D3 (L := L) hf j i
  have h1 := hf (evR L i)
  rw [MO, show c * ((i + 1 : Nat) : Int) = c * (i : Int) + c by rw [show ((i + 1 : Nat) : Int) = (i : Int) + 1 by omega, Int.mul_add, Int.mul_one]]
  have h2 := hf (evR L i)
  generalize c * (i : Int) = z at ih ⊢
  cases Nat.beq (opn L (i + 1)) (j + 1) <;> simp only [cond_true, cond_false] <;> omega
theorem lE (L : Rows) (sd : Nat → Int) (n j : Nat) : ∀ i : Nat, 0 ≤ pnS L sd n j i ∧ pnS L sd n j i ≤ 5 * (i : Int)
 | 0 => by
  have : pnS L sd n j 0 = 0 := rfl
  rw [this]
  omega
 | i + 1 => by
  have ih := lE L sd n j i
  rw [Yl]
  cases ((evR L i).kind == 13 && isS (JG sd n (opn L (i + 1) - 1) (evR L i).side) j) <;> simp only [cond_true, cond_false] <;> omega
structure Sml (x : Sco) : Prop where
 runs : 0 ≤ x.runs ∧ x.runs ≤ 1000000
 wk : 0 ≤ x.wickets ∧ x.wickets ≤ 1000000
 balls : 0 ≤ x.balls ∧ x.balls ≤ 1000000
 wides : 0 ≤ x.wides ∧ x.wides ≤ 1000000
 no : 0 ≤ x.noballs ∧ x.noballs ≤ 1000000
 bb : 0 ≤ x.byes ∧ x.byes ≤ 1000000
 lb : 0 ≤ x.legbyes ∧ x.legbyes ≤ 1000000
 pens : 0 ≤ x.pens ∧ x.pens ≤ 1000000
theorem jX {r : Rul} (h : RulOk r) (e : Ev) : 0 ≤ SZ r e ∧ SZ r e ≤ 62 := by
 have c := B9 h e
 have h0 := c.ba
 have h1 := c.wi
 have h2 := c.no
 have h3 := c.bb
 have h4 := c.lb
 have h5 := c.tot
 unfold SZ
 omega
theorem dg {r : Rul} (h : RulOk r) (L : Rows) (sd : Nat → Int) (n j : Nat) {i : Nat} (hi : i ≤ 4000) : Sml (BB r L sd n j i) := by
 have p := lE L sd n j i
 have b1 := D3 (L := L) (jX h) j i
 have b2 := D3 (L := L) lN j i
 have b3 := D3 (L := L) (f := jA r) (c := 1) (fun e => by unfold jA; cases (Ah r e).counts <;> simp) j i
 have b4 := D3 (L := L) (f := fun e => (Ah r e).wides) (fun e => (B9 h e).wi) j i
 have b5 := D3 (L := L) (f := fun e => (Ah r e).noballs) (fun e => (B9 h e).no) j i
 have b6 := D3 (L := L) (f := fun e => (Ah r e).byes) (fun e => (B9 h e).bb) j i
 have b7 := D3 (L := L) (f := fun e => (Ah r e).legbyes) (fun e => (B9 h e).lb) j i
 unfold BB
 constructor <;> (simp only; omega)
end Go.Px
end
