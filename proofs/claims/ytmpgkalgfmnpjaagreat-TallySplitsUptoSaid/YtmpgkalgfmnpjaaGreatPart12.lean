/- Part 12. -/
import Derived.Test.YtmpgkalgfmnpjaaGreatPart11
set_option linter.unusedVariables false
set_option linter.unusedSimpArgs false
section
namespace Go.Px
set_option maxRecDepth 100000
def Eu (xs : List Int) : Rows := xs.map fun x => [.int x]
theorem IM (xs : List Int) : (Eu xs).length = xs.length := List.length_map _
theorem mc (xs : List Int) (i : Nat) : Af (Eu xs) i = (match xs[i]? with | some x => [.int x] | none => []) := by
 unfold Af Eu
 rw [List.getD_eq_getElem?_getD, List.getElem?_map]
 cases xs[i]? <;> rfl
theorem mz (xs : List Int) (i : Nat) : atI (Eu xs) i 0 = xs.getD i 0 := by
 unfold atI AE
 rw [mc, List.getD_eq_getElem?_getD]
 cases xs[i]? <;> rfl
structure SumSt (D : Rows) (n i : Nat) (s : List Int × List Int × Int) : Prop where
 l1 : s.1.length = n
 l2 : s.2.1.length = n
 r : ∀ k, k < n → s.1.getD k 0 = wr (rS D k i)
 b : ∀ k, k < n → s.2.1.getD k 0 = wr (bS D k i)
 h : s.2.2 = wr (hS D i)
end Go.Px
end
section
namespace Go.Px
set_option maxRecDepth 100000
structure Sco where
 side : Int
 runs : Int
 wickets : Int
 balls : Int
 wides : Int
 noballs : Int
 byes : Int
 legbyes : Int
 pens : Int
 ending : Int
theorem BC {n : Int} (h1 : -1000000000000 ≤ n) (h2 : n ≤ 1000000000000) : IntKind.i64.wrap n = n := C2 (by omega) (by omega)
theorem dp {d : Del} (h : (Fi d == 0) = true) : (0 ≤ d.runs ∧ d.runs ≤ 7) ∧ (0 ≤ d.short ∧ d.short ≤ d.runs) ∧ (d.boundary = 0 ∨ d.boundary = 4 ∨ d.boundary = 6) := by
 unfold Fi at h
 cases h1 : (iLt d.type 1 || iLt 3 d.type || iLt 3 d.source || iLt 10 d.how || !btw d.sector 0 8) with
 | true => rw [h1] at h; cases h
 | false =>
  cases h2 : (!btw d.runs 0 7 || !btw d.short 0 d.runs || (!(d.boundary == 0) && !(d.boundary == 4) && !(d.boundary == 6))) with
  | true => rw [h1, h2] at h; cases h
  | false =>
   simp only [btw, iLe, Bool.or_eq_false_iff, Bool.not_eq_false', Bool.and_eq_true, Bool.and_eq_false_iff, decide_eq_true_eq, beq_iff_eq] at h2
   omega
structure CreOk (c : Cre) : Prop where
 ba : 0 ≤ c.batter ∧ c.batter ≤ 13
 wi : 0 ≤ c.wides ∧ c.wides ≤ 18
 no : 0 ≤ c.noballs ∧ c.noballs ≤ 5
 bb : 0 ≤ c.byes ∧ c.byes ≤ 13
 lb : 0 ≤ c.legbyes ∧ c.legbyes ≤ 13
 bo : c.bowler = c.batter + c.wides + c.noballs
 tot : C6 c = c.batter + c.wides + c.noballs + c.byes + c.legbyes
theorem go {b w o y l bo : Int} {x1 x2 x3 x4 : Bool} (hb : 0 ≤ b ∧ b ≤ 13) (hw : 0 ≤ w ∧ w ≤ 18) (ho : 0 ≤ o ∧ o ≤ 5) (hy : 0 ≤ y ∧ y ≤ 13) (hl : 0 ≤ l ∧ l ≤ 13) (hbo : bo = IntKind.i64.wrap (IntKind.i64.wrap (b + w) + o)) : CreOk ⟨b, w, o, y, l, bo, x1, x2, x3, x4⟩ := by
 refine ⟨hb, hw, ho, hy, hl, ?_, ?_⟩
 ·show bo = b + w + o
  rw [hbo, BC (n := b + w) (by omega) (by omega), BC (by omega) (by omega)]
 ·show IntKind.i64.wrap (IntKind.i64.wrap (IntKind.i64.wrap (IntKind.i64.wrap (b + w) + o) + y) + l) = b + w + o + y + l
  rw [BC (n := b + w) (by omega) (by omega), BC (n := b + w + o) (by omega) (by omega), BC (n := b + w + o + y) (by omega) (by omega), BC (by omega) (by omega)]
def KG : Cre := ⟨0, 0, 0, 0, 0, 0, false, false, false, false⟩
theorem cP : CreOk KG := go (by decide) (by decide) (by decide) (by decide) (by decide) rfl
theorem iK {r : Rul} (h : RulOk r) (d : Del) : CreOk (AB r d) := by
 unfold AB
 cases hl : Fi d == 0 with
 | false => exact cP
 | true =>
  obtain ⟨⟨a1, a2⟩, ⟨a3, a4⟩, a5⟩ := dp hl
  have hw := h.wide
  have hn := h.noball
  have e1 : IntKind.i64.wrap (IntKind.i64.wrap (d.runs - d.short) + d.boundary) = d.runs - d.short + d.boundary := by
   rw [BC (n := d.runs - d.short) (by omega) (by omega), BC (by omega) (by omega)]
  have n0 : 0 ≤ d.runs - d.short + d.boundary ∧ d.runs - d.short + d.boundary ≤ 13 := by omega
  simp only [Bool.not_true, cond_false, QV, e1]
  generalize d.runs - d.short + d.boundary = n at n0
  have e2 : IntKind.i64.wrap (r.wide + n) = r.wide + n := BC (by omega) (by omega)
  have c13 : ∀ b : Bool, 0 ≤ cond b n 0 ∧ cond b n 0 ≤ 13 := fun b => by cases b <;> simp <;> omega
  refine go (c13 _) ?_ ?_ (c13 _) (c13 _) rfl
  ·rw [e2]; cases d.type == 2 <;> simp <;> omega
  ·cases d.type == 3 <;> simp <;> omega
def As (r : Rul) (e : Ev) : Cre := cond (e.kind == 4) (AB r e.ball) KG
theorem EH {r : Rul} (h : RulOk r) (e : Ev) : CreOk (As r e) := by
 unfold As
 cases e.kind == 4
 ·exact cP
 ·exact iK h _
theorem l7 (e : Ev) : 0 ≤ MX e ∧ MX e ≤ 1 := by
 unfold MX DF
 cases e.kind == 4 <;> cases e.ball.how == 0 <;> cases (e.kind == 5 && e.yes || e.kind == 6 && !e.yes) <;> decide
def BU (q : Int) (s : Inn) : Sco := ⟨s.side, s.runs, s.wickets, Cb q s.complete s.inover, s.wides, s.noballs, s.byes, s.legbyes, s.pens, 0⟩
def Mx (r : Rul) (e : Ev) (x : Sco) : Sco := ⟨x.side, x.runs + C6 (As r e), x.wickets + MX e, x.balls + cond (As r e).counts 1 0, x.wides + (As r e).wides, x.noballs + (As r e).noballs, x.byes + (As r e).byes, x.legbyes + (As r e).legbyes, x.pens, x.ending⟩
def KW (n : Int) (x : Sco) : Sco := ⟨x.side, x.runs + n, x.wickets, x.balls, x.wides, x.noballs, x.byes, x.legbyes, x.pens + n, x.ending⟩
theorem Cv (x : Sco) : KW 0 x = x := by
 obtain ⟨x0, x1, x2, x3, x4, x5, x6, x7, x8, x9⟩ := x
 simp only [KW, Int.add_zero]
theorem Wo {r : Rul} {e : Ev} (x : Sco) (hk : (e.kind == 4) = false) : Mx r e x = { x with wickets := x.wickets + DF e } := by
 have c0 : As r e = KG := by unfold As; rw [hk]; rfl
 have o0 : MX e = DF e := by unfold MX; rw [hk]; rfl
 have t0 : C6 KG = 0 := rfl
 unfold Mx
 rw [c0, o0, t0]
 simp only [KG, cond_false, Int.add_zero]
theorem Ql {r : Rul} {e : Ev} (x : Sco) (hk : (e.kind == 4) = false) (ho : DF e = 0) : Mx r e x = x := by
 rw [Wo x hk, ho, Int.add_zero]
theorem mR {r : Rul} {s : Inn} (ok : InnOk r s) : 0 ≤ s.wickets ∧ s.wickets ≤ 11 := by
 have h := ok.bat
 unfold VR at h
 simp only [Bool.and_eq_true] at h
 have h1 := beq_iff_eq.1 h.2.2
 have h2 := bn (pIs s.batters 2) s.batters.length
 have h3 := (Ez ok.code).side
 have h4 := ok.lb
 unfold W5 at h1
 omega
theorem mb {c q : Int} (hc : 0 ≤ c ∧ c ≤ 1000000000) (hq : 0 ≤ q ∧ q ≤ 8) : 0 ≤ c * q ∧ c * q ≤ 8000000000 := by
 refine ⟨Int.mul_nonneg hc.1 hq.1, ?_⟩
 have h1 := Int.mul_le_mul_of_nonneg_right hc.2 hq.1
 have h2 := Int.mul_le_mul_of_nonneg_left hq.2 (show (0 : Int) ≤ 1000000000 by omega)
 omega
theorem jj {r : Rul} {s : Inn} (ok : InnOk r s) : Cb r.balls s.complete s.inover = s.complete * r.balls + s.inover ∧ 0 ≤ Cb r.balls s.complete s.inover ∧ Cb r.balls s.complete s.inover ≤ 9000000000 := by
 have h1 := (Ez ok.code).balls
 have h2 := ok.io
 have h3 := mb ok.complete (show 0 ≤ r.balls ∧ r.balls ≤ 8 by omega)
 rw [Pt]
 have : wr (s.complete * r.balls + s.inover) = s.complete * r.balls + s.inover := BC (by omega) (by omega)
 rw [this]
 omega
theorem mo {x a d : Int} (h : wr (x - a) = d) (hx : wr x = x) (ha : 0 ≤ a ∧ a ≤ 9000000000) (hd : 0 ≤ d ∧ d ≤ 1000) : x = a + d := by
 simp only [wr, Kw] at h hx
 omega
theorem kZ (q : Int) (r : Rul) (t : Inn) (b : Bool) : BU q (Bh r t b) = BU q t := rfl
theorem i9 {r : Rul} {s : Inn} {e : Ev} (hk : (e.kind == 4) = true) (h : ((Al r s e).2 == 0) = true) : BU r.balls (Al r s e).1 = Mx r e (BU r.balls s) := by
 obtain ⟨g1, g2, g3, g4, g5, g6, g7, g8, g9, g10⟩ := iL hk h
 obtain ⟨hv, he, hn, hw, hp, hs⟩ := ZS h
 have ok := NV.1 hv
 have rk := Ez ok.code
 have co := iK rk e.ball
 have k4 := beq_iff_eq.1 hk
 have hpb : B4 r s e = LN r s e.ball := by unfold B4; rw [k4]; rfl
 rw [hpb] at hp hs
 obtain ⟨hr, hb⟩ := ee hp
 obtain ⟨q1, q2, q3, q4, q5, q6⟩ := Zh hr
 have ce : As r e = AB r e.ball := by unfold As; rw [hk]; rfl
 have od : MX e = cond (e.ball.how == 0) 0 1 := by unfold MX; rw [hk]; rfl
 have hx := jj ok
 have r0 := ok.runs
 have w0 := ok.wides
 have n0 := ok.noballs
 have b0 := ok.byes
 have l0 := ok.legbyes
 have wk := mR ok
 unfold Bj at r0 w0 n0 b0 l0
 have f0 := co.ba
 have f1 := co.wi
 have f2 := co.no
 have f3 := co.bb
 have f4 := co.lb
 have f5 := co.tot
 rw [hs, hb] at g1 g7 g8 ⊢
 have e1 : (Bh r (Hk r s e.ball) (e.kind == 4)).runs = IntKind.i64.wrap (s.runs + C6 (AB r e.ball)) := rfl
 have e2 : (Bh r (Hk r s e.ball) (e.kind == 4)).wides = IntKind.i64.wrap (s.wides + (AB r e.ball).wides) := rfl
 have e3 : (Bh r (Hk r s e.ball) (e.kind == 4)).noballs = IntKind.i64.wrap (s.noballs + (AB r e.ball).noballs) := rfl
 have e4 : (Bh r (Hk r s e.ball) (e.kind == 4)).byes = IntKind.i64.wrap (s.byes + (AB r e.ball).byes) := rfl
 have e5 : (Bh r (Hk r s e.ball) (e.kind == 4)).legbyes = IntKind.i64.wrap (s.legbyes + (AB r e.ball).legbyes) := rfl
 have e6 : (Bh r (Hk r s e.ball) (e.kind == 4)).side = s.side ∧ (Bh r (Hk r s e.ball) (e.kind == 4)).pens = s.pens ∧ (Bh r (Hk r s e.ball) (e.kind == 4)).wickets = (Ad s e.ball).wickets := by
  obtain ⟨w1, w2⟩ := eZ r (Ad s e.ball) (AB r e.ball).counts
  obtain ⟨k1, k2, k3, k4, k5, k6, k7, k8, k9, k10⟩ := XB s e.ball
  have w3 : (Ai r (Ad s e.ball) (AB r e.ball).counts).1.side = s.side := by
   have s1 : (Ad s e.ball).side = s.side := by
    unfold Ad
    cases (!(e.ball.runs.tmod 2 == 0) != e.ball.crossed) <;> exact P_c (P := fun x : Inn => x.side = s.side) _ _ _ rfl (P_c (P := fun x : Inn => x.side = s.side) _ _ _ rfl rfl)
   unfold Ai
   exact P_c (P := fun x : Inn × Bool => x.1.side = s.side) _ _ _ s1 (P_c (P := fun x : Inn × Bool => x.1.side = s.side) _ _ _ s1 s1)
  refine ⟨?_, ?_, ?_⟩
  ·show (cond (Ai r (Ad s e.ball) (AB r e.ball).counts).2 (Hb (Ai r (Ad s e.ball) (AB r e.ball).counts).1) (Ai r (Ad s e.ball) (AB r e.ball).counts).1).side = _
   rw [← w3]
   cases (Ai r (Ad s e.ball) (AB r e.ball).counts).2 <;> rfl
  ·show (cond (Ai r (Ad s e.ball) (AB r e.ball).counts).2 (Hb (Ai r (Ad s e.ball) (AB r e.ball).counts).1) (Ai r (Ad s e.ball) (AB r e.ball).counts).1).pens = _
   rw [← k6, ← w2]
   cases (Ai r (Ad s e.ball) (AB r e.ball).counts).2 <;> rfl
  ·show (cond (Ai r (Ad s e.ball) (AB r e.ball).counts).2 (Hb (Ai r (Ad s e.ball) (AB r e.ball).counts).1) (Ai r (Ad s e.ball) (AB r e.ball).counts).1).wickets = _
   rw [← w1]
   cases (Ai r (Ad s e.ball) (AB r e.ball).counts).2 <;> rfl
 obtain ⟨z1, z2⟩ := cc q1 (bP hw (by rw [k4]; rfl))
 have hout := ez (d := e.ball) z1 z2 (fun hd => WS q5 hd)
 have wv : IntKind.i64.wrap (Cb r.balls (Bh r (Hk r s e.ball) (e.kind == 4)).complete (Bh r (Hk r s e.ball) (e.kind == 4)).inover) = Cb r.balls (Bh r (Hk r s e.ball) (e.kind == 4)).complete (Bh r (Hk r s e.ball) (e.kind == 4)).inover := Fd _
 have hb7 := mo g7 wv (by omega) (by cases (AB r e.ball).counts <;> simp)
 unfold BU Mx
 rw [e1, e2, e3, e4, e5, e6.1, e6.2.1, e6.2.2, hb7, ce, od, hout]
 have i1 : IntKind.i64.wrap (s.runs + C6 (AB r e.ball)) = s.runs + C6 (AB r e.ball) := BC (by omega) (by omega)
 have i2 : IntKind.i64.wrap (s.wides + (AB r e.ball).wides) = s.wides + (AB r e.ball).wides := BC (by omega) (by omega)
 have i3 : IntKind.i64.wrap (s.noballs + (AB r e.ball).noballs) = s.noballs + (AB r e.ball).noballs := BC (by omega) (by omega)
 have i4 : IntKind.i64.wrap (s.byes + (AB r e.ball).byes) = s.byes + (AB r e.ball).byes := BC (by omega) (by omega)
 have i5 : IntKind.i64.wrap (s.legbyes + (AB r e.ball).legbyes) = s.legbyes + (AB r e.ball).legbyes := BC (by omega) (by omega)
 have i6 : inc s.wickets = s.wickets + 1 := BC (by omega) (by omega)
 rw [i1, i2, i3, i4, i5, i6]
 cases e.ball.how == 0 with
 | false => rfl
 | true => simp only [cond_true, Int.add_zero]
def Kz (q : Int) (s : Inn) (x : Inn × Int) : Prop := (x.2 == 0) = true → BU q x.1 = BU q s
theorem DK {q : Int} {s : Inn} (b : Bool) (x y : Inn × Int) (hx : Kz q s x) (hy : Kz q s y) : Kz q s (cond b x y) := by cases b <;> assumption
theorem cu {r : Rul} {s : Inn} {e : Ev} (h : ((Al r s e).2 == 0) = true) : BU r.balls (Al r s e).1 = KW (cond (e.kind == 13 && e.side == s.side) 5 0) (Mx r e (BU r.balls s)) := by
 cases hk : e.kind == 4 with
 | true =>
  rw [i9 hk h, beq_iff_eq.1 hk]
  exact (Cv _).symm
 | false =>
  obtain ⟨hv, he, hn, hw, hp, hs⟩ := ZS h
  have ok := NV.1 hv
  have wk := mR ok
  have iw : IntKind.i64.wrap (s.wickets + 1) = s.wickets + 1 := BC (by omega) (by omega)
  rw [hs, kZ, Wo _ hk]
  have z : ∀ {x : Inn × Int}, Kz r.balls s x → (x.2 == 0) = true → DF e = 0 → BU r.balls x.1 = KW (cond (false && e.side == s.side) 5 0) { BU r.balls s with wickets := (BU r.balls s).wickets + DF e } := fun k hx h0 => by
   rw [k hx, h0, Int.add_zero]
   exact (Cv _).symm
  have kn : ∀ {t : Inn} {n : Int}, (n == 0) = false → Kz r.balls s (t, n) := fun hn hx => by rw [hn] at hx; cases hx
  have ks : ∀ {n : Int}, Kz r.balls s (s, n) := fun _ => rfl
  revert hp
  unfold B4
  rw [hk]
  cases h5 : e.kind == 5 with
  | true =>
   have h5' := beq_iff_eq.1 h5
   have ho : DF e = cond e.yes 1 0 := by unfold DF; rw [h5']; cases e.yes <;> rfl
   rw [ho, h5']
   cases e.yes with
   | false =>
    intro hp
    refine Eq.trans (b := BU r.balls s) ?_ ?_
    ·exact (show Kz r.balls s (Nv s e.player) by unfold Nv; exact DK _ _ _ (fun _ => rfl) (fun _ => rfl)) hp
    ·simp only [cond_false, Int.add_zero]; exact (Cv _).symm
   | true =>
    intro hp
    change ((Gp s e.player).2 == 0) = true at hp
    show BU r.balls (Gp s e.player).1 = _
    unfold Gp at hp ⊢
    cases hm : MV s e.player == 0 with
    | false => rw [hm] at hp; exact absurd (show (MV s e.player == 0) = true from hp) (by rw [hm]; decide)
    | true =>
     simp only [cond_true]
     unfold BU KW
     simp only [iw, cond_true, Int.reduceBEq, Bool.false_and, cond_false, Int.add_zero]
  | false =>
   cases h6 : e.kind == 6 with
   | true =>
    have h6' := beq_iff_eq.1 h6
    have ho : DF e = cond e.yes 0 1 := by unfold DF; rw [h6']; cases e.yes <;> rfl
    rw [ho, h6']
    intro hp
    change ((I9 s e.player e.yes).2 == 0) = true at hp
    show BU r.balls (I9 s e.player e.yes).1 = _
    unfold I9 at hp ⊢
    cases hm1 : (!inR e.player s.batters.length) with
    | true => rw [hm1] at hp; cases hp
    | false =>
     cases hm2 : (s.striker == 0 || s.other == 0) with
     | true => rw [hm1, hm2] at hp; cases hp
     | false =>
      cases hm3 : (!(e.player == s.striker) && !(e.player == s.other)) with
      | true => rw [hm1, hm2, hm3] at hp; cases hp
      | false =>
       cases hm4 : (e.yes && ((D8 s.batters s.batters.length).length : Int) == 0) with
       | true => rw [hm1, hm2, hm3, hm4] at hp; cases hp
       | false =>
        simp only [cond_false]
        cases e.yes with
        | true => unfold BU KW; simp only [cond_true, Int.reduceBEq, Bool.false_and, cond_false, Int.add_zero]
        | false => unfold BU KW; simp only [iw, cond_false, Int.reduceBEq, Bool.false_and, Int.add_zero]
   | false =>
    have ho : DF e = 0 := by unfold DF; rw [h5, h6]; rfl
    cases h13 : e.kind == 13 with
    | true =>
     have k13 := beq_iff_eq.1 h13
     rw [k13, ho]
     intro hp
     change ((G7 s e.side e.runs).2 == 0) = true at hp
     show BU r.balls (G7 s e.side e.runs).1 = _
     have rn := ok.runs
     have pn := ok.pens
     unfold Bj at rn pn
     have i1 : IntKind.i64.wrap (s.runs + 5) = s.runs + 5 := BC (by omega) (by omega)
     have i2 : IntKind.i64.wrap (s.pens + 5) = s.pens + 5 := BC (by omega) (by omega)
     unfold G7 at hp ⊢
     cases hr5 : e.runs == 5 with
     | false => rw [hr5] at hp; cases hp
     | true =>
      cases hsd : e.side == s.side with
      | true =>
       simp only [Bool.not_true, cond_false, cond_true]
       unfold BU KW OL
       simp only [i1, i2, Bool.and_self, cond_true, Int.reduceBEq, Bool.true_and, Int.add_zero]
      | false =>
       simp only [Bool.not_true, cond_false, Bool.and_false, Int.add_zero]
       exact (Cv _).symm
    | false =>
     simp only [cond_false]
     intro hp
     refine z ?_ hp ho
     refine DK _ _ _ ?_ (DK _ _ _ ?_ (DK _ _ _ ?_ (DK _ _ _ ?_ (DK _ _ _ ?_ (DK _ _ _ ?_ (DK _ _ _ ?_ (DK _ _ _ ?_ ?_)))))))
     ·unfold Sv
      exact DK _ _ _ ks (DK _ _ _ ks (DK _ _ _ ks (fun _ => rfl)))
     ·unfold S5
      cases Md r s e.player == 0
      ·exact ks
      ·exact fun _ => rfl
     ·unfold KP
      exact DK _ _ _ ks (fun _ => rfl)
     ·unfold Mi
      exact DK _ _ _ ks (DK _ _ _ ks (DK _ _ _ ks (fun _ => rfl)))
     ·unfold Pb
      exact DK _ _ _ ks (DK _ _ _ ks (fun _ => rfl))
     ·unfold Kg
      exact DK _ _ _ ks (fun _ => rfl)
     ·unfold KX
      exact DK _ _ _ ks (DK _ _ _ ks (fun _ => rfl))
     ·unfold Kp
      exact DK _ _ _ ks (DK _ _ _ (fun _ => rfl) ks)
     ·unfold Mf
      exact DK _ _ _ ks (DK _ _ _ ks (DK _ _ _ ks (fun _ => rfl)))
end Go.Px
end
section
namespace Go.Px
set_option maxRecDepth 100000
def sco (xs : List Sco) (i : Nat) : Sco := xs.getD i ⟨0, 0, 0, 0, 0, 0, 0, 0, 0, 0⟩
theorem HL (xs : List Sco) (i : Nat) : sco xs i = (match xs[i]? with | some s => s | none => ⟨0, 0, 0, 0, 0, 0, 0, 0, 0, 0⟩) := by
 unfold sco
 rw [List.getD_eq_getElem?_getD]
 cases xs[i]? <;> rfl
theorem ZB (xs : List Sco) (k : Nat) (s : Sco) (i : Nat) (hi : i < xs.length) : sco (xs.set k s) i = (if k = i then s else sco xs i) := by
 rw [HL, HL, List.getElem?_set]
 by_cases h : k = i
 ·subst h
  rw [if_pos rfl, if_pos rfl, if_pos hi]
 ·rw [if_neg h, if_neg h]
structure TS where
 xs : List Sco
 p1 : Int
 p2 : Int
 first : Int
 follow : Bool
def KR (m : Mat) : TS := ⟨m.inns.map (BU m.rules.balls), m.pen1, m.pen2, m.first, m.follow⟩
theorem SG (q : Int) (xs : List Inn) {i : Nat} (h : i < xs.length) : sco (xs.map (BU q)) i = BU q (inn xs i) := by
 rw [HL, Lc, List.getElem?_map, List.getElem?_eq_getElem h]
 rfl
theorem ji (q : Int) (xs : List Inn) (i : Nat) : (sco (xs.map (BU q)) i).side = (inn xs i).side := by
 rw [HL, Lc, List.getElem?_map]
 cases xs[i]? <;> rfl
def kP (first : Int) (follow : Bool) (i : Int) : Int := cond (cond (follow && iLe 2 i) (i == 2) (i.tmod 2 == 1)) (A2 first) first
theorem fu (m : Mat) (i : Int) : Ci m i = kP m.first m.follow i := rfl
def gm (sd p : Int) : Sco := ⟨sd, p, 0, 0, 0, 0, 0, 0, p, 0⟩
def Dk (sd : Nat → Int) (s : Int) : Nat → Option Nat
 | 0 => none
 | k + 1 => cond (sd k == s) (some k) (Dk sd s k)
theorem Xv {f g : Nat → Int} {s : Int} : ∀ n, (∀ k, k < n → f k = g k) → Dk f s n = Dk g s n
 | 0, _ => rfl
 | n + 1, h => by
  unfold Dk
  rw [h n (Nat.lt_succ_self n), Xv n (fun k hk => h k (by omega))]
theorem Ut {f : Nat → Int} {s : Int} {j : Nat} : ∀ n, Dk f s n = some j → j < n ∧ f j = s
 | 0, h => by cases h
 | n + 1, h => by
  unfold Dk at h
  cases hq : f n == s with
  | true =>
   rw [hq] at h
   cases h
   exact ⟨Nat.lt_succ_self _, beq_iff_eq.1 hq⟩
  | false =>
   rw [hq] at h
   obtain ⟨h1, h2⟩ := Ut n h
   exact ⟨by omega, h2⟩
theorem eh (xs : List Inn) (sd : Int) : ∀ n, L8 xs sd n = Dk (fun k => (inn xs k).side) sd n
 | 0 => rfl
 | n + 1 => by
  unfold L8 Dk
  rw [eh xs sd n]
def j9 (T : TS) : TS :=
 let sd := kP T.first T.follow (T.xs.length : Int)
 { T with xs := T.xs ++ [gm sd (cond (sd == 2) T.p2 T.p1)], p1 := cond (sd == 1) 0 T.p1, p2 := cond (sd == 2) 0 T.p2 }
def XD (s : Int) (T : TS) : TS := match Dk (fun k => (sco T.xs k).side) s T.xs.length with
 | some k => { T with xs := T.xs.set k (KW 5 (sco T.xs k)) }
 | none => { T with p1 := cond (s == 1) (T.p1 + 5) T.p1, p2 := cond (s == 2) (T.p2 + 5) T.p2 }
def kG (r : Rul) (e : Ev) (T : TS) : TS := { T with xs := T.xs.set (T.xs.length - 1) (Mx r e (sco T.xs (T.xs.length - 1))) }
def Lr (e : Ev) : Int := cond e.yes e.side (A2 e.side)
def Sf (r : Rul) (e : Ev) (T : TS) : TS :=
 cond (e.kind == 1) { T with first := Lr e } (cond (e.kind == 2) (j9 T) (cond (e.kind == 12) { T with follow := e.yes } (cond (e.kind == 16) T (cond (e.kind == 13) (XD e.side T) (kG r e T)))))
theorem gX (x : Mat) : KR (B0 x) = KR x ∧ (B0 x).inns = x.inns ∧ ((B0 x).stage = x.stage ∨ (x.stage = 3 ∧ ((B0 x).stage = 5 ∨ ((B0 x).stage = 4 ∧ x.inns.length = 2) ∨ (B0 x).stage = 2))) := by
 unfold B0
 cases h3 : (x.stage == 3 && !((Ak x).ending == 0)) with
 | false => exact ⟨rfl, rfl, Or.inl rfl⟩
 | true =>
  rw [Bool.and_eq_true] at h3
  have s3 := beq_iff_eq.1 h3.1
  simp only [cond_true]
  unfold PQ
  dsimp only
  cases ((x.inns.length : Int) == IntKind.i64.wrap (2 * x.rules.innings) || ((x.inns.length : Int) == 3 && iLt (B1 x (Ak x).side) (B1 x (A2 (Ak x).side)))) with
  | true => exact ⟨rfl, rfl, Or.inr ⟨s3, Or.inl rfl⟩⟩
  | false =>
   cases h4 : ((x.inns.length : Int) == 2 && iLt 0 x.rules.followon && iLe x.rules.followon (IntKind.i64.wrap (B1 x x.first - B1 x (A2 x.first)))) with
   | true =>
    simp only [Bool.and_eq_true, beq_iff_eq] at h4
    exact ⟨rfl, rfl, Or.inr ⟨s3, Or.inr (Or.inl ⟨rfl, by omega⟩)⟩⟩
   | false => exact ⟨rfl, rfl, Or.inr ⟨s3, Or.inr (Or.inr rfl)⟩⟩
theorem Xs {m : Mat} (h : FQ m = true) : (0 ≤ m.pen1 ∧ m.pen1 ≤ 1000000) ∧ (0 ≤ m.pen2 ∧ m.pen2 ≤ 1000000) ∧ ((m.stage == 1) = true → m.first = 0) ∧ ((m.stage == 4) = true → m.inns.length = 2) ∧ 0 ≤ m.first ∧ m.first ≤ 2 := by
 unfold FQ ac at h
 simp only [Bool.and_eq_true, Bool.not_eq_true'] at h
 obtain ⟨⟨h1, h2, h3, h4, h5, h6, h7, h8, h9, h10⟩, h11, h12⟩ := h
 unfold Xg at h4
 simp only [Bool.or_eq_false_iff, iLt, decide_eq_false_iff_not] at h4
 simp only [Bool.or_eq_false_iff, iLt, decide_eq_false_iff_not] at h5
 refine ⟨by omega, by omega, fun hs => ?_, fun hs => ?_, by omega, by omega⟩
 ·rw [hs, Bool.true_and, Bool.not_eq_false', beq_iff_eq] at h7
  exact h7
 ·rw [hs, Bool.true_and, Bool.or_eq_false_iff, Bool.not_eq_false', Bool.not_eq_false', beq_iff_eq, beq_iff_eq] at h9
  omega
theorem gx {r : Rul} {a b c : Int} (h : ((CM r a b c).2 == 0) = true) : BU r.balls (CM r a b c).1 = gm a c ∧ (a = 1 ∨ a = 2) := by
 unfold CM at h ⊢
 cases h1 : BD r == 0 with
 | false => rw [h1] at h; exact absurd (show (BD r == 0) = true from h) (by rw [h1]; decide)
 | true =>
  cases h2 : (!btw a 1 2 || !btw b 0 1000000 || !btw c 0 1000000) with
  | true => rw [h1, h2] at h; cases h
  | false =>
   rw [Bool.or_eq_false_iff, Bool.or_eq_false_iff, Bool.not_eq_false'] at h2
   have := Rw.1 h2.1.1
   refine ⟨?_, by omega⟩
   show Sco.mk a c 0 (Cb r.balls 0 0) 0 0 0 0 c 0 = _
   rw [Pt, Int.zero_mul]
   rfl
theorem Jn (q : Int) (xs : List Inn) (k : Nat) (t : Inn) : (xs.set k t).map (BU q) = (xs.map (BU q)).set k (BU q t) := List.map_set
theorem bH (xs : List Sco) (k : Nat) (h : k < xs.length) : xs.set k (sco xs k) = xs := by
 apply List.ext_getElem?
 intro i
 rw [List.getElem?_set]
 by_cases e : k = i
 ·subst e
  rw [if_pos rfl, if_pos h, HL, List.getElem?_eq_getElem h]
 ·rw [if_neg e]
theorem lW {r : Rul} {s : Inn} (hv : GE r s = true) (q : Int) : BU q (OL s) = KW 5 (BU q s) := by
 have ok := NV.1 hv
 have rn := ok.runs
 have pn := ok.pens
 unfold Bj at rn pn
 have i1 : IntKind.i64.wrap (s.runs + 5) = s.runs + 5 := BC (by omega) (by omega)
 have i2 : IntKind.i64.wrap (s.pens + 5) = s.pens + 5 := BC (by omega) (by omega)
 unfold BU KW OL
 simp only [i1, i2]
structure Stg (m : Mat) (e : Ev) (t : Mat) : Prop where
 k1 : (e.kind == 1) = true → m.stage = 1 ∧ t.stage = 2
 k2 : (e.kind == 2) = true → m.stage = 2 ∧ m.inns.length ≤ 3
 k12 : (e.kind == 12) = true → m.stage = 4 ∧ m.inns.length = 2 ∧ t.stage = 2
 k16 : (e.kind == 16) = true → t.stage = 5
 play : (e.kind == 1) = false → (e.kind == 2) = false → (e.kind == 12) = false → (e.kind == 16) = false → m.stage = 3 ∧ 1 ≤ m.inns.length
 not1 : ¬ t.stage = 1
 four : t.stage = 4 → t.inns.length = 2
set_option maxHeartbeats 4000000 in
theorem ax {m : Mat} {e : Ev} (h : ((DD m e).2 == 0) = true) : KR (DD m e).1 = Sf m.rules e (KR m) ∧ Stg m e (DD m e).1 := by
 obtain ⟨hv, he, h5, hp, hs⟩ := Wk h
 have ok := UL hv
 obtain ⟨v1, v2, v3, v4, v5, v6⟩ := Xs hv
 obtain ⟨c1, c2, c3⟩ := gX (Hj m e).1
 rw [hs, c1]
 have len4 := ok.len
 unfold Sf
 unfold Hj at hp c2 c3 ⊢
 cases k1 : e.kind == 1 with
 | true =>
  have e1 := beq_iff_eq.1 k1
  rw [k1] at hp c2 c3
  cases s1 : m.stage == 1 with
  | false => rw [s1] at hp; cases hp
  | true =>
   rw [s1] at c2 c3
   simp only [Bool.not_true, cond_false, cond_true] at c2 c3 ⊢
   refine ⟨rfl, ?_⟩
   have st : (B0 { m with first := cond e.yes e.side (A2 e.side), stage := 2 }).stage = 2 := by
    rcases c3 with c3 | c3
    ·exact c3
    ·exact absurd c3.1 (by decide)
   exact ⟨fun _ => ⟨beq_iff_eq.1 s1, st⟩, fun k => (by rw [e1] at k; cases k), fun k => (by rw [e1] at k; cases k), fun k => (by rw [e1] at k; cases k), fun k => (by rw [e1] at k; cases k), by rw [st]; decide, (by rw [st]; intro k; cases k)⟩
 | false =>
  rw [k1] at hp c2 c3
  cases k2 : e.kind == 2 with
  | true =>
   have e2 := beq_iff_eq.1 k2
   rw [k2] at hp c2 c3
   cases s2 : m.stage == 2 with
   | false => rw [s2] at hp; cases hp
   | true =>
    rw [s2] at hp c2 c3
    simp only [Bool.not_true, cond_false, cond_true] at hp c2 c3 ⊢
    have room := ok.room s2
    have inn2 := (Ez ok.code).innings
    unfold Yi at hp c2 c3 ⊢
    cases hb : (CM m.rules (Ci m (m.inns.length : Int)) (GR m (Ci m (m.inns.length : Int))) (cond (Ci m (m.inns.length : Int) == 2) m.pen2 m.pen1)).2 == 0 with
    | false => simp only [hb, Bool.not_false, cond_true] at hp; cases hp
    | true =>
     simp only [hb, Bool.not_true, cond_false] at hp c2 c3 ⊢
     cases ht : (Al m.rules (CM m.rules (Ci m (m.inns.length : Int)) (GR m (Ci m (m.inns.length : Int))) (cond (Ci m (m.inns.length : Int) == 2) m.pen2 m.pen1)).1 e).2 == 0 with
     | false => simp only [ht, Bool.not_false, cond_true] at hp; exact absurd hp Bool.false_ne_true
     | true =>
      simp only [ht, Bool.not_true, cond_false] at c2 c3 ⊢
      have n1 := cu ht
      have o0 : DF e = 0 := by unfold DF; rw [e2]; rfl
      rw [Ql _ (by rw [e2]; rfl) o0, e2] at n1
      have n2 := n1.trans (Cv _)
      rw [(gx hb).1] at n2
      refine ⟨?_, ?_⟩
      ·unfold KR j9
       rw [← fu] at *
       simp only [List.map_append, List.map_cons, List.map_nil, n2, List.length_map]
      ·refine ⟨fun k => (by rw [k1] at k; cases k), fun _ => ⟨beq_iff_eq.1 s2, by omega⟩, fun k => (by rw [e2] at k; cases k), fun k => (by rw [e2] at k; cases k), fun _ k => (by rw [k2] at k; cases k), ?_, ?_⟩
       ·rcases c3 with c3 | ⟨_, c3 | c3 | c3⟩
        ·rw [c3]; decide
        ·rw [c3]; decide
        ·rw [c3.1]; decide
        ·rw [c3]; decide
       ·intro k
        rw [c2]
        rcases c3 with c3 | ⟨_, c3 | c3 | c3⟩
        ·rw [c3] at k; cases k
        ·rw [c3] at k; cases k
        ·exact c3.2
        ·rw [c3] at k; cases k
  | false =>
   rw [k2] at hp c2 c3
   cases k12 : e.kind == 12 with
   | true =>
    have e12 := beq_iff_eq.1 k12
    rw [k12] at hp c2 c3
    cases s4 : m.stage == 4 with
    | false => rw [s4] at hp; cases hp
    | true =>
     rw [s4] at hp c2 c3
     cases sf : e.side == m.first with
     | false => rw [sf] at hp; cases hp
     | true =>
      rw [sf] at c2 c3
      simp only [Bool.not_true, cond_false, cond_true] at c2 c3 ⊢
      refine ⟨rfl, ?_⟩
      have st : (B0 { m with follow := e.yes, stage := 2 }).stage = 2 := by
       rcases c3 with c3 | c3
       ·exact c3
       ·exact absurd c3.1 (by decide)
      exact ⟨fun k => (by rw [k1] at k; cases k), fun k => (by rw [k2] at k; cases k), fun _ => ⟨beq_iff_eq.1 s4, v4 s4, st⟩, fun k => (by rw [e12] at k; cases k), fun _ _ k => (by rw [k12] at k; cases k), by rw [st]; decide, (by rw [st]; intro k; cases k)⟩
   | false =>
    rw [k12] at hp c2 c3
    cases k16 : e.kind == 16 with
    | true =>
     rw [k16] at hp c2 c3
     simp only [cond_false, cond_true] at c2 c3 ⊢
     have st : (B0 (Xt m)).stage = 5 := by
      rcases c3 with c3 | c3
      ·exact c3
      ·exact absurd c3.1 (by show ¬ ((5 : Int) = 3); decide)
     refine ⟨?_, ⟨fun k => (by rw [k1] at k; cases k), fun k => (by rw [k2] at k; cases k), fun k => (by rw [k12] at k; cases k), fun _ => st, fun _ _ _ k => (by rw [k16] at k; cases k), by rw [st]; decide, (by rw [st]; intro k; cases k)⟩⟩
     unfold KR Xt
     simp only
     cases s3 : m.stage == 3 with
     | false => rfl
     | true =>
      have hl := VE (ok.begun s3) (by omega)
      simp only [cond_true, Jn]
      rw [show BU m.rules.balls { Ak m with ending := 5 } = sco (m.inns.map (BU m.rules.balls)) (lnx m.inns) from (SG _ _ hl).symm, bH _ _ (by rw [List.length_map]; exact hl)]
    | false =>
     rw [k16] at hp c2 c3
     simp only [cond_false] at hp c2 c3 ⊢
     cases s3 : m.stage == 3 with
     | false => rw [s3] at hp; exact absurd (show ((1 : Int) == 0) = true from hp) (by decide)
     | true =>
      rw [s3] at hp c2 c3
      simp only [Bool.not_true, cond_false] at hp c2 c3 ⊢
      have h0 := ok.begun s3
      have hl := VE h0 (by omega)
      have hlen : m.inns.length - 1 = lnx m.inns := by
       rw [beq_eq_false_iff_ne] at h0
       unfold lnx
       rw [C2 (by omega) (by omega)]
       omega
      have stg : (B0 (FH m e).1).inns.length = m.inns.length → ((B0 (FH m e).1).stage = 3 ∨ ((B0 (FH m e).1).stage = 5 ∨ ((B0 (FH m e).1).stage = 4 ∧ m.inns.length = 2) ∨ (B0 (FH m e).1).stage = 2)) → Stg m e (B0 (FH m e).1) := fun hn hq =>
       ⟨fun k => (by rw [k1] at k; cases k), fun k => (by rw [k2] at k; cases k), fun k => (by rw [k12] at k; cases k), fun k => (by rw [k16] at k; cases k), fun _ _ _ _ => ⟨beq_iff_eq.1 s3, by omega⟩, by
        rcases hq with q | q | q | q
        ·rw [q]; decide
        ·rw [q]; decide
        ·rw [q.1]; decide
        ·rw [q]; decide, by
        intro k
        rw [hn]
        rcases hq with q | q | q | q
        ·rw [q] at k; cases k
        ·rw [q] at k; cases k
        ·exact q.2
        ·rw [q] at k; cases k⟩
      have xl : (m.inns.map (BU m.rules.balls)).length = m.inns.length := List.length_map _
      cases hq : (Al m.rules (Ak m) e).2 == 0 with
      | false => unfold FH at hp; simp only [hq, Bool.not_false, cond_true] at hp; exact absurd hp Bool.false_ne_true
      | true =>
       have n1 := cu hq
       have sd1 : (Al m.rules (Ak m) e).1.side = (Ak m).side := congrArg Sco.side n1
       have s3' := beq_iff_eq.1 s3
       cases k13 : e.kind == 13 with
       | false =>
        rw [k13] at n1
        have n2 := n1.trans (Cv _)
        have pm : FH m e = ({ m with inns := m.inns.set (lnx m.inns) (Al m.rules (Ak m) e).1 }, 0) := by
         unfold FH
         simp only [hq, k13, Bool.not_true, Bool.false_and, cond_false]
        rw [pm] at c2 c3 stg ⊢
        refine ⟨?_, stg (by rw [c2]; exact List.length_set) ?_⟩
        ·unfold KR kG
         simp only [cond_false, Jn, n2, xl, hlen, SG _ _ hl]
         rfl
        ·rcases c3 with c3 | ⟨_, c3 | c3 | c3⟩
         ·exact Or.inl (c3.trans s3')
         ·exact Or.inr (Or.inl c3)
         ·exact Or.inr (Or.inr (Or.inl ⟨c3.1, by have := c3.2; change (m.inns.set _ _).length = 2 at this; rw [List.length_set] at this; exact this⟩))
         ·exact Or.inr (Or.inr (Or.inr c3))
       | true =>
        have e13 := beq_iff_eq.1 k13
        have o0 : DF e = 0 := by unfold DF; rw [e13]; rfl
        rw [Ql _ (by rw [e13]; rfl) o0, k13, Bool.true_and] at n1
        have bk : Dk (fun k => (sco (m.inns.map (BU m.rules.balls)) k).side) e.side m.inns.length = cond (e.side == (Ak m).side) (some (lnx m.inns)) (Dk (fun k => (inn m.inns k).side) e.side (lnx m.inns)) := by
         have : m.inns.length = lnx m.inns + 1 := by omega
         rw [this]
         show cond ((sco (m.inns.map (BU m.rules.balls)) (lnx m.inns)).side == e.side) _ (Dk (fun k => (sco (m.inns.map (BU m.rules.balls)) k).side) e.side (lnx m.inns)) = _
         simp only [ji]
         have sy : ((inn m.inns (lnx m.inns)).side == e.side) = (e.side == (Ak m).side) := by
          show ((Ak m).side == e.side) = _
          rw [Bool.eq_iff_iff, beq_iff_eq, beq_iff_eq]
          exact eq_comm
         rw [sy]
        cases hsd : e.side == (Ak m).side with
        | true =>
         rw [hsd] at n1 bk
         simp only [cond_true] at n1 bk
         have pm : FH m e = ({ m with inns := m.inns.set (lnx m.inns) (Al m.rules (Ak m) e).1 }, 0) := by
          unfold FH
          simp only [hq, k13, sd1, hsd, Bool.not_true, Bool.and_false, cond_false]
         rw [pm] at c2 c3 stg ⊢
         refine ⟨?_, stg (by rw [c2]; exact List.length_set) ?_⟩
         ·unfold KR XD
          simp only [cond_true, Jn, n1, xl, bk, SG _ _ hl]
          rfl
         ·rcases c3 with c3 | ⟨_, c3 | c3 | c3⟩
          ·exact Or.inl (c3.trans s3')
          ·exact Or.inr (Or.inl c3)
          ·exact Or.inr (Or.inr (Or.inl ⟨c3.1, by have := c3.2; change (m.inns.set _ _).length = 2 at this; rw [List.length_set] at this; exact this⟩))
          ·exact Or.inr (Or.inr (Or.inr c3))
        | false =>
         rw [hsd] at n1 bk
         simp only [cond_false] at n1 bk
         have n2 := n1.trans (Cv _)
         have pm : FH m e = (HN { m with inns := m.inns.set (lnx m.inns) (Al m.rules (Ak m) e).1 } e.side, 0) := by
          unfold FH
          simp only [hq, k13, sd1, hsd, Bool.not_true, Bool.not_false, Bool.and_true, cond_true, cond_false]
         have ab : L8 (m.inns.set (lnx m.inns) (Al m.rules (Ak m) e).1) e.side (m.inns.set (lnx m.inns) (Al m.rules (Ak m) e).1).length = Dk (fun k => (inn m.inns k).side) e.side (lnx m.inns) := by
          rw [eh, List.length_set, show m.inns.length = lnx m.inns + 1 by omega]
          show cond ((inn (m.inns.set (lnx m.inns) (Al m.rules (Ak m) e).1) (lnx m.inns)).side == e.side) (some (lnx m.inns)) (Dk (fun k => (inn (m.inns.set (lnx m.inns) (Al m.rules (Ak m) e).1) k).side) e.side (lnx m.inns)) = Dk (fun k => (inn m.inns k).side) e.side (lnx m.inns)
          rw [VN _ _ _ _ hl, if_pos rfl, sd1]
          have sy : ((Ak m).side == e.side) = false := by
           rw [← hsd, Bool.eq_iff_iff, beq_iff_eq, beq_iff_eq]
           exact eq_comm
          rw [sy]
          exact Xv _ (fun k hk => by rw [VN _ _ _ _ (by omega), if_neg (by omega)])
         have mx : (m.inns.set (lnx m.inns) (Al m.rules (Ak m) e).1).map (BU m.rules.balls) = m.inns.map (BU m.rules.balls) := by
          rw [Jn, n2, show BU m.rules.balls (Ak m) = sco (m.inns.map (BU m.rules.balls)) (lnx m.inns) from (SG _ _ hl).symm]
          exact bH _ _ (by rw [xl]; exact hl)
         obtain ⟨a1, a2, a3, a4⟩ := bI (m := { m with inns := m.inns.set (lnx m.inns) (Al m.rules (Ak m) e).1 }) e.side (P3 (lnx m.inns) (Zi ok) (by
          have lv := PC (ok.innv (lnx m.inns) hl).1
          have l1 := lv.1
          have l2 := lv.2.1
          exact Pz (Qp m.rules (Ak m) e) lv.2.2 (show (inn m.inns (lnx m.inns)).before.length + (inn m.inns (lnx m.inns)).bowlers.length ≤ 1048575 by omega)))
         have a3' : (HN { m with inns := m.inns.set (lnx m.inns) (Al m.rules (Ak m) e).1 } e.side).inns.length = m.inns.length := a3.trans List.length_set
         rw [pm] at c2 c3 stg ⊢
         refine ⟨?_, stg (by rw [c2]; exact a3') ?_⟩
         ·simp only [cond_true]
          unfold HN
          simp only [ab]
          unfold XD
          show KR _ = match Dk (fun k => (sco (m.inns.map (BU m.rules.balls)) k).side) e.side (m.inns.map (BU m.rules.balls)).length with
           | some k => _
           | none => _
          rw [xl, bk]
          cases hk : Dk (fun k => (inn m.inns k).side) e.side (lnx m.inns) with
          | none =>
           have i1 : IntKind.i64.wrap (m.pen1 + 5) = m.pen1 + 5 := BC (by omega) (by omega)
           have i2 : IntKind.i64.wrap (m.pen2 + 5) = m.pen2 + 5 := BC (by omega) (by omega)
           unfold KR
           simp only [mx, i1, i2]
          | some k =>
           have hk2 := (Ut _ hk).1
           have hki : inn (m.inns.set (lnx m.inns) (Al m.rules (Ak m) e).1) k = inn m.inns k := by rw [VN _ _ _ _ (by omega), if_neg (by omega)]
           unfold KR
           simp only [hki, Jn (k := k), mx, lW (ok.innv k (by omega)).1, SG _ _ (show k < m.inns.length by omega)]
         ·rcases c3 with c3 | ⟨_, c3 | c3 | c3⟩
          ·exact Or.inl (c3.trans (a4.trans s3'))
          ·exact Or.inr (Or.inl c3)
          ·exact Or.inr (Or.inr (Or.inl ⟨c3.1, a3'.symm.trans c3.2⟩))
          ·exact Or.inr (Or.inr (Or.inr c3))
end Go.Px
end
section
namespace Go.Px
set_option maxRecDepth 100000
def opn (L : Rows) : Nat → Nat
 | 0 => 0
 | n + 1 => opn L n + cond ((evR L n).kind == 2) 1 0
theorem XQ (L : Rows) (n : Nat) : opn L n ≤ opn L (n + 1) := by
 show opn L n ≤ opn L n + _
 exact Nat.le_add_right _ _
theorem Ii (L : Rows) {i : Nat} : ∀ {j : Nat}, i ≤ j → opn L i ≤ opn L j
 | 0, h => by rw [Nat.le_zero.1 h]; exact Nat.le_refl _
 | j + 1, h => by
  by_cases e : i = j + 1
  ·rw [e]; exact Nat.le_refl _
  ·exact Nat.le_trans (Ii L (by omega)) (XQ L j)
def Cz (L : Rows) : Nat → Option Int
 | 0 => none
 | n + 1 => match Cz L n with
  | some v => some v
  | none => cond ((evR L n).kind == 1) (some (Lr (evR L n))) none
def DT (L : Rows) : Nat → Bool
 | 0 => false
 | n + 1 => DT L n || ((evR L n).kind == 12 && (evR L n).yes)
def had (L : Rows) : Nat → Bool
 | 0 => false
 | n + 1 => had L n || (evR L n).kind == 12
theorem fB {L : Rows} : ∀ n, had L n = false → DT L n = false
 | 0, _ => rfl
 | n + 1, h => by
  unfold had at h
  unfold DT
  rw [Bool.or_eq_false_iff] at h
  rw [fB n h.1, h.2]
  rfl
structure LogI (L : Rows) (i : Nat) (m : Mat) : Prop where
 len : m.inns.length = opn L i
 fs : ∀ v, Cz L i = some v → m.first = v ∧ ¬ m.stage = 1
 fn : Cz L i = none → m.first = 0
 fol : m.follow = DT L i
 k12 : had L i = true → (m.inns.length = 2 ∧ (m.stage = 2 ∨ m.stage = 5)) ∨ 3 ≤ m.inns.length
structure EvF (L : Rows) (i : Nat) : Prop where
 two : ((evR L i).kind == 2) = true → opn L i ≤ 3 ∧ ∃ v, Cz L i = some v ∧ (v = 1 ∨ v = 2)
 twelve : ((evR L i).kind == 12) = true → opn L i = 2
 play : ((evR L i).kind == 1) = false → ((evR L i).kind == 2) = false → ((evR L i).kind == 12) = false → ((evR L i).kind == 16) = false → 1 ≤ opn L i
theorem jb (s : Int) (T : TS) : (XD s T).xs.length = T.xs.length ∧ (XD s T).first = T.first ∧ (XD s T).follow = T.follow := by
 unfold XD
 cases Dk (fun k => (sco T.xs k).side) s T.xs.length with
 | none => exact ⟨rfl, rfl, rfl⟩
 | some k => exact ⟨List.length_set, rfl, rfl⟩
theorem fH (r : Rul) (e : Ev) (T : TS) : (Sf r e T).xs.length = T.xs.length + cond (e.kind == 2) 1 0 ∧ (Sf r e T).first = cond (e.kind == 1) (Lr e) T.first ∧ (Sf r e T).follow = cond (e.kind == 12) e.yes T.follow := by
 unfold Sf
 cases k1 : e.kind == 1 with
 | true =>
  rw [beq_iff_eq.1 k1]
  exact ⟨rfl, rfl, rfl⟩
 | false =>
  cases k2 : e.kind == 2 with
  | true =>
   rw [beq_iff_eq.1 k2]
   refine ⟨?_, rfl, rfl⟩
   show (T.xs ++ [_]).length = _
   rw [List.length_append]
   rfl
  | false =>
   cases k12 : e.kind == 12 with
   | true => exact ⟨rfl, rfl, rfl⟩
   | false =>
    cases k16 : e.kind == 16 with
    | true => exact ⟨rfl, rfl, rfl⟩
    | false =>
     cases k13 : e.kind == 13 with
     | true => exact jb e.side T
     | false => exact ⟨List.length_set, rfl, rfl⟩
theorem jS {L : Rows} {i : Nat} {m : Mat} (h : LogI L i m) (ha : ((DD m (evR L i)).2 == 0) = true) : LogI L (i + 1) (DD m (evR L i)).1 ∧ EvF L i := by
 obtain ⟨ab, sg⟩ := ax ha
 obtain ⟨hv, he, h5, hp, hs⟩ := Wk ha
 have vp := Xs hv
 obtain ⟨t1, t2, t3⟩ := fH m.rules (evR L i) (KR m)
 rw [← ab] at t1 t2 t3
 have x1 : ∀ z : Mat, (KR z).xs.length = z.inns.length := fun z => List.length_map _
 rw [x1, x1] at t1
 change (DD m (evR L i)).1.first = cond ((evR L i).kind == 1) (Lr (evR L i)) m.first at t2
 change (DD m (evR L i)).1.follow = cond ((evR L i).kind == 12) (evR L i).yes m.follow at t3
 have no12 : ((evR L i).kind == 12) = true → had L i = false := fun k => by
  obtain ⟨s1, s2, s3⟩ := sg.k12 k
  cases hh : had L i with
  | false => rfl
  | true => rcases h.k12 hh with ⟨_, q | q⟩ | q <;> omega
 have no5 : ¬ m.stage = 5 := beq_eq_false_iff_ne.1 h5
 refine ⟨⟨?_, ?_, ?_, ?_, ?_⟩, ⟨?_, ?_, ?_⟩⟩
 ·rw [t1, h.len]; rfl
 ·intro v hv2
  refine ⟨?_, sg.not1⟩
  rw [t2]
  unfold Cz at hv2
  cases hf : Cz L i with
  | some w =>
   rw [hf] at hv2
   cases hv2
   obtain ⟨f1, f2⟩ := h.fs _ hf
   cases k1 : (evR L i).kind == 1 with
   | true => exact absurd (sg.k1 k1).1 f2
   | false => exact f1
  | none =>
   rw [hf] at hv2
   cases k1 : (evR L i).kind == 1 with
   | true =>
    simp only [k1, cond_true] at hv2
    cases hv2
    rfl
   | false =>
    simp only [k1, cond_false] at hv2
    cases hv2
 ·intro hn
  rw [t2]
  unfold Cz at hn
  cases hf : Cz L i with
  | some w => rw [hf] at hn; cases hn
  | none =>
   rw [hf] at hn
   cases k1 : (evR L i).kind == 1 with
   | true =>
    simp only [k1, cond_true] at hn
    cases hn
   | false => exact h.fn hf
 ·rw [t3]
  unfold DT
  cases k12 : (evR L i).kind == 12 with
  | true => rw [fB i (no12 k12)]; rfl
  | false => rw [h.fol, Bool.false_and, Bool.or_false]; rfl
 ·intro hh
  rw [t1]
  unfold had at hh
  cases k12 : (evR L i).kind == 12 with
  | true =>
   obtain ⟨s1, s2, s3⟩ := sg.k12 k12
   rw [beq_iff_eq.1 k12]
   exact Or.inl ⟨s2, Or.inl s3⟩
  | false =>
   rw [k12, Bool.or_false] at hh
   rcases h.k12 hh with ⟨q1, q2⟩ | q
   ·cases k2 : (evR L i).kind == 2 with
    | true => exact Or.inr (by simp only [cond_true]; omega)
    | false =>
     refine Or.inl ⟨q1, ?_⟩
     cases k16 : (evR L i).kind == 16 with
     | true => exact Or.inr (sg.k16 k16)
     | false =>
      cases k1 : (evR L i).kind == 1 with
      | true => have := (sg.k1 k1).1; omega
      | false => have := (sg.play k1 k2 k12 k16).1; omega
   ·exact Or.inr (Nat.le_trans q (Nat.le_add_right _ _))
 ·intro k2
  obtain ⟨s1, s2⟩ := sg.k2 k2
  refine ⟨by rw [← h.len]; exact s2, ?_⟩
  have tk := (UL hv).toss (by rw [s1]; rfl)
  cases hf : Cz L i with
  | none => have := h.fn hf; omega
  | some w => exact ⟨w, rfl, by rw [← (h.fs w hf).1]; exact tk⟩
 ·intro k
  rw [← h.len]
  exact (sg.k12 k).2.1
 ·intro a b c d
  rw [← h.len]
  exact (sg.play a b c d).2
theorem kb {r : Rul} (h : ((Cl r).2 == 0) = true) : (Cl r).1 = ⟨r, 1, 0, false, [], 0, 0, 0, 0, 0⟩ ∧ BD r = 0 := by
 unfold Cl at h ⊢
 cases hc : BD r == 0 with
 | false => rw [hc] at h; exact absurd (show (BD r == 0) = true from h) (by rw [hc]; decide)
 | true => exact ⟨rfl, beq_iff_eq.1 hc⟩
theorem ef {r : Rul} {L : Rows} {n : Nat} (hc : ((Cl r).2 == 0) = true) (ha : acc L n 0 (Cl r).1) : ∀ i, i ≤ n → LogI L i (stM L i 0 (Cl r).1) ∧ StepOk r (stM L i 0 (Cl r).1) ∧ ∀ j, j < i → KR (stM L (j + 1) 0 (Cl r).1) = Sf r (evR L j) (KR (stM L j 0 (Cl r).1)) ∧ EvF L j
 | 0, _ => by
  refine ⟨?_, ek r hc, fun j hj => absurd hj (Nat.not_lt_zero j)⟩
  show LogI L 0 (Cl r).1
  rw [(kb hc).1]
  exact ⟨rfl, fun v h => (by cases h), fun _ => rfl, rfl, fun h => (by cases h)⟩
 | i + 1, hi => by
  obtain ⟨h1, h2, h3⟩ := ef hc ha i (by omega)
  have a0 := ip n 0 _ ha i (by omega)
  have s0 := dP (L := L) i 0 (Cl r).1
  rw [Nat.zero_add] at a0 s0
  have q := (gZ a0).1
  rw [q] at s0 a0
  obtain ⟨l1, l2⟩ := jS h1 a0
  rw [s0]
  refine ⟨l1, by rw [← q]; exact bh h2 _ _, fun j hj => ?_⟩
  by_cases e : j = i
  ·subst e
   rw [s0]
   refine ⟨?_, l2⟩
   rw [(ax a0).1, h2.rules]
  ·exact h3 j (by omega)
def smi (L : Rows) (f : Ev → Int) (j : Nat) : Nat → Int
 | 0 => 0
 | n + 1 => smi L f j n + cond (Nat.beq (opn L (n + 1)) (j + 1)) (f (evR L n)) 0
theorem QL (L : Rows) (f : Ev → Int) (j n : Nat) : smi L f j (n + 1) = smi L f j n + cond (Nat.beq (opn L (n + 1)) (j + 1)) (f (evR L n)) 0 := rfl
theorem YV {a b : Nat} (h : ¬ a = b) : Nat.beq a b = false := by
 cases hq : Nat.beq a b with
 | false => rfl
 | true => exact absurd (Nat.eq_of_beq_eq_true hq) h
theorem ZL (a : Nat) : Nat.beq a a = true := Nat.beq_refl a
theorem W4 {L : Rows} {f : Ev → Int} {j : Nat} : ∀ n, opn L n ≤ j → smi L f j n = 0
 | 0, _ => rfl
 | n + 1, h => by
  have := XQ L n
  unfold smi
  rw [W4 n (by omega), YV (by omega)]
  rfl
def W6 (sd : Nat → Int) (s : Int) : Nat → Nat → Option Nat
 | 0, _ => none
 | c + 1, i => cond (sd i == s) (some i) (W6 sd s c (i + 1))
theorem au {sd : Nat → Int} {s : Int} {j : Nat} : ∀ c i, W6 sd s c i = some j → i ≤ j ∧ j < i + c ∧ sd j = s ∧ ∀ k, i ≤ k → k < j → ¬ sd k = s
 | 0, _, h => by cases h
 | c + 1, i, h => by
  unfold W6 at h
  cases hq : sd i == s with
  | true =>
   rw [hq] at h
   cases h
   exact ⟨Nat.le_refl _, by omega, beq_iff_eq.1 hq, fun k h1 h2 => by omega⟩
  | false =>
   rw [hq] at h
   obtain ⟨h1, h2, h3, h4⟩ := au c (i + 1) h
   refine ⟨by omega, by omega, h3, fun k k1 k2 => ?_⟩
   by_cases e : k = i
   ·subst e; exact beq_eq_false_iff_ne.1 hq
   ·exact h4 k (by omega) k2
def JQ (sd : Nat → Int) (n k : Nat) (s : Int) : Option Nat := match Dk sd s (k + 1) with
 | some j => some j
 | none => W6 sd s (n - (k + 1)) (k + 1)
theorem jG {sd : Nat → Int} {n k j : Nat} {s : Int} (h : JQ sd n k s = some j) : sd j = s ∧ (j ≤ k ∨ (k < j ∧ j < n ∧ Dk sd s (k + 1) = none)) := by
 unfold JQ at h
 cases hb : Dk sd s (k + 1) with
 | some w =>
  rw [hb] at h
  cases h
  have := Ut _ hb
  exact ⟨this.2, Or.inl (by omega)⟩
 | none =>
  rw [hb] at h
  obtain ⟨h1, h2, h3, h4⟩ := au _ _ h
  exact ⟨h3, Or.inr ⟨by omega, by omega, rfl⟩⟩
def isS (o : Option Nat) (j : Nat) : Bool := match o with
 | some k => Nat.beq k j
 | none => false
def pnS (L : Rows) (sd : Nat → Int) (n j : Nat) : Nat → Int
 | 0 => 0
 | i + 1 => pnS L sd n j i + cond ((evR L i).kind == 13 && isS (JQ sd n (opn L (i + 1) - 1) (evR L i).side) j) 5 0
theorem Yt (L : Rows) (sd : Nat → Int) (n j i : Nat) : pnS L sd n j (i + 1) = pnS L sd n j i + cond ((evR L i).kind == 13 && isS (JQ sd n (opn L (i + 1) - 1) (evR L i).side) j) 5 0 := rfl
def pcS (L : Rows) (s : Int) : Nat → Int
 | 0 => 0
 | i + 1 => pcS L s i + cond ((evR L i).kind == 13 && (evR L i).side == s) 5 0
def kQ (L : Rows) (sd : Nat → Int) (s : Int) (k i : Nat) : Int := match Dk sd s k with
 | some _ => 0
 | none => pcS L s i
def ZO (r : Rul) (e : Ev) : Int := C6 (As r e)
def j0 (r : Rul) (e : Ev) : Int := cond (As r e).counts 1 0
def BQ (r : Rul) (L : Rows) (sd : Nat → Int) (n j i : Nat) : Sco := ⟨sd j, smi L (ZO r) j i + pnS L sd n j i, smi L MX j i, smi L (j0 r) j i, smi L (fun e => (As r e).wides) j i, smi L (fun e => (As r e).noballs) j i, smi L (fun e => (As r e).byes) j i, smi L (fun e => (As r e).legbyes) j i, pnS L sd n j i, 0⟩
theorem js (r : Rul) (L : Rows) (sd : Nat → Int) (n j i : Nat) : BQ r L sd n j (i + 1) = KW (cond ((evR L i).kind == 13 && isS (JQ sd n (opn L (i + 1) - 1) (evR L i).side) j) 5 0) (cond (Nat.beq (opn L (i + 1)) (j + 1)) (Mx r (evR L i) (BQ r L sd n j i)) (BQ r L sd n j i)) := by
 unfold BQ
 simp only [QL, Yt]
 generalize (cond ((evR L i).kind == 13 && isS (JQ sd n (opn L (i + 1) - 1) (evR L i).side) j) 5 0 : Int) = p
 cases Nat.beq (opn L (i + 1)) (j + 1) with
 | false =>
  unfold KW
  simp only [cond_false, Int.add_zero, Int.add_assoc]
 | true =>
  unfold KW Mx
  simp only [cond_true]
  rw [Sco.mk.injEq]
  refine ⟨rfl, ?_, rfl, rfl, rfl, rfl, rfl, rfl, rfl, rfl⟩
  unfold ZO
  omega
structure Clo (r : Rul) (L : Rows) (sd : Nat → Int) (n i : Nat) (T : TS) : Prop where
 len : T.xs.length = opn L i
 at' : ∀ j, j < opn L i → sco T.xs j = BQ r L sd n j i
 p1 : T.p1 = kQ L sd 1 (opn L i) i
 p2 : T.p2 = kQ L sd 2 (opn L i) i
end Go.Px
end
section
namespace Go.Px
set_option maxRecDepth 100000
def Sco.ls (s : Sco) : List PV := [.int s.side, .int s.runs, .int s.wickets, .int s.balls, .int s.wides, .int s.noballs, .int s.byes, .int s.legbyes, .int s.pens, .int s.ending]
def Ah (xs : List Sco) : Rows := xs.map Sco.ls
def dS : Sco := ⟨0, 0, 0, 0, 0, 0, 0, 0, 0, 0⟩
theorem fE (xs : List Sco) (i : Nat) : Af (Ah xs) i = (match xs[i]? with | some s => s.ls | none => []) := by
 unfold Af Ah
 rw [List.getD_eq_getElem?_getD, List.getElem?_map]
 cases xs[i]? <;> rfl
theorem cQ (xs : List Sco) : (Ah xs).length = xs.length := List.length_map _
theorem PXs : (∀ xs : List Sco, (Ah xs).length = xs.length) ∧ (∀ (xs : List Sco) (i : Nat), pvI (AE (Ah xs) i 0) = (sco xs i).side) ∧ (∀ (xs : List Sco) (i : Nat), pvI (AE (Ah xs) i 1) = (sco xs i).runs) ∧ (∀ (xs : List Sco) (i : Nat), pvI (AE (Ah xs) i 2) = (sco xs i).wickets) ∧ (∀ (xs : List Sco) (i : Nat), pvI (AE (Ah xs) i 3) = (sco xs i).balls) ∧
    (∀ (xs : List Sco) (i : Nat), pvI (AE (Ah xs) i 4) = (sco xs i).wides) ∧ (∀ (xs : List Sco) (i : Nat), pvI (AE (Ah xs) i 5) = (sco xs i).noballs) ∧ (∀ (xs : List Sco) (i : Nat), pvI (AE (Ah xs) i 6) = (sco xs i).byes) ∧ (∀ (xs : List Sco) (i : Nat), pvI (AE (Ah xs) i 7) = (sco xs i).legbyes) ∧ (∀ (xs : List Sco) (i : Nat), pvI (AE (Ah xs) i 8) = (sco xs i).pens) ∧ (∀ (xs : List Sco) (i : Nat), pvI (AE (Ah xs) i 9) = (sco xs i).ending) := by
  refine ⟨cQ, ?_, ?_, ?_, ?_, ?_, ?_, ?_, ?_, ?_, ?_⟩
  all_goals (intro xs i; rw [HL]; unfold AE; rw [fE]; cases xs[i]? <;> rfl)
theorem Cd {xs : List Sco} {i j : Nat} {v : Int} (f : Sco → Sco) (h : ∀ s : Sco, A6 s.ls j [.int v] = (f s).ls) : (Ah xs).set i (A6 (Af (Ah xs) i) j [.int v]) = Ah (xs.set i (f (sco xs i))) := by
 by_cases hi : i < xs.length
 ·have e : Af (Ah xs) i = (sco xs i).ls := by rw [fE, HL, List.getElem?_eq_getElem hi]
  rw [e, h]
  exact List.map_set.symm
 ·rw [List.set_eq_of_length_le (by rw [cQ]; omega), List.set_eq_of_length_le (by omega)]
theorem PXt : (∀ (xs : List Sco) (i : Nat) (v : Int), (Ah xs).set i (A6 (Af (Ah xs) i) 0 [.int v]) = Ah (xs.set i { sco xs i with side := v })) ∧ (∀ (xs : List Sco) (i : Nat) (v : Int), (Ah xs).set i (A6 (Af (Ah xs) i) 1 [.int v]) = Ah (xs.set i { sco xs i with runs := v })) ∧
    (∀ (xs : List Sco) (i : Nat) (v : Int), (Ah xs).set i (A6 (Af (Ah xs) i) 2 [.int v]) = Ah (xs.set i { sco xs i with wickets := v })) ∧ (∀ (xs : List Sco) (i : Nat) (v : Int), (Ah xs).set i (A6 (Af (Ah xs) i) 3 [.int v]) = Ah (xs.set i { sco xs i with balls := v })) ∧
    (∀ (xs : List Sco) (i : Nat) (v : Int), (Ah xs).set i (A6 (Af (Ah xs) i) 4 [.int v]) = Ah (xs.set i { sco xs i with wides := v })) ∧ (∀ (xs : List Sco) (i : Nat) (v : Int), (Ah xs).set i (A6 (Af (Ah xs) i) 5 [.int v]) = Ah (xs.set i { sco xs i with noballs := v })) ∧
    (∀ (xs : List Sco) (i : Nat) (v : Int), (Ah xs).set i (A6 (Af (Ah xs) i) 6 [.int v]) = Ah (xs.set i { sco xs i with byes := v })) ∧ (∀ (xs : List Sco) (i : Nat) (v : Int), (Ah xs).set i (A6 (Af (Ah xs) i) 7 [.int v]) = Ah (xs.set i { sco xs i with legbyes := v })) ∧
    (∀ (xs : List Sco) (i : Nat) (v : Int), (Ah xs).set i (A6 (Af (Ah xs) i) 8 [.int v]) = Ah (xs.set i { sco xs i with pens := v })) ∧ (∀ (xs : List Sco) (i : Nat) (v : Int), (Ah xs).set i (A6 (Af (Ah xs) i) 9 [.int v]) = Ah (xs.set i { sco xs i with ending := v })) ∧
    (∀ (xs : List Sco) (a b c d e f g h i j : Int), Ah xs ++ [([.int a, .int b, .int c, .int d, .int e, .int f, .int g, .int h, .int i, .int j] : List PV)] = Ah (xs ++ [⟨a, b, c, d, e, f, g, h, i, j⟩])) := by
  exact ⟨fun xs i v => Cd (j := 0) (v := v) (fun s => { s with side := v }) (fun s => rfl), fun xs i v => Cd (j := 1) (v := v) (fun s => { s with runs := v }) (fun s => rfl), fun xs i v => Cd (j := 2) (v := v) (fun s => { s with wickets := v }) (fun s => rfl), fun xs i v => Cd (j := 3) (v := v) (fun s => { s with balls := v }) (fun s => rfl), fun xs i v => Cd (j := 4) (v := v) (fun s => { s with wides := v }) (fun s => rfl), fun xs i v => Cd (j := 5) (v := v) (fun s => { s with noballs := v }) (fun s => rfl), fun xs i v => Cd (j := 6) (v := v) (fun s => { s with byes := v }) (fun s => rfl), fun xs i v => Cd (j := 7) (v := v) (fun s => { s with legbyes := v }) (fun s => rfl), fun xs i v => Cd (j := 8) (v := v) (fun s => { s with pens := v }) (fun s => rfl), fun xs i v => Cd (j := 9) (v := v) (fun s => { s with ending := v }) (fun s => rfl),
    fun xs a b c d e f g h i j => (List.map_append (f := Sco.ls) (l₁ := xs) (l₂ := [⟨a, b, c, d, e, f, g, h, i, j⟩])).symm⟩
theorem kl (n : Nat) : List.replicate n ([.int 0, .int 0, .int 0, .int 0, .int 0, .int 0, .int 0, .int 0, .int 0, .int 0] : List PV) = Ah (List.replicate n dS) := by
 unfold Ah
 rw [List.map_replicate]
 rfl
def D5 (xs : List (Int × Int)) : Rows := xs.map fun x => [.int x.1, .int x.2]
def pr (xs : List (Int × Int)) (i : Nat) : Int × Int := xs.getD i (0, 0)
theorem S7 (xs : List (Int × Int)) (i : Nat) : pr xs i = (match xs[i]? with | some s => s | none => (0, 0)) := by
 unfold pr
 rw [List.getD_eq_getElem?_getD]
 cases xs[i]? <;> rfl
theorem cm (xs : List (Int × Int)) (i : Nat) : Af (D5 xs) i = (match xs[i]? with | some s => [.int s.1, .int s.2] | none => []) := by
 unfold Af D5
 rw [List.getD_eq_getElem?_getD, List.getElem?_map]
 cases xs[i]? <;> rfl
theorem Wj (xs : List (Int × Int)) : (D5 xs).length = xs.length := List.length_map _
theorem PXp : (∀ xs : List (Int × Int), (D5 xs).length = xs.length) ∧ (∀ (xs : List (Int × Int)) (i : Nat), pvI (AE (D5 xs) i 0) = (pr xs i).1) ∧ (∀ (xs : List (Int × Int)) (i : Nat), pvI (AE (D5 xs) i 1) = (pr xs i).2) ∧
    (∀ (xs : List (Int × Int)) (i : Nat) (v : Int), (D5 xs).set i (A6 (Af (D5 xs) i) 1 [.int v]) = D5 (xs.set i ((pr xs i).1, v))) ∧ (∀ (xs : List (Int × Int)) (a b : Int), D5 xs ++ [([.int a, .int b] : List PV)] = D5 (xs ++ [(a, b)])) := by
  refine ⟨Wj, ?_, ?_, ?_, ?_⟩
  · intro xs i; rw [S7]; unfold AE; rw [cm]; cases xs[i]? <;> rfl
  · intro xs i; rw [S7]; unfold AE; rw [cm]; cases xs[i]? <;> rfl
  · intro xs i v
    by_cases hi : i < xs.length
    · have e : Af (D5 xs) i = [.int (pr xs i).1, .int (pr xs i).2] := by rw [cm, S7, List.getElem?_eq_getElem hi]
      rw [e]
      exact (List.map_set (f := fun x : Int × Int => [PV.int x.1, PV.int x.2]) (l := xs) (i := i) (a := ((pr xs i).1, v))).symm
    · rw [List.set_eq_of_length_le (by rw [Wj]; omega), List.set_eq_of_length_le (by omega)]
  · intro xs a b; exact (List.map_append (f := fun x : Int × Int => [PV.int x.1, PV.int x.2]) (l₁ := xs) (l₂ := [(a, b)])).symm
end Go.Px
end
section
namespace Go.Px
set_option maxRecDepth 100000
theorem Po (L : Rows) : ∀ i, opn L i ≤ i
 | 0 => Nat.le_refl _
 | i + 1 => by
  have := Po L i
  show opn L i + cond _ 1 0 ≤ _
  cases (evR L i).kind == 2 <;> simp only [cond_true, cond_false] <;> omega
def Gb (xs : List (Int × Int)) (v : Int) : List (Int × Int) := cond (iLt 0 (xs.length : Int)) (xs.set (IntKind.i64.wrap ((xs.length : Int) - 1)).toNat ((pr xs (IntKind.i64.wrap ((xs.length : Int) - 1)).toNat).1, v)) xs
def BW (L : Rows) : Nat → List (Int × Int)
 | 0 => []
 | i + 1 => cond ((evR L i).kind == 2) (Gb (BW L i) (i : Int) ++ [((i : Int), (L.length : Int))]) (BW L i)
theorem RU (xs : List (Int × Int)) (v : Int) : (Gb xs v).length = xs.length := by
 unfold Gb
 cases iLt 0 (xs.length : Int)
 ·rfl
 ·exact List.length_set
theorem I5 (L : Rows) : ∀ i, (BW L i).length = opn L i
 | 0 => rfl
 | i + 1 => by
  have ih := I5 L i
  show (cond ((evR L i).kind == 2) _ (BW L i)).length = opn L i + cond ((evR L i).kind == 2) 1 0
  cases (evR L i).kind == 2 with
  | false => exact ih
  | true => rw [cond_true, cond_true, List.length_append, RU, ih]; rfl
theorem Yu {n : Nat} (h : 0 < n) (h2 : n ≤ 1048576) : (IntKind.i64.wrap ((n : Int) - 1)).toNat = n - 1 ∧ iIn (IntKind.i64.wrap ((n : Int) - 1)) (n : Int) = true := by
 rw [C2 (by omega) (by omega)]
 refine ⟨by omega, ?_⟩
 simp only [iIn, decide_eq_true_eq]
 omega
theorem cz {N : Nat} {L : Rows} (hN : 2097152 < N) (hL : L.length ≤ 1048576) {F : (List AR → Option (List PV)) → List PV → Option (List PV)}
    (h0 : ∀ self, F self [.rows (D5 (BW L L.length)), .int (L.length : Int)] = some [.rows (D5 (BW L L.length))])
    (h1 : ∀ i self, i < L.length → (BW L i).length ≤ 1048575 → F self [.rows (D5 (BW L i)), .int (i : Int)] = self [.rows (D5 (BW L (i + 1))), .int (((i + 1 : Nat)) : Int)]) : C8 F N [.rows (D5 []), .int 0] = some [.rows (D5 (BW L L.length))] := by
  have := C9 (F := F) (len := L.length) (fun i => [.rows (D5 (BW L i)), .int (i : Int)]) [.rows (D5 (BW L L.length))] h0 (fun i self hi => h1 i self hi (by rw [I5]; have := Po L i; omega)) N (by omega)
  exact this
theorem FD {i : Nat} (h : i ≤ 1099511627776) : IntKind.i64.wrap ((i : Int) + 1) = ((i + 1 : Nat) : Int) := Ap h
theorem cD {L : Rows} {i : Nat} {xs : List (Int × Int)} (hk : ((evR L i).kind == 2) = true) (he : BW L i = xs) (h : iLt 0 (xs.length : Int) = true) : BW L (i + 1) = xs.set (IntKind.i64.wrap ((xs.length : Int) - 1)).toNat ((pr xs (IntKind.i64.wrap ((xs.length : Int) - 1)).toNat).1, (i : Int)) ++ [((i : Int), (L.length : Int))] := by
 show cond ((evR L i).kind == 2) (Gb (BW L i) (i : Int) ++ [((i : Int), (L.length : Int))]) (BW L i) = _
 rw [hk, he]
 unfold Gb
 rw [h]
 rfl
theorem Zq {L : Rows} {i : Nat} {xs : List (Int × Int)} (hk : ((evR L i).kind == 2) = true) (he : BW L i = xs) (h : iLt 0 (xs.length : Int) = false) : BW L (i + 1) = xs ++ [((i : Int), (L.length : Int))] := by
 show cond ((evR L i).kind == 2) (Gb (BW L i) (i : Int) ++ [((i : Int), (L.length : Int))]) (BW L i) = _
 rw [hk, he]
 unfold Gb
 rw [h]
 rfl
theorem Wt {L : Rows} {i : Nat} (hk : ((evR L i).kind == 2) = false) : BW L (i + 1) = BW L i := by
 show cond ((evR L i).kind == 2) _ (BW L i) = _
 rw [hk]
 rfl
set_option maxHeartbeats 1000000 in
theorem F5 {N : Nat} {L : Rows} (hN : 2097152 < N) (hL : L.length ≤ 1048576) : A0 N [.rows L] = some [.rows (D5 (BW L L.length))] := by
 show Ip (std (Pe N) N) (xOf _) = _
 simp only [Ip, std, xOf, PXb]
 refine AP (cz hN hL ?_ ?_) rfl
 ·intro self
  simp only [PXb, PXc, PXn, AF, A4]
 ·intro i self hi hlen
  have kk : (evR L i).kind = atI L i 0 := rfl
  simp only [PXb, PXc, PXn, AF, FD (show i ≤ 1099511627776 by omega), Az hi, AX hi, Bc, PXp, ← kk]
  cases hk : (evR L i).kind == 2 with
  | false =>
   rw [Wt hk]
   rfl
  | true =>
   simp only [PXb, Bool.not_true]
   generalize he : BW L i = xs at hlen
   cases h0 : iLt 0 (xs.length : Int) with
   | false =>
    have sm : iSm ((xs.length + 1 : Nat) : Int) 16 = true := Eh (by omega) (by omega)
    rw [Zq hk he h0]
    simp only [PXb, PXc, PXn, AF, PXp, List.length_append, List.length_cons, List.length_nil, sm, Nat.reduceAdd]
   | true =>
    have h1 : 0 < xs.length := by simp only [iLt, decide_eq_true_eq] at h0; omega
    have sm : iSm ((xs.length + 1 : Nat) : Int) 16 = true := Eh (by omega) (by omega)
    rw [cD hk he h0]
    simp only [PXb, PXc, PXn, AF, PXp, List.length_append, List.length_cons, List.length_nil, List.length_set, sm, Nat.reduceAdd, (Yu h1 (by omega)).2]
set_option maxHeartbeats 1000000 in
theorem Uf {N : Nat} {L : Rows} (hN : 2097152 < N) (hL : L.length ≤ 1048576) : EM N [.rows L] = some [.rows (D5 (BW L L.length))] := by
 show Lx (std (Rl N) N) (xOf _) = _
 simp only [Lx, std, xOf, PXb]
 refine AP (cz hN hL ?_ ?_) rfl
 ·intro self
  simp only [PXb, PXc, PXn, AF, A4]
 ·intro i self hi hlen
  have kk : (evR L i).kind = atI L i 0 := rfl
  simp only [PXb, PXc, PXn, AF, FD (show i ≤ 1099511627776 by omega), Az hi, AX hi, Bc, PXp, ← kk]
  cases hk : (evR L i).kind == 2 with
  | false =>
   rw [Wt hk]
   rfl
  | true =>
   simp only [PXb, Bool.not_true]
   generalize he : BW L i = xs at hlen
   cases h0 : iLt 0 (xs.length : Int) with
   | false =>
    have sm : iSm ((xs.length + 1 : Nat) : Int) 16 = true := Eh (by omega) (by omega)
    rw [Zq hk he h0]
    simp only [PXb, PXc, PXn, AF, PXp, List.length_append, List.length_cons, List.length_nil, sm, Nat.reduceAdd]
   | true =>
    have h1 : 0 < xs.length := by simp only [iLt, decide_eq_true_eq] at h0; omega
    have sm : iSm ((xs.length + 1 : Nat) : Int) 16 = true := Eh (by omega) (by omega)
    rw [cD hk he h0]
    simp only [PXb, PXc, PXn, AF, PXp, List.length_append, List.length_cons, List.length_nil, List.length_set, sm, Nat.reduceAdd, (Yu h1 (by omega)).2]
theorem Xr (ans : Nat → Option (List PV)) : ∀ k i, BA ans (k + 1) i = match BA ans k i with | some r => some r | none => ans (i + k)
 | 0, i => by
  simp only [BA]
  cases ans i <;> rfl
 | k + 1, i => by
  have ih := Xr ans k (i + 1)
  have e1 : BA ans (k + 1 + 1) i = match ans i with | some r => some r | none => BA ans (k + 1) (i + 1) := rfl
  have e2 : BA ans (k + 1) i = match ans i with | some r => some r | none => BA ans k (i + 1) := rfl
  rw [e1, e2, ih, show i + (k + 1) = i + 1 + k by omega]
  cases ans i <;> rfl
def Wb (L : Rows) (i : Nat) : Option (List PV) := cond ((evR L i).kind == 1) (some [.int (Lr (evR L i))]) none
theorem dE (L : Rows) : ∀ n, BA (Wb L) n 0 = (Cz L n).map fun v => [.int v]
 | 0 => rfl
 | n + 1 => by
  rw [Xr, dE L n, Nat.zero_add]
  show _ = (match Cz L n with | some v => some v | none => cond ((evR L n).kind == 1) (some (Lr (evR L n))) none).map fun v => [PV.int v]
  cases Cz L n with
  | some v => rfl
  | none =>
   show Wb L n = _
   unfold Wb
   cases (evR L n).kind == 1 <;> rfl
def Kh (L : Rows) : Int := (Cz L L.length).getD 1
theorem dZ {N : Nat} {L : Rows} (hN : 2097152 < N) (hL : L.length ≤ 1048576) {F : (List AR → Option (List PV)) → List PV → Option (List PV)} (h0 : ∀ self, F self [.int (L.length : Int)] = some [.int 1])
    (h1 : ∀ i self, i < L.length → F self [.int (i : Int)] = match Wb L i with | some r => some (.int 0 :: r) | none => self [.int ((i : Int) + 1)]) : C8 F N [.int 0] = some (Oy ((Cz L L.length).map fun v => [.int v])) := by
  have := CF (F := F) (len := L.length) (Wb L) h0 h1 L.length 0 N (by omega) (by omega)
  rw [dE] at this
  exact this
theorem ej (o : Option Int) : cond (pvI (AJ (Oy (o.map fun v => [.int v])) 0) == ((0 : Nat) : Int)) (some [PV.int (pvI (AJ (Oy (o.map fun v => [.int v])) 1))]) (some [PV.int 1]) = some [.int (o.getD 1)] := by
 cases o <;> rfl
theorem aF {N : Nat} {L : Rows} (hN : 2097152 < N) (hL : L.length ≤ 1048576) : HK N [.rows L] = some [.int (Kh L)] := by
 show J2 (std (Qe N) N) (xOf _) = _
 simp only [J2, std, xOf, PXb]
 refine AP (dZ hN hL ?_ ?_) (ej _)
 ·intro self
  simp only [PXb, PXc, PXn, AF, A4]
 ·intro i self hi
  have kk : (evR L i).kind = atI L i 0 := rfl
  have ky : (evR L i).yes = atB L i 4 := rfl
  have ks : (evR L i).side = atI L i 1 := rfl
  simp only [PXb, PXc, PXn, AF, Ap (show i ≤ 1099511627776 by omega), Az hi, AX hi, Bc, Rx, Wb, Lr, A2, kk, ky, ks]
  cases atI L i 0 == 1 <;> cases atB L i 4 <;> rfl
theorem WN {N : Nat} {L : Rows} (hN : 2097152 < N) (hL : L.length ≤ 1048576) : Je N [.rows L] = some [.int (Kh L)] := by
 show NL (std (TG N) N) (xOf _) = _
 simp only [NL, std, xOf, PXb]
 refine AP (dZ hN hL ?_ ?_) (ej _)
 ·intro self
  simp only [PXb, PXc, PXn, AF, A4]
 ·intro i self hi
  have kk : (evR L i).kind = atI L i 0 := rfl
  have ky : (evR L i).yes = atB L i 4 := rfl
  have ks : (evR L i).side = atI L i 1 := rfl
  simp only [PXb, PXc, PXn, AF, Ap (show i ≤ 1099511627776 by omega), Az hi, AX hi, Bc, Rx, Wb, Lr, A2, kk, ky, ks]
  cases atI L i 0 == 1 <;> cases atB L i 4 <;> rfl
def PF (f : Int) (en : Bool) (k : Nat) : Int := cond (en && ((k : Int) == 2 || (k : Int) == 3)) (A2 (cond ((k : Int).tmod 2 == 1) (A2 f) f)) (cond ((k : Int).tmod 2 == 1) (A2 f) f)
def SW (f : Int) (en : Bool) (k : Nat) : Int := cond (cond (en && ((k : Int) == 2 || (k : Int) == 3)) ((k : Int) == 2) ((k : Int).tmod 2 == 1)) (A2 f) f
theorem kt {f : Int} (h : A2 (A2 f) = f) (en : Bool) (k : Nat) : PF f en k = SW f en k := by
 unfold PF SW
 cases h2 : ((k : Int) == 2) with
 | true =>
  have := beq_iff_eq.1 h2
  rw [this]
  cases en <;> rfl
 | false =>
  cases h3 : ((k : Int) == 3) with
  | true =>
   have := beq_iff_eq.1 h3
   rw [this]
   cases en
   ·rfl
   ·exact h
  | false => rw [Bool.or_false, Bool.and_false]; rfl
def zs (g : Nat → Int) (n : Nat) : List Int := (List.range n).map g
theorem Nm (g : Nat → Int) (n : Nat) : (zs g n).length = n := by unfold zs; rw [List.length_map, List.length_range]
theorem ew (g : Nat → Int) (n : Nat) : Eu (zs g n) ++ [[.int (g n)]] = Eu (zs g (n + 1)) := by
 unfold zs Eu
 rw [List.range_succ, List.map_append, List.map_append]
 rfl
theorem fi (g : Nat → Int) {n k : Nat} (h : k < n) : atI (Eu (zs g n)) k 0 = g k := by
 rw [mz, List.getD_eq_getElem?_getD]
 unfold zs
 rw [List.getElem?_map, List.getElem?_range h]
 rfl
theorem dL {N : Nat} {L : Rows} (hN : 2097152 < N) (hL : L.length ≤ 1048576) {F : (List AR → Option (List PV)) → List PV → Option (List PV)} (h0 : ∀ self, F self [.bool (DT L L.length), .int (L.length : Int)] = some [.bool (DT L L.length)])
    (h1 : ∀ i self, i < L.length → F self [.bool (DT L i), .int (i : Int)] = self [.bool (DT L (i + 1)), .int (((i + 1 : Nat)) : Int)]) : C8 F N [.bool false, .int 0] = some [.bool (DT L L.length)] :=
  C9 (F := F) (len := L.length) (fun i => [.bool (DT L i), .int (i : Int)]) [.bool (DT L L.length)] h0 h1 N (by omega)
theorem em {N n : Nat} {g : Nat → Int} (hN : 2097152 < N) (hL : n ≤ 1048576) {F : (List AR → Option (List PV)) → List PV → Option (List PV)} (h0 : ∀ self, F self [.rows (Eu (zs g n)), .int (n : Int)] = some [.rows (Eu (zs g n))])
    (h1 : ∀ i self, i < n → F self [.rows (Eu (zs g i)), .int (i : Int)] = self [.rows (Eu (zs g (i + 1))), .int (((i + 1 : Nat)) : Int)]) : C8 F N [.rows [], .int 0] = some [.rows (Eu (zs g n))] :=
  C9 (F := F) (len := n) (fun i => [.rows (Eu (zs g i)), .int (i : Int)]) [.rows (Eu (zs g n))] h0 h1 N (by omega)
set_option maxHeartbeats 1000000 in
theorem Tj {N : Nat} {L : Rows} (hN : 2097152 < N) (hL : L.length ≤ 1048576) : Dl N [.rows L] = some [.rows (Eu (zs (PF (Kh L) (DT L L.length)) (opn L L.length)))] := by
 show J3 (std (Hr N) N) (xOf _) = _
 simp only [J3, OK, Oq, std, xOf, PXb, aF hN hL]
 refine AP (dL hN hL ?_ ?_) ?_
 ·intro self
  simp only [PXb, PXc, PXn, AF, A4]
 ·intro i self hi
  have kk : (evR L i).kind = atI L i 0 := rfl
  have ky : (evR L i).yes = atB L i 4 := rfl
  have e : DT L (i + 1) = (DT L i || ((evR L i).kind == 12 && (evR L i).yes)) := rfl
  rw [e, kk, ky]
  simp only [PXb, PXc, PXn, AF, FD (show i ≤ 1099511627776 by omega), Az hi, AX hi, Bc, Rx]
 ·have ol := Po L L.length
  simp only [PXb, PXc, PXn, AF, F5 hN hL, PXp, I5]
  generalize DT L L.length = en
  generalize hn : opn L L.length = n at ol
  refine AP (em (n := n) (g := PF (Kh L) en) hN (by omega) ?_ ?_) rfl
  ·intro self
   simp only [PXb, PXc, PXn, AF, A4]
  ·intro i self hi
   have sm : iSm ((i + 1 : Nat) : Int) 8 = true := Eh (by omega) (by omega)
   rw [← ew]
   unfold PF
   cases h1 : (i : Int).tmod 2 == 1 <;> cases h2 : (en && ((i : Int) == 2 || (i : Int) == 3)) <;>
    simp only [PXb, PXc, PXn, AF, FD (show i ≤ 1099511627776 by omega), Az hi, h1, h2, IM, Nm, List.length_append, List.length_cons, List.length_nil, Nat.reduceAdd, sm, A2]
set_option maxHeartbeats 1000000 in
theorem dv {N : Nat} {L : Rows} (hN : 2097152 < N) (hL : L.length ≤ 1048576) : NF N [.rows L] = some [.rows (Eu (zs (SW (Kh L) (DT L L.length)) (opn L L.length)))] := by
 show NB (std (KB N) N) (xOf _) = _
 simp only [NB, RX, Rs, std, xOf, PXb, WN hN hL]
 refine AP (dL hN hL ?_ ?_) ?_
 ·intro self
  simp only [PXb, PXc, PXn, AF, A4]
 ·intro i self hi
  have kk : (evR L i).kind = atI L i 0 := rfl
  have ky : (evR L i).yes = atB L i 4 := rfl
  have e : DT L (i + 1) = (DT L i || ((evR L i).kind == 12 && (evR L i).yes)) := rfl
  rw [e, kk, ky]
  simp only [PXb, PXc, PXn, AF, FD (show i ≤ 1099511627776 by omega), Az hi, AX hi, Bc, Rx]
 ·have ol := Po L L.length
  simp only [PXb, PXc, PXn, AF, WN hN hL, Uf hN hL, PXp, I5]
  generalize DT L L.length = en
  generalize hn : opn L L.length = n at ol
  refine AP (em (n := n) (g := SW (Kh L) en) hN (by omega) ?_ ?_) rfl
  ·intro self
   simp only [PXb, PXc, PXn, AF, A4]
  ·intro i self hi
   have sm : iSm ((i + 1 : Nat) : Int) 8 = true := Eh (by omega) (by omega)
   rw [← ew]
   unfold SW
   cases h1 : (i : Int).tmod 2 == 1 <;> cases en <;> cases h2 : (i : Int) == 3 <;> cases h3 : (i : Int) == 2 <;>
    simp only [PXb, PXc, PXn, AF, FD (show i ≤ 1099511627776 by omega), Az hi, h1, h2, h3, IM, Nm, List.length_append, List.length_cons, List.length_nil, Nat.reduceAdd, sm, A2]
end Go.Px
end
section
namespace Go.Px
set_option maxRecDepth 100000
theorem lh (xs : List (Int × Int)) (k : Nat) (s : Int × Int) (i : Nat) (hi : i < xs.length) : pr (xs.set k s) i = (if k = i then s else pr xs i) := by
 rw [S7, S7, List.getElem?_set]
 by_cases h : k = i
 ·subst h
  rw [if_pos rfl, if_pos rfl, if_pos hi]
 ·rw [if_neg h, if_neg h]
theorem mO (xs : List (Int × Int)) (s : Int × Int) (i : Nat) (hi : i < xs.length + 1) : pr (xs ++ [s]) i = (if i < xs.length then pr xs i else s) := by
 rw [S7, S7]
 by_cases h : i < xs.length
 ·rw [if_pos h, List.getElem?_append_left h]
 ·have : i = xs.length := by omega
  subst this
  rw [if_neg h, List.getElem?_append_right (Nat.le_refl _), Nat.sub_self]
  rfl
theorem Pv {L : Rows} {i : Nat} (h : ((evR L i).kind == 2) = true) : opn L (i + 1) = opn L i + 1 := by
 show opn L i + cond ((evR L i).kind == 2) 1 0 = _
 rw [h]
 rfl
theorem jh {L : Rows} {i : Nat} (h : ((evR L i).kind == 2) = false) : opn L (i + 1) = opn L i := by
 show opn L i + cond ((evR L i).kind == 2) 1 0 = _
 rw [h]
 rfl
theorem YW {L : Rows} (hL : L.length ≤ 1048576) : ∀ i, i ≤ L.length → ∀ k, k < opn L i → ∃ a : Nat, (pr (BW L i) k).1 = (a : Int) ∧ a < i ∧ opn L a = k ∧ ((evR L a).kind == 2) = true ∧
    ((k + 1 < opn L i ∧ ∃ b : Nat, (pr (BW L i) k).2 = (b : Int) ∧ b < i ∧ opn L b = k + 1 ∧ ((evR L b).kind == 2) = true) ∨ (k + 1 = opn L i ∧ (pr (BW L i) k).2 = (L.length : Int)))
  | 0, _, k, hk => absurd hk (Nat.not_lt_zero k)
  | i + 1, hi, k, hk => by
    have ih := YW hL i (by omega)
    cases h2 : (evR L i).kind == 2 with
    | false =>
      rw [jh h2] at hk ⊢
      rw [Wt h2]
      obtain ⟨a, h3, h4, h5, h6, h7⟩ := ih k hk
      refine ⟨a, h3, by omega, h5, h6, ?_⟩
      rcases h7 with ⟨q, b, q1, q2, q3, q4⟩ | q
      · exact Or.inl ⟨q, b, q1, by omega, q3, q4⟩
      · exact Or.inr q
    | true =>
      rw [Pv h2] at hk ⊢
      have sl := I5 L i
      have hle := Po L i
      have ha := fun (j : Nat) (hj : j < opn L i + 1) => mO (Gb (BW L i) (i : Int)) ((i : Int), (L.length : Int)) j (by rw [RU, sl]; exact hj)
      have e : BW L (i + 1) = Gb (BW L i) (i : Int) ++ [((i : Int), (L.length : Int))] := by
        show cond ((evR L i).kind == 2) _ _ = _
        rw [h2]
        rfl
      rw [e, ha k hk, RU, sl]
      by_cases hkn : k < opn L i
      · rw [if_pos hkn]
        obtain ⟨a, h3, h4, h5, h6, h7⟩ := ih k hkn
        have hp : 0 < opn L i := by omega
        have ix := (Yu hp (by omega)).1
        have es : Gb (BW L i) (i : Int) = (BW L i).set (opn L i - 1) ((pr (BW L i) (opn L i - 1)).1, (i : Int)) := by
          unfold Gb
          rw [sl, show iLt 0 (opn L i : Int) = true by simp only [iLt, decide_eq_true_eq]; omega, ix]
          rfl
        rw [es, lh _ _ _ _ (by rw [sl]; exact hkn)]
        by_cases hl : opn L i - 1 = k
        · rw [if_pos hl, hl]
          exact ⟨a, h3, by omega, h5, h6, Or.inl ⟨by omega, i, rfl, by omega, by omega, h2⟩⟩
        · rw [if_neg hl]
          refine ⟨a, h3, by omega, h5, h6, Or.inl ⟨by omega, ?_⟩⟩
          rcases h7 with ⟨q, b, q1, q2, q3, q4⟩ | q
          · exact ⟨b, q1, by omega, q3, q4⟩
          · omega
      · have hke : k = opn L i := by omega
        rw [if_neg hkn]
        exact ⟨i, rfl, by omega, hke.symm, h2, Or.inr ⟨by omega, rfl⟩⟩
theorem jH {L : Rows} {a b : Nat} (h : opn L a = opn L b) (ha : ((evR L a).kind == 2) = true) (hb : ((evR L b).kind == 2) = true) : a = b := by
 rcases Nat.lt_trichotomy a b with h1 | h1 | h1
 ·have := Ii L (show a + 1 ≤ b by omega)
  have := Pv ha
  omega
 ·exact h1
 ·have := Ii L (show b + 1 ≤ a by omega)
  have := Pv hb
  omega
def AH (L : Rows) (k : Nat) : Nat := if k < opn L L.length then (pr (BW L L.length) k).1.toNat else L.length
structure Seg (L : Rows) (k : Nat) : Prop where
 x0 : (pr (BW L L.length) k).1 = (AH L k : Int)
 x1 : (pr (BW L L.length) k).2 = (AH L (k + 1) : Int)
 lt : AH L k < AH L (k + 1)
 le : AH L (k + 1) ≤ L.length
 o0 : opn L (AH L k) = k
 o1 : opn L (AH L (k + 1)) = k + 1
 mid : ∀ j, AH L k ≤ j → j < AH L (k + 1) → opn L (j + 1) = k + 1
theorem seg {L : Rows} (hL : L.length ≤ 1048576) {k : Nat} (h : k < opn L L.length) : Seg L k := by
 obtain ⟨a, h1, h2, h3, h4, h5⟩ := YW hL L.length (Nat.le_refl _) k h
 have p0 : AH L k = a := by unfold AH; rw [if_pos h, h1]; rfl
 have key : (pr (BW L L.length) k).2 = (AH L (k + 1) : Int) ∧ a < AH L (k + 1) ∧ AH L (k + 1) ≤ L.length ∧ opn L (AH L (k + 1)) = k + 1 := by
  rcases h5 with ⟨q, b, q1, q2, q3, q4⟩ | ⟨q, q1⟩
  ·obtain ⟨a', g1, g2, g3, g4, _⟩ := YW hL L.length (Nat.le_refl _) (k + 1) q
   have e : a' = b := jH (g3.trans q3.symm) g4 q4
   subst e
   have p1 : AH L (k + 1) = a' := by unfold AH; rw [if_pos q, g1]; rfl
   rw [p1]
   refine ⟨q1, ?_, by omega, q3⟩
   rcases Nat.lt_or_ge a a' with hl | hl
   ·exact hl
   ·have := Ii L hl
    omega
  ·have p1 : AH L (k + 1) = L.length := by unfold AH; rw [if_neg (by omega)]
   rw [p1]
   exact ⟨q1, h2, Nat.le_refl _, q.symm⟩
 obtain ⟨k1, k2, k3, k4⟩ := key
 refine ⟨by rw [h1, p0], k1, by rw [p0]; exact k2, k3, by rw [p0]; exact h3, k4, fun j j1 j2 => ?_⟩
 rw [p0] at j1
 have m1 := Ii L (show a + 1 ≤ j + 1 by omega)
 have m2 := Ii L (show j + 1 ≤ AH L (k + 1) by omega)
 rw [Pv h4] at m1
 omega
theorem kq (L : Rows) : AH L (opn L L.length) = L.length := by unfold AH; rw [if_neg (Nat.lt_irrefl _)]
theorem lZ (L : Rows) {a b : Nat} (i j : Nat) (h : i < b - a) : AE ((L.take b).drop a) i j = AE L (a + i) j := by
 unfold AE Af
 rw [List.getD_eq_getElem?_getD, List.getD_eq_getElem?_getD, List.getElem?_drop, List.getElem?_take, if_pos (by omega)]
theorem ia (L : Rows) {a b : Nat} (i : Nat) (h : i < b - a) : evR ((L.take b).drop a) i = evR L (a + i) := by
 unfold evR atI atB
 simp only [lZ L i _ h]
theorem fC {L : Rows} {a b : Nat} (h : b ≤ L.length) : ((L.take b).drop a).length = b - a := by
 rw [List.length_drop, List.length_take]
 omega
def RZ (e : Ev) : Bool := cond (e.kind == 4) (!(e.ball.how == 0)) (cond (e.kind == 5) e.yes (cond (e.kind == 6) (!e.yes) false))
theorem gz (e : Ev) : MX e = cond (RZ e) 1 0 := by
 unfold MX RZ DF
 cases h4 : e.kind == 4
 ·cases h5 : e.kind == 5
  ·cases h6 : e.kind == 6 <;> cases e.yes <;> rfl
  ·rw [beq_iff_eq.1 h5]; cases e.yes <;> rfl
 ·cases e.ball.how == 0 <;> rfl
theorem dk {N : Nat} {e0 e1 e2 e3 e5 e6 e7 e8 e9 e10 e11 e13 e14 e15 e16 e18 : Int} {e4 e12 e17 : Bool}  : Jr N [.int e0, .int e1, .int e2, .int e3, .bool e4, .int e5, .int e6, .int e7, .int e8, .int e9, .int e10, .int e11, .bool e12, .int e13, .int e14, .int e15, .int e16, .bool e17, .int e18] = some [.bool (RZ (⟨e0, e1, e2, e3, e4, e5, e6, ⟨e7, e8, e9, e10, e11, e12, e13, e14, e15, e16, e17, e18⟩⟩ : Ev))] := by
 show NQ (std (TR N) N) (xOf _) = _
 simp only [NQ, std, xOf, PXb, PXc, PXn, PXm, Nat.reduceAdd, Int.reduceBEq]
 unfold RZ
 simp only
 cases e0 == 4 <;> cases e0 == 5 <;> cases e0 == 6 <;> rfl
def fO : Option Nat → Int
 | some j => (j : Int)
 | none => -1
theorem Zr (sd : Nat → Int) (s : Int) (k : Nat) : ∀ c, c ≤ k + 1 → BA (fun i => cond (sd (k - i) == s) (some [.int ((k - i : Nat) : Int)]) none) c (k + 1 - c) = (Dk sd s c).map fun j : Nat => [PV.int (j : Int)]
 | 0, _ => rfl
 | c + 1, h => by
  have ih := Zr sd s k c (by omega)
  have e1 : k - (k + 1 - (c + 1)) = c := by omega
  have e2 : k + 1 - (c + 1) + 1 = k + 1 - c := by omega
  simp only [BA, Dk, e1, e2, ih]
  cases sd c == s <;> rfl
theorem ar (sd : Nat → Int) (s : Int) : ∀ c i, BA (fun i => cond (sd i == s) (some [.int (i : Int)]) none) c i = (W6 sd s c i).map fun j : Nat => [PV.int (j : Int)]
 | 0, _ => rfl
 | c + 1, i => by
  simp only [BA, W6, ar sd s c (i + 1)]
  cases sd i == s <;> rfl
theorem iM {N : Nat} {sd : Nat → Int} {n k : Nat} {s : Int} (hN : 2097152 < N) (hn : n ≤ 1048576) (hk : k < n) {F G : (List AR → Option (List PV)) → List PV → Option (List PV)}
    (f0 : ∀ self, F self [.int (-1)] = some [.int 1]) (f1 : ∀ (j : Nat) self, j < n → F self [.int (j : Int)] = cond (sd j == s) (some [.int 0, .int (j : Int)]) (self [.int ((j : Int) - 1)]))
    (g0 : ∀ self, G self [.int (n : Int)] = some [.int 1]) (g1 : ∀ (j : Nat) self, j < n → G self [.int (j : Int)] = cond (sd j == s) (some [.int 0, .int (j : Int)]) (self [.int ((j : Int) + 1)])) :
    ((C8 F N [.int (k : Int)]).bind fun c => cond (pvI (AJ c 0) == ((0 : Nat) : Int)) (some [PV.int (pvI (AJ c 1))]) ((C8 G N [.int (IntKind.i64.wrap ((k : Int) + 1))]).bind fun c => cond (pvI (AJ c 0) == ((0 : Nat) : Int)) (some [PV.int (pvI (AJ c 1))]) (some [PV.int (-1)]))) = some [.int (fO (JQ sd n k s))] := by
  have a1 := SZ (F := F) (len := k + 1) (fun i => [.int ((k : Int) - (i : Int))]) (fun i => cond (sd (k - i) == s) (some [.int ((k - i : Nat) : Int)]) none)
    (fun self => by
      show F self [.int ((k : Int) - ((k + 1 : Nat) : Int))] = _
      rw [show (k : Int) - ((k + 1 : Nat) : Int) = -1 by omega]
      exact f0 self)
    (fun i self hi => by
      show F self [.int ((k : Int) - (i : Int))] = _
      rw [show (k : Int) - (i : Int) = ((k - i : Nat) : Int) by omega, f1 (k - i) self (by omega), show ((k - i : Nat) : Int) - 1 = (k : Int) - ((i + 1 : Nat) : Int) by omega]
      cases sd (k - i) == s <;> rfl) (k + 1) 0 N (by omega) (by omega)
  have fb := Zr sd s k (k + 1) (Nat.le_refl _)
  rw [Nat.sub_self] at fb
  rw [fb] at a1
  have a1 : C8 F N [.int ((k : Int) - ((0 : Nat) : Int))] = _ := a1
  rw [show (k : Int) - ((0 : Nat) : Int) = (k : Int) by omega] at a1
  rw [a1, Ap (show k ≤ 1099511627776 by omega)]
  unfold JQ
  cases Dk sd s (k + 1) with
  | some j => rfl
  | none =>
    have a2 := CF (F := G) (len := n) (fun i => cond (sd i == s) (some [.int (i : Int)]) none) g0 (fun i self hi => by rw [g1 i self hi]; cases sd i == s <;> rfl) (n - (k + 1)) (k + 1) N (by omega) (by omega)
    rw [ar] at a2
    rw [show ((k : Int) + 1) = ((k + 1 : Nat) : Int) by omega, a2]
    cases W6 sd s (n - (k + 1)) (k + 1) <;> rfl
theorem lY (n : Int) : iLe 0 (-1) = false := rfl
theorem im (j : Nat) : iLe 0 (j : Int) = true := by simp only [iLe, decide_eq_true_eq]; omega
theorem gk {j : Nat} (h : j ≤ 1048576) : IntKind.i64.wrap ((j : Int) - 1) = (j : Int) - 1 := C2 (by omega) (by omega)
set_option maxHeartbeats 1000000 in
theorem eD {N : Nat} {sd : Nat → Int} {n k : Nat} {s : Int} (hN : 2097152 < N) (hn : n ≤ 1048576) (hk : k < n) : Hc N [.rows (Eu (zs sd n)), .int (k : Int), .int s] = some [.int (fO (JQ sd n k s))] := by
 show NI (std (TO N) N) (xOf _) = _
 simp only [NI, std, xOf, PXb]
 refine iM hN hn hk ?_ ?_ ?_ ?_
 ·intro self
  simp only [PXb, PXc, PXn, AF, lY 0]
 ·intro j self hj
  simp only [PXb, PXc, PXn, AF, im, IM, Nm, AX hj, Bc, fi _ hj, gk (show j ≤ 1048576 by omega)]
 ·intro self
  simp only [PXb, PXc, PXn, AF, IM, Nm, A4]
 ·intro j self hj
  simp only [PXb, PXc, PXn, AF, IM, Nm, Az hj, AX hj, Bc, fi _ hj, Ap (show j ≤ 1099511627776 by omega)]
theorem H3 {L : Rows} {f : Ev → Int} {c : Int} (hf : ∀ e, 0 ≤ f e ∧ f e ≤ c) (j : Nat) : ∀ i : Nat, 0 ≤ smi L f j i ∧ smi L f j i ≤ c * (i : Int)
 | 0 => by
  have : smi L f j 0 = 0 := rfl
  rw [this]
  omega
 | i + 1 => by
  have ih := H3 (L := L) hf j i
  have h1 := hf (evR L i)
  rw [QL, show c * ((i + 1 : Nat) : Int) = c * (i : Int) + c by rw [show ((i + 1 : Nat) : Int) = (i : Int) + 1 by omega, Int.mul_add, Int.mul_one]]
  have h2 := hf (evR L i)
  generalize c * (i : Int) = z at ih ⊢
  cases Nat.beq (opn L (i + 1)) (j + 1) <;> simp only [cond_true, cond_false] <;> omega
theorem lg (L : Rows) (sd : Nat → Int) (n j : Nat) : ∀ i : Nat, 0 ≤ pnS L sd n j i ∧ pnS L sd n j i ≤ 5 * (i : Int)
 | 0 => by
  have : pnS L sd n j 0 = 0 := rfl
  rw [this]
  omega
 | i + 1 => by
  have ih := lg L sd n j i
  rw [Yt]
  cases ((evR L i).kind == 13 && isS (JQ sd n (opn L (i + 1) - 1) (evR L i).side) j) <;> simp only [cond_true, cond_false] <;> omega
structure Sml (x : Sco) : Prop where
 runs : 0 ≤ x.runs ∧ x.runs ≤ 1000000
 wk : 0 ≤ x.wickets ∧ x.wickets ≤ 1000000
 balls : 0 ≤ x.balls ∧ x.balls ≤ 1000000
 wides : 0 ≤ x.wides ∧ x.wides ≤ 1000000
 no : 0 ≤ x.noballs ∧ x.noballs ≤ 1000000
 bb : 0 ≤ x.byes ∧ x.byes ≤ 1000000
 lb : 0 ≤ x.legbyes ∧ x.legbyes ≤ 1000000
 pens : 0 ≤ x.pens ∧ x.pens ≤ 1000000
theorem kK {r : Rul} (h : RulOk r) (e : Ev) : 0 ≤ ZO r e ∧ ZO r e ≤ 62 := by
 have c := EH h e
 have h0 := c.ba
 have h1 := c.wi
 have h2 := c.no
 have h3 := c.bb
 have h4 := c.lb
 have h5 := c.tot
 unfold ZO
 omega
theorem lF {r : Rul} (h : RulOk r) (L : Rows) (sd : Nat → Int) (n j : Nat) {i : Nat} (hi : i ≤ 4000) : Sml (BQ r L sd n j i) := by
 have p := lg L sd n j i
 have b1 := H3 (L := L) (kK h) j i
 have b2 := H3 (L := L) l7 j i
 have b3 := H3 (L := L) (f := j0 r) (c := 1) (fun e => by unfold j0; cases (As r e).counts <;> simp) j i
 have b4 := H3 (L := L) (f := fun e => (As r e).wides) (fun e => (EH h e).wi) j i
 have b5 := H3 (L := L) (f := fun e => (As r e).noballs) (fun e => (EH h e).no) j i
 have b6 := H3 (L := L) (f := fun e => (As r e).byes) (fun e => (EH h e).bb) j i
 have b7 := H3 (L := L) (f := fun e => (As r e).legbyes) (fun e => (EH h e).lb) j i
 unfold BQ
 constructor <;> (simp only; omega)
end Go.Px
end
