/- Part 12. -/
import Derived.Test.YtmpgkalgfmnpjaaGreatPart11
set_option linter.unusedVariables false
set_option linter.unusedSimpArgs false
section
namespace Go.Px
set_option maxRecDepth 100000
def Gd (xs : List Int) : Rows := xs.map fun x => [.int x]
theorem Mf (xs : List Int) : (Gd xs).length = xs.length := List.length_map _
theorem mz (xs : List Int) (i : Nat) : Af (Gd xs) i = (match xs[i]? with | some x => [.int x] | none => []) := by
 unfold Af Gd
 rw [List.getD_eq_getElem?_getD, List.getElem?_map]
 cases xs[i]? <;> rfl
theorem nE (xs : List Int) (i : Nat) : atI (Gd xs) i 0 = xs.getD i 0 := by
 unfold atI AE
 rw [mz, List.getD_eq_getElem?_getD]
 cases xs[i]? <;> rfl
structure SumSt (D : Rows) (n i : Nat) (s : List Int × List Int × Int) : Prop where
 l1 : s.1.length = n
 l2 : s.2.1.length = n
 r : ∀ k, k < n → s.1.getD k 0 = wr (rS D k i)
 b : ∀ k, k < n → s.2.1.getD k 0 = wr (bS D k i)
 h : s.2.2 = wr (hS D i)
end Go.Px
end
section
namespace Go.Px
set_option maxRecDepth 100000
structure Sco where
 side : Int
 runs : Int
 wickets : Int
 balls : Int
 wides : Int
 noballs : Int
 byes : Int
 legbyes : Int
 pens : Int
 ending : Int
theorem BB {n : Int} (h1 : -1000000000000 ≤ n) (h2 : n ≤ 1000000000000) : IntKind.i64.wrap n = n := DB (by omega) (by omega)
theorem dX {d : Del} (h : (FH d == 0) = true) : (0 ≤ d.runs ∧ d.runs ≤ 7) ∧ (0 ≤ d.short ∧ d.short ≤ d.runs) ∧ (d.boundary = 0 ∨ d.boundary = 4 ∨ d.boundary = 6) := by
 unfold FH at h
 cases h1 : (iLt d.type 1 || iLt 3 d.type || iLt 3 d.source || iLt 10 d.how || !btw d.sector 0 8) with
 | true => rw [h1] at h; cases h
 | false =>
  cases h2 : (!btw d.runs 0 7 || !btw d.short 0 d.runs || (!(d.boundary == 0) && !(d.boundary == 4) && !(d.boundary == 6))) with
  | true => rw [h1, h2] at h; cases h
  | false =>
   simp only [btw, iLe, Bool.or_eq_false_iff, Bool.not_eq_false', Bool.and_eq_true, Bool.and_eq_false_iff, decide_eq_true_eq, beq_iff_eq] at h2
   omega
structure CreOk (c : Cre) : Prop where
 ba : 0 ≤ c.batter ∧ c.batter ≤ 13
 wi : 0 ≤ c.wides ∧ c.wides ≤ 18
 no : 0 ≤ c.noballs ∧ c.noballs ≤ 5
 bb : 0 ≤ c.byes ∧ c.byes ≤ 13
 lb : 0 ≤ c.legbyes ∧ c.legbyes ≤ 13
 bo : c.bowler = c.batter + c.wides + c.noballs
 tot : Cl c = c.batter + c.wides + c.noballs + c.byes + c.legbyes
theorem iP {b w o y l bo : Int} {x1 x2 x3 x4 : Bool} (hb : 0 ≤ b ∧ b ≤ 13) (hw : 0 ≤ w ∧ w ≤ 18) (ho : 0 ≤ o ∧ o ≤ 5) (hy : 0 ≤ y ∧ y ≤ 13) (hl : 0 ≤ l ∧ l ≤ 13) (hbo : bo = IntKind.i64.wrap (IntKind.i64.wrap (b + w) + o)) : CreOk ⟨b, w, o, y, l, bo, x1, x2, x3, x4⟩ := by
 refine ⟨hb, hw, ho, hy, hl, ?_, ?_⟩
 ·show bo = b + w + o
  rw [hbo, BB (n := b + w) (by omega) (by omega), BB (by omega) (by omega)]
 ·show IntKind.i64.wrap (IntKind.i64.wrap (IntKind.i64.wrap (IntKind.i64.wrap (b + w) + o) + y) + l) = b + w + o + y + l
  rw [BB (n := b + w) (by omega) (by omega), BB (n := b + w + o) (by omega) (by omega), BB (n := b + w + o + y) (by omega) (by omega), BB (by omega) (by omega)]
def Jw : Cre := ⟨0, 0, 0, 0, 0, 0, false, false, false, false⟩
theorem cg : CreOk Jw := iP (by decide) (by decide) (by decide) (by decide) (by decide) rfl
theorem gj {r : Rul} (h : RulOk r) (d : Del) : CreOk (AB r d) := by
 unfold AB
 cases hl : FH d == 0 with
 | false => exact cg
 | true =>
  obtain ⟨⟨a1, a2⟩, ⟨a3, a4⟩, a5⟩ := dX hl
  have hw := h.wide
  have hn := h.noball
  have e1 : IntKind.i64.wrap (IntKind.i64.wrap (d.runs - d.short) + d.boundary) = d.runs - d.short + d.boundary := by
   rw [BB (n := d.runs - d.short) (by omega) (by omega), BB (by omega) (by omega)]
  have n0 : 0 ≤ d.runs - d.short + d.boundary ∧ d.runs - d.short + d.boundary ≤ 13 := by omega
  simp only [Bool.not_true, cond_false, Q4, e1]
  generalize d.runs - d.short + d.boundary = n at n0
  have e2 : IntKind.i64.wrap (r.wide + n) = r.wide + n := BB (by omega) (by omega)
  have c13 : ∀ b : Bool, 0 ≤ cond b n 0 ∧ cond b n 0 ≤ 13 := fun b => by cases b <;> simp <;> omega
  refine iP (c13 _) ?_ ?_ (c13 _) (c13 _) rfl
  ·rw [e2]; cases d.type == 2 <;> simp <;> omega
  ·cases d.type == 3 <;> simp <;> omega
def Ao (r : Rul) (e : Ev) : Cre := cond (e.kind == 4) (AB r e.ball) Jw
theorem EL {r : Rul} (h : RulOk r) (e : Ev) : CreOk (Ao r e) := by
 unfold Ao
 cases e.kind == 4
 ·exact cg
 ·exact gj h _
theorem iC (e : Ev) : 0 ≤ LM e ∧ LM e ≤ 1 := by
 unfold LM Bs
 cases e.kind == 4 <;> cases e.ball.how == 0 <;> cases (e.kind == 5 && e.yes || e.kind == 6 && !e.yes) <;> decide
def BS (q : Int) (s : Inn) : Sco := ⟨s.side, s.runs, s.wickets, Cd q s.complete s.inover, s.wides, s.noballs, s.byes, s.legbyes, s.pens, 0⟩
def LH (r : Rul) (e : Ev) (x : Sco) : Sco := ⟨x.side, x.runs + Cl (Ao r e), x.wickets + LM e, x.balls + cond (Ao r e).counts 1 0, x.wides + (Ao r e).wides, x.noballs + (Ao r e).noballs, x.byes + (Ao r e).byes, x.legbyes + (Ao r e).legbyes, x.pens, x.ending⟩
def Hm (n : Int) (x : Sco) : Sco := ⟨x.side, x.runs + n, x.wickets, x.balls, x.wides, x.noballs, x.byes, x.legbyes, x.pens + n, x.ending⟩
theorem B2 (x : Sco) : Hm 0 x = x := by
 obtain ⟨x0, x1, x2, x3, x4, x5, x6, x7, x8, x9⟩ := x
 simp only [Hm, Int.add_zero]
theorem Wg {r : Rul} {e : Ev} (x : Sco) (hk : (e.kind == 4) = false) : LH r e x = { x with wickets := x.wickets + Bs e } := by
 have c0 : Ao r e = Jw := by unfold Ao; rw [hk]; rfl
 have o0 : LM e = Bs e := by unfold LM; rw [hk]; rfl
 have t0 : Cl Jw = 0 := rfl
 unfold LH
 rw [c0, o0, t0]
 simp only [Jw, cond_false, Int.add_zero]
theorem Ku {r : Rul} {e : Ev} (x : Sco) (hk : (e.kind == 4) = false) (ho : Bs e = 0) : LH r e x = x := by
 rw [Wg x hk, ho, Int.add_zero]
theorem mP {r : Rul} {s : Inn} (ok : InnOk r s) : 0 ≤ s.wickets ∧ s.wickets ≤ 11 := by
 have h := ok.bat
 unfold VN at h
 simp only [Bool.and_eq_true] at h
 have h1 := beq_iff_eq.1 h.2.2
 have h2 := bG (pIs s.batters 2) s.batters.length
 have h3 := (EN ok.code).side
 have h4 := ok.lb
 unfold Wv at h1
 omega
theorem mu {c q : Int} (hc : 0 ≤ c ∧ c ≤ 1000000000) (hq : 0 ≤ q ∧ q ≤ 8) : 0 ≤ c * q ∧ c * q ≤ 8000000000 := by
 refine ⟨Int.mul_nonneg hc.1 hq.1, ?_⟩
 have h1 := Int.mul_le_mul_of_nonneg_right hc.2 hq.1
 have h2 := Int.mul_le_mul_of_nonneg_left hq.2 (show (0 : Int) ≤ 1000000000 by omega)
 omega
theorem jq {r : Rul} {s : Inn} (ok : InnOk r s) : Cd r.balls s.complete s.inover = s.complete * r.balls + s.inover ∧ 0 ≤ Cd r.balls s.complete s.inover ∧ Cd r.balls s.complete s.inover ≤ 9000000000 := by
 have h1 := (EN ok.code).balls
 have h2 := ok.io
 have h3 := mu ok.complete (show 0 ≤ r.balls ∧ r.balls ≤ 8 by omega)
 rw [Pj]
 have : wr (s.complete * r.balls + s.inover) = s.complete * r.balls + s.inover := BB (by omega) (by omega)
 rw [this]
 omega
theorem mv {x a d : Int} (h : wr (x - a) = d) (hx : wr x = x) (ha : 0 ≤ a ∧ a ≤ 9000000000) (hd : 0 ≤ d ∧ d ≤ 1000) : x = a + d := by
 simp only [wr, MZ] at h hx
 omega
theorem lU (q : Int) (r : Rul) (t : Inn) (b : Bool) : BS q (Bk r t b) = BS q t := rfl
theorem ji {r : Rul} {s : Inn} {e : Ev} (hk : (e.kind == 4) = true) (h : ((Ak r s e).2 == 0) = true) : BS r.balls (Ak r s e).1 = LH r e (BS r.balls s) := by
 obtain ⟨g1, g2, g3, g4, g5, g6, g7, g8, g9, g10⟩ := iK hk h
 obtain ⟨hv, he, hn, hw, hp, hs⟩ := Y7 h
 have ok := NW.1 hv
 have rk := EN ok.code
 have co := gj rk e.ball
 have k4 := beq_iff_eq.1 hk
 have hpb : CB r s e = LB r s e.ball := by unfold CB; rw [k4]; rfl
 rw [hpb] at hp hs
 obtain ⟨hr, hb⟩ := eT hp
 obtain ⟨q1, q2, q3, q4, q5, q6⟩ := Zl hr
 have ce : Ao r e = AB r e.ball := by unfold Ao; rw [hk]; rfl
 have od : LM e = cond (e.ball.how == 0) 0 1 := by unfold LM; rw [hk]; rfl
 have hx := jq ok
 have r0 := ok.runs
 have w0 := ok.wides
 have n0 := ok.noballs
 have b0 := ok.byes
 have l0 := ok.legbyes
 have wk := mP ok
 unfold Bo at r0 w0 n0 b0 l0
 have f0 := co.ba
 have f1 := co.wi
 have f2 := co.no
 have f3 := co.bb
 have f4 := co.lb
 have f5 := co.tot
 rw [hs, hb] at g1 g7 g8 ⊢
 have e1 : (Bk r (Hk r s e.ball) (e.kind == 4)).runs = IntKind.i64.wrap (s.runs + Cl (AB r e.ball)) := rfl
 have e2 : (Bk r (Hk r s e.ball) (e.kind == 4)).wides = IntKind.i64.wrap (s.wides + (AB r e.ball).wides) := rfl
 have e3 : (Bk r (Hk r s e.ball) (e.kind == 4)).noballs = IntKind.i64.wrap (s.noballs + (AB r e.ball).noballs) := rfl
 have e4 : (Bk r (Hk r s e.ball) (e.kind == 4)).byes = IntKind.i64.wrap (s.byes + (AB r e.ball).byes) := rfl
 have e5 : (Bk r (Hk r s e.ball) (e.kind == 4)).legbyes = IntKind.i64.wrap (s.legbyes + (AB r e.ball).legbyes) := rfl
 have e6 : (Bk r (Hk r s e.ball) (e.kind == 4)).side = s.side ∧ (Bk r (Hk r s e.ball) (e.kind == 4)).pens = s.pens ∧ (Bk r (Hk r s e.ball) (e.kind == 4)).wickets = (Ad s e.ball).wickets := by
  obtain ⟨w1, w2⟩ := eu r (Ad s e.ball) (AB r e.ball).counts
  obtain ⟨k1, k2, k3, k4, k5, k6, k7, k8, k9, k10⟩ := Wz s e.ball
  have w3 : (Ai r (Ad s e.ball) (AB r e.ball).counts).1.side = s.side := by
   have s1 : (Ad s e.ball).side = s.side := by
    unfold Ad
    cases (!(e.ball.runs.tmod 2 == 0) != e.ball.crossed) <;> exact P_c (P := fun x : Inn => x.side = s.side) _ _ _ rfl (P_c (P := fun x : Inn => x.side = s.side) _ _ _ rfl rfl)
   unfold Ai
   exact P_c (P := fun x : Inn × Bool => x.1.side = s.side) _ _ _ s1 (P_c (P := fun x : Inn × Bool => x.1.side = s.side) _ _ _ s1 s1)
  refine ⟨?_, ?_, ?_⟩
  ·show (cond (Ai r (Ad s e.ball) (AB r e.ball).counts).2 (Hc (Ai r (Ad s e.ball) (AB r e.ball).counts).1) (Ai r (Ad s e.ball) (AB r e.ball).counts).1).side = _
   rw [← w3]
   cases (Ai r (Ad s e.ball) (AB r e.ball).counts).2 <;> rfl
  ·show (cond (Ai r (Ad s e.ball) (AB r e.ball).counts).2 (Hc (Ai r (Ad s e.ball) (AB r e.ball).counts).1) (Ai r (Ad s e.ball) (AB r e.ball).counts).1).pens = _
   rw [← k6, ← w2]
   cases (Ai r (Ad s e.ball) (AB r e.ball).counts).2 <;> rfl
  ·show (cond (Ai r (Ad s e.ball) (AB r e.ball).counts).2 (Hc (Ai r (Ad s e.ball) (AB r e.ball).counts).1) (Ai r (Ad s e.ball) (AB r e.ball).counts).1).wickets = _
   rw [← w1]
   cases (Ai r (Ad s e.ball) (AB r e.ball).counts).2 <;> rfl
 obtain ⟨z1, z2⟩ := bK q1 (bA hw (by rw [k4]; rfl))
 have hout := eY (d := e.ball) z1 z2 (fun hd => WU q5 hd)
 have wv : IntKind.i64.wrap (Cd r.balls (Bk r (Hk r s e.ball) (e.kind == 4)).complete (Bk r (Hk r s e.ball) (e.kind == 4)).inover) = Cd r.balls (Bk r (Hk r s e.ball) (e.kind == 4)).complete (Bk r (Hk r s e.ball) (e.kind == 4)).inover := Gn _
 have hb7 := mv g7 wv (by omega) (by cases (AB r e.ball).counts <;> simp)
 unfold BS LH
 rw [e1, e2, e3, e4, e5, e6.1, e6.2.1, e6.2.2, hb7, ce, od, hout]
 have i1 : IntKind.i64.wrap (s.runs + Cl (AB r e.ball)) = s.runs + Cl (AB r e.ball) := BB (by omega) (by omega)
 have i2 : IntKind.i64.wrap (s.wides + (AB r e.ball).wides) = s.wides + (AB r e.ball).wides := BB (by omega) (by omega)
 have i3 : IntKind.i64.wrap (s.noballs + (AB r e.ball).noballs) = s.noballs + (AB r e.ball).noballs := BB (by omega) (by omega)
 have i4 : IntKind.i64.wrap (s.byes + (AB r e.ball).byes) = s.byes + (AB r e.ball).byes := BB (by omega) (by omega)
 have i5 : IntKind.i64.wrap (s.legbyes + (AB r e.ball).legbyes) = s.legbyes + (AB r e.ball).legbyes := BB (by omega) (by omega)
 have i6 : inc s.wickets = s.wickets + 1 := BB (by omega) (by omega)
 rw [i1, i2, i3, i4, i5, i6]
 cases e.ball.how == 0 with
 | false => rfl
 | true => simp only [cond_true, Int.add_zero]
def Kz (q : Int) (s : Inn) (x : Inn × Int) : Prop := (x.2 == 0) = true → BS q x.1 = BS q s
theorem Dc {q : Int} {s : Inn} (b : Bool) (x y : Inn × Int) (hx : Kz q s x) (hy : Kz q s y) : Kz q s (cond b x y) := by cases b <;> assumption
theorem bp {r : Rul} {s : Inn} {e : Ev} (h : ((Ak r s e).2 == 0) = true) : BS r.balls (Ak r s e).1 = Hm (cond (e.kind == 13 && e.side == s.side) 5 0) (LH r e (BS r.balls s)) := by
 cases hk : e.kind == 4 with
 | true =>
  rw [ji hk h, beq_iff_eq.1 hk]
  exact (B2 _).symm
 | false =>
  obtain ⟨hv, he, hn, hw, hp, hs⟩ := Y7 h
  have ok := NW.1 hv
  have wk := mP ok
  have iw : IntKind.i64.wrap (s.wickets + 1) = s.wickets + 1 := BB (by omega) (by omega)
  rw [hs, lU, Wg _ hk]
  have z : ∀ {x : Inn × Int}, Kz r.balls s x → (x.2 == 0) = true → Bs e = 0 → BS r.balls x.1 = Hm (cond (false && e.side == s.side) 5 0) { BS r.balls s with wickets := (BS r.balls s).wickets + Bs e } := fun k hx h0 => by
   rw [k hx, h0, Int.add_zero]
   exact (B2 _).symm
  have kn : ∀ {t : Inn} {n : Int}, (n == 0) = false → Kz r.balls s (t, n) := fun hn hx => by rw [hn] at hx; cases hx
  have ks : ∀ {n : Int}, Kz r.balls s (s, n) := fun _ => rfl
  revert hp
  unfold CB
  rw [hk]
  cases h5 : e.kind == 5 with
  | true =>
   have h5' := beq_iff_eq.1 h5
   have ho : Bs e = cond e.yes 1 0 := by unfold Bs; rw [h5']; cases e.yes <;> rfl
   rw [ho, h5']
   cases e.yes with
   | false =>
    intro hp
    refine Eq.trans (b := BS r.balls s) ?_ ?_
    ·exact (show Kz r.balls s (Np s e.player) by unfold Np; exact Dc _ _ _ (fun _ => rfl) (fun _ => rfl)) hp
    ·simp only [cond_false, Int.add_zero]; exact (B2 _).symm
   | true =>
    intro hp
    change ((Gq s e.player).2 == 0) = true at hp
    show BS r.balls (Gq s e.player).1 = _
    unfold Gq at hp ⊢
    cases hm : Ma s e.player == 0 with
    | false => rw [hm] at hp; exact absurd (show (Ma s e.player == 0) = true from hp) (by rw [hm]; decide)
    | true =>
     simp only [cond_true]
     unfold BS Hm
     simp only [iw, cond_true, Int.reduceBEq, Bool.false_and, cond_false, Int.add_zero]
  | false =>
   cases h6 : e.kind == 6 with
   | true =>
    have h6' := beq_iff_eq.1 h6
    have ho : Bs e = cond e.yes 0 1 := by unfold Bs; rw [h6']; cases e.yes <;> rfl
    rw [ho, h6']
    intro hp
    change ((JC s e.player e.yes).2 == 0) = true at hp
    show BS r.balls (JC s e.player e.yes).1 = _
    unfold JC at hp ⊢
    cases hm1 : (!inR e.player s.batters.length) with
    | true => rw [hm1] at hp; cases hp
    | false =>
     cases hm2 : (s.striker == 0 || s.other == 0) with
     | true => rw [hm1, hm2] at hp; cases hp
     | false =>
      cases hm3 : (!(e.player == s.striker) && !(e.player == s.other)) with
      | true => rw [hm1, hm2, hm3] at hp; cases hp
      | false =>
       cases hm4 : (e.yes && ((EC s.batters s.batters.length).length : Int) == 0) with
       | true => rw [hm1, hm2, hm3, hm4] at hp; cases hp
       | false =>
        simp only [cond_false]
        cases e.yes with
        | true => unfold BS Hm; simp only [cond_true, Int.reduceBEq, Bool.false_and, cond_false, Int.add_zero]
        | false => unfold BS Hm; simp only [iw, cond_false, Int.reduceBEq, Bool.false_and, Int.add_zero]
   | false =>
    have ho : Bs e = 0 := by unfold Bs; rw [h5, h6]; rfl
    cases h13 : e.kind == 13 with
    | true =>
     have k13 := beq_iff_eq.1 h13
     rw [k13, ho]
     intro hp
     change ((Gz s e.side e.runs).2 == 0) = true at hp
     show BS r.balls (Gz s e.side e.runs).1 = _
     have rn := ok.runs
     have pn := ok.pens
     unfold Bo at rn pn
     have i1 : IntKind.i64.wrap (s.runs + 5) = s.runs + 5 := BB (by omega) (by omega)
     have i2 : IntKind.i64.wrap (s.pens + 5) = s.pens + 5 := BB (by omega) (by omega)
     unfold Gz at hp ⊢
     cases hr5 : e.runs == 5 with
     | false => rw [hr5] at hp; cases hp
     | true =>
      cases hsd : e.side == s.side with
      | true =>
       simp only [Bool.not_true, cond_false, cond_true]
       unfold BS Hm OB
       simp only [i1, i2, Bool.and_self, cond_true, Int.reduceBEq, Bool.true_and, Int.add_zero]
      | false =>
       simp only [Bool.not_true, cond_false, Bool.and_false, Int.add_zero]
       exact (B2 _).symm
    | false =>
     simp only [cond_false]
     intro hp
     refine z ?_ hp ho
     refine Dc _ _ _ ?_ (Dc _ _ _ ?_ (Dc _ _ _ ?_ (Dc _ _ _ ?_ (Dc _ _ _ ?_ (Dc _ _ _ ?_ (Dc _ _ _ ?_ (Dc _ _ _ ?_ ?_)))))))
     ·unfold Sl
      exact Dc _ _ _ ks (Dc _ _ _ ks (Dc _ _ _ ks (fun _ => rfl)))
     ·unfold Sp
      cases Mv r s e.player == 0
      ·exact ks
      ·exact fun _ => rfl
     ·unfold KQ
      exact Dc _ _ _ ks (fun _ => rfl)
     ·unfold M3
      exact Dc _ _ _ ks (Dc _ _ _ ks (Dc _ _ _ ks (fun _ => rfl)))
     ·unfold PU
      exact Dc _ _ _ ks (Dc _ _ _ ks (fun _ => rfl))
     ·unfold KZ
      exact Dc _ _ _ ks (fun _ => rfl)
     ·unfold KN
      exact Dc _ _ _ ks (Dc _ _ _ ks (fun _ => rfl))
     ·unfold Kl
      exact Dc _ _ _ ks (Dc _ _ _ (fun _ => rfl) ks)
     ·unfold MU
      exact Dc _ _ _ ks (Dc _ _ _ ks (Dc _ _ _ ks (fun _ => rfl)))
end Go.Px
end
section
namespace Go.Px
set_option maxRecDepth 100000
def sco (xs : List Sco) (i : Nat) : Sco := xs.getD i ⟨0, 0, 0, 0, 0, 0, 0, 0, 0, 0⟩
theorem EW (xs : List Sco) (i : Nat) : sco xs i = (match xs[i]? with | some s => s | none => ⟨0, 0, 0, 0, 0, 0, 0, 0, 0, 0⟩) := by
 unfold sco
 rw [List.getD_eq_getElem?_getD]
 cases xs[i]? <;> rfl
theorem Mm (xs : List Sco) (k : Nat) (s : Sco) (i : Nat) (hi : i < xs.length) : sco (xs.set k s) i = (if k = i then s else sco xs i) := by
 rw [EW, EW, List.getElem?_set]
 by_cases h : k = i
 ·subst h
  rw [if_pos rfl, if_pos rfl, if_pos hi]
 ·rw [if_neg h, if_neg h]
theorem em (xs : List Sco) (s : Sco) (i : Nat) (hi : i < xs.length + 1) : sco (xs ++ [s]) i = (if i < xs.length then sco xs i else s) := by
 rw [EW, EW]
 by_cases h : i < xs.length
 ·rw [if_pos h, List.getElem?_append_left h]
 ·have : i = xs.length := by omega
  subst this
  rw [if_neg h, List.getElem?_append_right (Nat.le_refl _), Nat.sub_self]
  rfl
structure TS where
 xs : List Sco
 p1 : Int
 p2 : Int
 first : Int
 follow : Bool
def Cm (m : Mat) : TS := ⟨m.inns.map (BS m.rules.balls), m.pen1, m.pen2, m.first, m.follow⟩
theorem Rx (q : Int) (xs : List Inn) {i : Nat} (h : i < xs.length) : sco (xs.map (BS q)) i = BS q (inn xs i) := by
 rw [EW, LT, List.getElem?_map, List.getElem?_eq_getElem h]
 rfl
theorem je (q : Int) (xs : List Inn) (i : Nat) : (sco (xs.map (BS q)) i).side = (inn xs i).side := by
 rw [EW, LT, List.getElem?_map]
 cases xs[i]? <;> rfl
def JG (first : Int) (follow : Bool) (i : Int) : Int := cond (cond (follow && iLe 2 i) (i == 2) (i.tmod 2 == 1)) (BD first) first
theorem fN (m : Mat) (i : Int) : Co m i = JG m.first m.follow i := rfl
def bh (sd p : Int) : Sco := ⟨sd, p, 0, 0, 0, 0, 0, 0, p, 0⟩
def BX (sd : Nat → Int) (s : Int) : Nat → Option Nat
 | 0 => none
 | k + 1 => cond (sd k == s) (some k) (BX sd s k)
theorem Oz {f g : Nat → Int} {s : Int} : ∀ n, (∀ k, k < n → f k = g k) → BX f s n = BX g s n
 | 0, _ => rfl
 | n + 1, h => by
  unfold BX
  rw [h n (Nat.lt_succ_self n), Oz n (fun k hk => h k (by omega))]
theorem Il {f : Nat → Int} {s : Int} {j : Nat} : ∀ n, BX f s n = some j → j < n ∧ f j = s
 | 0, h => by cases h
 | n + 1, h => by
  unfold BX at h
  cases hq : f n == s with
  | true =>
   rw [hq] at h
   cases h
   exact ⟨Nat.lt_succ_self _, beq_iff_eq.1 hq⟩
  | false =>
   rw [hq] at h
   obtain ⟨h1, h2⟩ := Il n h
   exact ⟨by omega, h2⟩
theorem U7 {f : Nat → Int} {s : Int} : ∀ n, BX f s n = none → ∀ j, j < n → ¬ f j = s
 | 0, _, j, hj => absurd hj (Nat.not_lt_zero j)
 | n + 1, h, j, hj => by
  unfold BX at h
  cases hq : f n == s with
  | true => rw [hq] at h; cases h
  | false =>
   rw [hq] at h
   by_cases e : j = n
   ·subst e; exact beq_eq_false_iff_ne.1 hq
   ·exact U7 n h j (by omega)
theorem eV (xs : List Inn) (sd : Int) : ∀ n, L5 xs sd n = BX (fun k => (inn xs k).side) sd n
 | 0 => rfl
 | n + 1 => by
  unfold L5 BX
  rw [eV xs sd n]
def aL (T : TS) : TS :=
 let sd := JG T.first T.follow (T.xs.length : Int)
 { T with xs := T.xs ++ [bh sd (cond (sd == 2) T.p2 T.p1)], p1 := cond (sd == 1) 0 T.p1, p2 := cond (sd == 2) 0 T.p2 }
def Pt (s : Int) (T : TS) : TS := match BX (fun k => (sco T.xs k).side) s T.xs.length with
 | some k => { T with xs := T.xs.set k (Hm 5 (sco T.xs k)) }
 | none => { T with p1 := cond (s == 1) (T.p1 + 5) T.p1, p2 := cond (s == 2) (T.p2 + 5) T.p2 }
def aF (r : Rul) (e : Ev) (T : TS) : TS := { T with xs := T.xs.set (T.xs.length - 1) (LH r e (sco T.xs (T.xs.length - 1))) }
def Pu (e : Ev) : Int := cond e.yes e.side (BD e.side)
def Lg (r : Rul) (e : Ev) (T : TS) : TS :=
 cond (e.kind == 1) { T with first := Pu e } (cond (e.kind == 2) (aL T) (cond (e.kind == 12) { T with follow := e.yes } (cond (e.kind == 16) T (cond (e.kind == 13) (Pt e.side T) (aF r e T)))))
theorem hP (x : Mat) : Cm (B4 x) = Cm x ∧ (B4 x).inns = x.inns ∧ ((B4 x).stage = x.stage ∨ (x.stage = 3 ∧ ((B4 x).stage = 5 ∨ ((B4 x).stage = 4 ∧ x.inns.length = 2) ∨ (B4 x).stage = 2))) := by
 unfold B4
 cases h3 : (x.stage == 3 && !((Am x).ending == 0)) with
 | false => exact ⟨rfl, rfl, Or.inl rfl⟩
 | true =>
  rw [Bool.and_eq_true] at h3
  have s3 := beq_iff_eq.1 h3.1
  simp only [cond_true]
  unfold PN
  dsimp only
  cases ((x.inns.length : Int) == IntKind.i64.wrap (2 * x.rules.innings) || ((x.inns.length : Int) == 3 && iLt (B6 x (Am x).side) (B6 x (BD (Am x).side)))) with
  | true => exact ⟨rfl, rfl, Or.inr ⟨s3, Or.inl rfl⟩⟩
  | false =>
   cases h4 : ((x.inns.length : Int) == 2 && iLt 0 x.rules.followon && iLe x.rules.followon (IntKind.i64.wrap (B6 x x.first - B6 x (BD x.first)))) with
   | true =>
    simp only [Bool.and_eq_true, beq_iff_eq] at h4
    exact ⟨rfl, rfl, Or.inr ⟨s3, Or.inr (Or.inl ⟨rfl, by omega⟩)⟩⟩
   | false => exact ⟨rfl, rfl, Or.inr ⟨s3, Or.inr (Or.inr rfl)⟩⟩
theorem Xo {m : Mat} (h : Ff m = true) : (0 ≤ m.pen1 ∧ m.pen1 ≤ 1000000) ∧ (0 ≤ m.pen2 ∧ m.pen2 ≤ 1000000) ∧ ((m.stage == 1) = true → m.first = 0) ∧ ((m.stage == 4) = true → m.inns.length = 2) ∧ 0 ≤ m.first ∧ m.first ≤ 2 := by
 unfold Ff aK at h
 simp only [Bool.and_eq_true, Bool.not_eq_true'] at h
 obtain ⟨⟨h1, h2, h3, h4, h5, h6, h7, h8, h9, h10⟩, h11, h12⟩ := h
 unfold Ya at h4
 simp only [Bool.or_eq_false_iff, iLt, decide_eq_false_iff_not] at h4
 simp only [Bool.or_eq_false_iff, iLt, decide_eq_false_iff_not] at h5
 refine ⟨by omega, by omega, fun hs => ?_, fun hs => ?_, by omega, by omega⟩
 ·rw [hs, Bool.true_and, Bool.not_eq_false', beq_iff_eq] at h7
  exact h7
 ·rw [hs, Bool.true_and, Bool.or_eq_false_iff, Bool.not_eq_false', Bool.not_eq_false', beq_iff_eq, beq_iff_eq] at h9
  omega
theorem ic {r : Rul} {a b c : Int} (h : ((CQ r a b c).2 == 0) = true) : BS r.balls (CQ r a b c).1 = bh a c ∧ (a = 1 ∨ a = 2) := by
 unfold CQ at h ⊢
 cases h1 : A5 r == 0 with
 | false => rw [h1] at h; exact absurd (show (A5 r == 0) = true from h) (by rw [h1]; decide)
 | true =>
  cases h2 : (!btw a 1 2 || !btw b 0 1000000 || !btw c 0 1000000) with
  | true => rw [h1, h2] at h; cases h
  | false =>
   rw [Bool.or_eq_false_iff, Bool.or_eq_false_iff, Bool.not_eq_false'] at h2
   have := Rp.1 h2.1.1
   refine ⟨?_, by omega⟩
   show Sco.mk a c 0 (Cd r.balls 0 0) 0 0 0 0 c 0 = _
   rw [Pj, Int.zero_mul]
   rfl
theorem Jj (q : Int) (xs : List Inn) (k : Nat) (t : Inn) : (xs.set k t).map (BS q) = (xs.map (BS q)).set k (BS q t) := List.map_set
theorem cY (xs : List Sco) (k : Nat) (h : k < xs.length) : xs.set k (sco xs k) = xs := by
 apply List.ext_getElem?
 intro i
 rw [List.getElem?_set]
 by_cases e : k = i
 ·subst e
  rw [if_pos rfl, if_pos h, EW, List.getElem?_eq_getElem h]
 ·rw [if_neg e]
theorem kZ {r : Rul} {s : Inn} (hv : Ge r s = true) (q : Int) : BS q (OB s) = Hm 5 (BS q s) := by
 have ok := NW.1 hv
 have rn := ok.runs
 have pn := ok.pens
 unfold Bo at rn pn
 have i1 : IntKind.i64.wrap (s.runs + 5) = s.runs + 5 := BB (by omega) (by omega)
 have i2 : IntKind.i64.wrap (s.pens + 5) = s.pens + 5 := BB (by omega) (by omega)
 unfold BS Hm OB
 simp only [i1, i2]
structure Stg (m : Mat) (e : Ev) (t : Mat) : Prop where
 k1 : (e.kind == 1) = true → m.stage = 1 ∧ t.stage = 2
 k2 : (e.kind == 2) = true → m.stage = 2 ∧ m.inns.length ≤ 3
 k12 : (e.kind == 12) = true → m.stage = 4 ∧ m.inns.length = 2 ∧ t.stage = 2
 k16 : (e.kind == 16) = true → t.stage = 5
 play : (e.kind == 1) = false → (e.kind == 2) = false → (e.kind == 12) = false → (e.kind == 16) = false → m.stage = 3 ∧ 1 ≤ m.inns.length
 not1 : ¬ t.stage = 1
 four : t.stage = 4 → t.inns.length = 2
set_option maxHeartbeats 4000000 in
theorem aZ {m : Mat} {e : Ev} (h : ((DK m e).2 == 0) = true) : Cm (DK m e).1 = Lg m.rules e (Cm m) ∧ Stg m e (DK m e).1 := by
 obtain ⟨hv, he, h5, hp, hs⟩ := Wd h
 have ok := U0 hv
 obtain ⟨v1, v2, v3, v4, v5, v6⟩ := Xo hv
 obtain ⟨c1, c2, c3⟩ := hP (Hn m e).1
 rw [hs, c1]
 have len4 := ok.len
 unfold Lg
 unfold Hn at hp c2 c3 ⊢
 cases k1 : e.kind == 1 with
 | true =>
  have e1 := beq_iff_eq.1 k1
  rw [k1] at hp c2 c3
  cases s1 : m.stage == 1 with
  | false => rw [s1] at hp; cases hp
  | true =>
   rw [s1] at c2 c3
   simp only [Bool.not_true, cond_false, cond_true] at c2 c3 ⊢
   refine ⟨rfl, ?_⟩
   have st : (B4 { m with first := cond e.yes e.side (BD e.side), stage := 2 }).stage = 2 := by
    rcases c3 with c3 | c3
    ·exact c3
    ·exact absurd c3.1 (by decide)
   exact ⟨fun _ => ⟨beq_iff_eq.1 s1, st⟩, fun k => (by rw [e1] at k; cases k), fun k => (by rw [e1] at k; cases k), fun k => (by rw [e1] at k; cases k), fun k => (by rw [e1] at k; cases k), by rw [st]; decide, (by rw [st]; intro k; cases k)⟩
 | false =>
  rw [k1] at hp c2 c3
  cases k2 : e.kind == 2 with
  | true =>
   have e2 := beq_iff_eq.1 k2
   rw [k2] at hp c2 c3
   cases s2 : m.stage == 2 with
   | false => rw [s2] at hp; cases hp
   | true =>
    rw [s2] at hp c2 c3
    simp only [Bool.not_true, cond_false, cond_true] at hp c2 c3 ⊢
    have room := ok.room s2
    have inn2 := (EN ok.code).innings
    unfold XN at hp c2 c3 ⊢
    cases hb : (CQ m.rules (Co m (m.inns.length : Int)) (GK m (Co m (m.inns.length : Int))) (cond (Co m (m.inns.length : Int) == 2) m.pen2 m.pen1)).2 == 0 with
    | false => simp only [hb, Bool.not_false, cond_true] at hp; cases hp
    | true =>
     simp only [hb, Bool.not_true, cond_false] at hp c2 c3 ⊢
     cases ht : (Ak m.rules (CQ m.rules (Co m (m.inns.length : Int)) (GK m (Co m (m.inns.length : Int))) (cond (Co m (m.inns.length : Int) == 2) m.pen2 m.pen1)).1 e).2 == 0 with
     | false => simp only [ht, Bool.not_false, cond_true] at hp; exact absurd hp Bool.false_ne_true
     | true =>
      simp only [ht, Bool.not_true, cond_false] at c2 c3 ⊢
      have n1 := bp ht
      have o0 : Bs e = 0 := by unfold Bs; rw [e2]; rfl
      rw [Ku _ (by rw [e2]; rfl) o0, e2] at n1
      have n2 := n1.trans (B2 _)
      rw [(ic hb).1] at n2
      refine ⟨?_, ?_⟩
      ·unfold Cm aL
       rw [← fN] at *
       simp only [List.map_append, List.map_cons, List.map_nil, n2, List.length_map]
      ·refine ⟨fun k => (by rw [k1] at k; cases k), fun _ => ⟨beq_iff_eq.1 s2, by omega⟩, fun k => (by rw [e2] at k; cases k), fun k => (by rw [e2] at k; cases k), fun _ k => (by rw [k2] at k; cases k), ?_, ?_⟩
       ·rcases c3 with c3 | ⟨_, c3 | c3 | c3⟩
        ·rw [c3]; decide
        ·rw [c3]; decide
        ·rw [c3.1]; decide
        ·rw [c3]; decide
       ·intro k
        rw [c2]
        rcases c3 with c3 | ⟨_, c3 | c3 | c3⟩
        ·rw [c3] at k; cases k
        ·rw [c3] at k; cases k
        ·exact c3.2
        ·rw [c3] at k; cases k
  | false =>
   rw [k2] at hp c2 c3
   cases k12 : e.kind == 12 with
   | true =>
    have e12 := beq_iff_eq.1 k12
    rw [k12] at hp c2 c3
    cases s4 : m.stage == 4 with
    | false => rw [s4] at hp; cases hp
    | true =>
     rw [s4] at hp c2 c3
     cases sf : e.side == m.first with
     | false => rw [sf] at hp; cases hp
     | true =>
      rw [sf] at c2 c3
      simp only [Bool.not_true, cond_false, cond_true] at c2 c3 ⊢
      refine ⟨rfl, ?_⟩
      have st : (B4 { m with follow := e.yes, stage := 2 }).stage = 2 := by
       rcases c3 with c3 | c3
       ·exact c3
       ·exact absurd c3.1 (by decide)
      exact ⟨fun k => (by rw [k1] at k; cases k), fun k => (by rw [k2] at k; cases k), fun _ => ⟨beq_iff_eq.1 s4, v4 s4, st⟩, fun k => (by rw [e12] at k; cases k), fun _ _ k => (by rw [k12] at k; cases k), by rw [st]; decide, (by rw [st]; intro k; cases k)⟩
   | false =>
    rw [k12] at hp c2 c3
    cases k16 : e.kind == 16 with
    | true =>
     rw [k16] at hp c2 c3
     simp only [cond_false, cond_true] at c2 c3 ⊢
     have st : (B4 (Xx m)).stage = 5 := by
      rcases c3 with c3 | c3
      ·exact c3
      ·exact absurd c3.1 (by show ¬ ((5 : Int) = 3); decide)
     refine ⟨?_, ⟨fun k => (by rw [k1] at k; cases k), fun k => (by rw [k2] at k; cases k), fun k => (by rw [k12] at k; cases k), fun _ => st, fun _ _ _ k => (by rw [k16] at k; cases k), by rw [st]; decide, (by rw [st]; intro k; cases k)⟩⟩
     unfold Cm Xx
     simp only
     cases s3 : m.stage == 3 with
     | false => rfl
     | true =>
      have hl := Uw (ok.begun s3) (by omega)
      simp only [cond_true, Jj]
      rw [show BS m.rules.balls { Am m with ending := 5 } = sco (m.inns.map (BS m.rules.balls)) (lnx m.inns) from (Rx _ _ hl).symm, cY _ _ (by rw [List.length_map]; exact hl)]
    | false =>
     rw [k16] at hp c2 c3
     simp only [cond_false] at hp c2 c3 ⊢
     cases s3 : m.stage == 3 with
     | false => rw [s3] at hp; exact absurd (show ((1 : Int) == 0) = true from hp) (by decide)
     | true =>
      rw [s3] at hp c2 c3
      simp only [Bool.not_true, cond_false] at hp c2 c3 ⊢
      have h0 := ok.begun s3
      have hl := Uw h0 (by omega)
      have hlen : m.inns.length - 1 = lnx m.inns := by
       rw [beq_eq_false_iff_ne] at h0
       unfold lnx
       rw [DB (by omega) (by omega)]
       omega
      have stg : (B4 (Fg m e).1).inns.length = m.inns.length → ((B4 (Fg m e).1).stage = 3 ∨ ((B4 (Fg m e).1).stage = 5 ∨ ((B4 (Fg m e).1).stage = 4 ∧ m.inns.length = 2) ∨ (B4 (Fg m e).1).stage = 2)) → Stg m e (B4 (Fg m e).1) := fun hn hq =>
       ⟨fun k => (by rw [k1] at k; cases k), fun k => (by rw [k2] at k; cases k), fun k => (by rw [k12] at k; cases k), fun k => (by rw [k16] at k; cases k), fun _ _ _ _ => ⟨beq_iff_eq.1 s3, by omega⟩, by
        rcases hq with q | q | q | q
        ·rw [q]; decide
        ·rw [q]; decide
        ·rw [q.1]; decide
        ·rw [q]; decide, by
        intro k
        rw [hn]
        rcases hq with q | q | q | q
        ·rw [q] at k; cases k
        ·rw [q] at k; cases k
        ·exact q.2
        ·rw [q] at k; cases k⟩
      have xl : (m.inns.map (BS m.rules.balls)).length = m.inns.length := List.length_map _
      cases hq : (Ak m.rules (Am m) e).2 == 0 with
      | false => unfold Fg at hp; simp only [hq, Bool.not_false, cond_true] at hp; exact absurd hp Bool.false_ne_true
      | true =>
       have n1 := bp hq
       have sd1 : (Ak m.rules (Am m) e).1.side = (Am m).side := congrArg Sco.side n1
       have s3' := beq_iff_eq.1 s3
       cases k13 : e.kind == 13 with
       | false =>
        rw [k13] at n1
        have n2 := n1.trans (B2 _)
        have pm : Fg m e = ({ m with inns := m.inns.set (lnx m.inns) (Ak m.rules (Am m) e).1 }, 0) := by
         unfold Fg
         simp only [hq, k13, Bool.not_true, Bool.false_and, cond_false]
        rw [pm] at c2 c3 stg ⊢
        refine ⟨?_, stg (by rw [c2]; exact List.length_set) ?_⟩
        ·unfold Cm aF
         simp only [cond_false, Jj, n2, xl, hlen, Rx _ _ hl]
         rfl
        ·rcases c3 with c3 | ⟨_, c3 | c3 | c3⟩
         ·exact Or.inl (c3.trans s3')
         ·exact Or.inr (Or.inl c3)
         ·exact Or.inr (Or.inr (Or.inl ⟨c3.1, by have := c3.2; change (m.inns.set _ _).length = 2 at this; rw [List.length_set] at this; exact this⟩))
         ·exact Or.inr (Or.inr (Or.inr c3))
       | true =>
        have e13 := beq_iff_eq.1 k13
        have o0 : Bs e = 0 := by unfold Bs; rw [e13]; rfl
        rw [Ku _ (by rw [e13]; rfl) o0, k13, Bool.true_and] at n1
        have bk : BX (fun k => (sco (m.inns.map (BS m.rules.balls)) k).side) e.side m.inns.length = cond (e.side == (Am m).side) (some (lnx m.inns)) (BX (fun k => (inn m.inns k).side) e.side (lnx m.inns)) := by
         have : m.inns.length = lnx m.inns + 1 := by omega
         rw [this]
         show cond ((sco (m.inns.map (BS m.rules.balls)) (lnx m.inns)).side == e.side) _ (BX (fun k => (sco (m.inns.map (BS m.rules.balls)) k).side) e.side (lnx m.inns)) = _
         simp only [je]
         have sy : ((inn m.inns (lnx m.inns)).side == e.side) = (e.side == (Am m).side) := by
          show ((Am m).side == e.side) = _
          rw [Bool.eq_iff_iff, beq_iff_eq, beq_iff_eq]
          exact eq_comm
         rw [sy]
        cases hsd : e.side == (Am m).side with
        | true =>
         rw [hsd] at n1 bk
         simp only [cond_true] at n1 bk
         have pm : Fg m e = ({ m with inns := m.inns.set (lnx m.inns) (Ak m.rules (Am m) e).1 }, 0) := by
          unfold Fg
          simp only [hq, k13, sd1, hsd, Bool.not_true, Bool.and_false, cond_false]
         rw [pm] at c2 c3 stg ⊢
         refine ⟨?_, stg (by rw [c2]; exact List.length_set) ?_⟩
         ·unfold Cm Pt
          simp only [cond_true, Jj, n1, xl, bk, Rx _ _ hl]
          rfl
         ·rcases c3 with c3 | ⟨_, c3 | c3 | c3⟩
          ·exact Or.inl (c3.trans s3')
          ·exact Or.inr (Or.inl c3)
          ·exact Or.inr (Or.inr (Or.inl ⟨c3.1, by have := c3.2; change (m.inns.set _ _).length = 2 at this; rw [List.length_set] at this; exact this⟩))
          ·exact Or.inr (Or.inr (Or.inr c3))
        | false =>
         rw [hsd] at n1 bk
         simp only [cond_false] at n1 bk
         have n2 := n1.trans (B2 _)
         have pm : Fg m e = (HN { m with inns := m.inns.set (lnx m.inns) (Ak m.rules (Am m) e).1 } e.side, 0) := by
          unfold Fg
          simp only [hq, k13, sd1, hsd, Bool.not_true, Bool.not_false, Bool.and_true, cond_true, cond_false]
         have ab : L5 (m.inns.set (lnx m.inns) (Ak m.rules (Am m) e).1) e.side (m.inns.set (lnx m.inns) (Ak m.rules (Am m) e).1).length = BX (fun k => (inn m.inns k).side) e.side (lnx m.inns) := by
          rw [eV, List.length_set, show m.inns.length = lnx m.inns + 1 by omega]
          show cond ((inn (m.inns.set (lnx m.inns) (Ak m.rules (Am m) e).1) (lnx m.inns)).side == e.side) (some (lnx m.inns)) (BX (fun k => (inn (m.inns.set (lnx m.inns) (Ak m.rules (Am m) e).1) k).side) e.side (lnx m.inns)) = BX (fun k => (inn m.inns k).side) e.side (lnx m.inns)
          rw [VK _ _ _ _ hl, if_pos rfl, sd1]
          have sy : ((Am m).side == e.side) = false := by
           rw [← hsd, Bool.eq_iff_iff, beq_iff_eq, beq_iff_eq]
           exact eq_comm
          rw [sy]
          exact Oz _ (fun k hk => by rw [VK _ _ _ _ (by omega), if_neg (by omega)])
         have mx : (m.inns.set (lnx m.inns) (Ak m.rules (Am m) e).1).map (BS m.rules.balls) = m.inns.map (BS m.rules.balls) := by
          rw [Jj, n2, show BS m.rules.balls (Am m) = sco (m.inns.map (BS m.rules.balls)) (lnx m.inns) from (Rx _ _ hl).symm]
          exact cY _ _ (by rw [xl]; exact hl)
         obtain ⟨a1, a2, a3, a4⟩ := bu (m := { m with inns := m.inns.set (lnx m.inns) (Ak m.rules (Am m) e).1 }) e.side (Pm (lnx m.inns) (Zk ok) (by
          have lv := O9 (ok.innv (lnx m.inns) hl).1
          have l1 := lv.1
          have l2 := lv.2.1
          exact P9 (QZ m.rules (Am m) e) lv.2.2 (show (inn m.inns (lnx m.inns)).before.length + (inn m.inns (lnx m.inns)).bowlers.length ≤ 1048575 by omega)))
         have a3' : (HN { m with inns := m.inns.set (lnx m.inns) (Ak m.rules (Am m) e).1 } e.side).inns.length = m.inns.length := a3.trans List.length_set
         rw [pm] at c2 c3 stg ⊢
         refine ⟨?_, stg (by rw [c2]; exact a3') ?_⟩
         ·simp only [cond_true]
          unfold HN
          simp only [ab]
          unfold Pt
          show Cm _ = match BX (fun k => (sco (m.inns.map (BS m.rules.balls)) k).side) e.side (m.inns.map (BS m.rules.balls)).length with
           | some k => _
           | none => _
          rw [xl, bk]
          cases hk : BX (fun k => (inn m.inns k).side) e.side (lnx m.inns) with
          | none =>
           have i1 : IntKind.i64.wrap (m.pen1 + 5) = m.pen1 + 5 := BB (by omega) (by omega)
           have i2 : IntKind.i64.wrap (m.pen2 + 5) = m.pen2 + 5 := BB (by omega) (by omega)
           unfold Cm
           simp only [mx, i1, i2]
          | some k =>
           have hk2 := (Il _ hk).1
           have hki : inn (m.inns.set (lnx m.inns) (Ak m.rules (Am m) e).1) k = inn m.inns k := by rw [VK _ _ _ _ (by omega), if_neg (by omega)]
           unfold Cm
           simp only [hki, Jj (k := k), mx, kZ (ok.innv k (by omega)).1, Rx _ _ (show k < m.inns.length by omega)]
         ·rcases c3 with c3 | ⟨_, c3 | c3 | c3⟩
          ·exact Or.inl (c3.trans (a4.trans s3'))
          ·exact Or.inr (Or.inl c3)
          ·exact Or.inr (Or.inr (Or.inl ⟨c3.1, a3'.symm.trans c3.2⟩))
          ·exact Or.inr (Or.inr (Or.inr c3))
end Go.Px
end
section
namespace Go.Px
set_option maxRecDepth 100000
def opn (L : Rows) : Nat → Nat
 | 0 => 0
 | n + 1 => opn L n + cond ((evR L n).kind == 2) 1 0
theorem Pg (L : Rows) (n : Nat) : opn L n ≤ opn L (n + 1) := by
 show opn L n ≤ opn L n + _
 exact Nat.le_add_right _ _
theorem ET (L : Rows) {i : Nat} : ∀ {j : Nat}, i ≤ j → opn L i ≤ opn L j
 | 0, h => by rw [Nat.le_zero.1 h]; exact Nat.le_refl _
 | j + 1, h => by
  by_cases e : i = j + 1
  ·rw [e]; exact Nat.le_refl _
  ·exact Nat.le_trans (ET L (by omega)) (Pg L j)
def DC (L : Rows) : Nat → Option Int
 | 0 => none
 | n + 1 => match DC L n with
  | some v => some v
  | none => cond ((evR L n).kind == 1) (some (Pu (evR L n))) none
theorem RQ {L : Rows} {v : Int} {i : Nat} (h : DC L i = some v) : ∀ {j : Nat}, i ≤ j → DC L j = some v
 | 0, hj => by rw [Nat.le_zero.1 hj] at h; exact h
 | j + 1, hj => by
  by_cases e : i = j + 1
  ·rw [← e]; exact h
  ·unfold DC
   rw [RQ h (show i ≤ j by omega)]
def DJ (L : Rows) : Nat → Bool
 | 0 => false
 | n + 1 => DJ L n || ((evR L n).kind == 12 && (evR L n).yes)
def had (L : Rows) : Nat → Bool
 | 0 => false
 | n + 1 => had L n || (evR L n).kind == 12
theorem et {L : Rows} : ∀ n, had L n = false → DJ L n = false
 | 0, _ => rfl
 | n + 1, h => by
  unfold had at h
  unfold DJ
  rw [Bool.or_eq_false_iff] at h
  rw [et n h.1, h.2]
  rfl
structure LogI (L : Rows) (i : Nat) (m : Mat) : Prop where
 len : m.inns.length = opn L i
 fs : ∀ v, DC L i = some v → m.first = v ∧ ¬ m.stage = 1
 fn : DC L i = none → m.first = 0
 fol : m.follow = DJ L i
 k12 : had L i = true → (m.inns.length = 2 ∧ (m.stage = 2 ∨ m.stage = 5)) ∨ 3 ≤ m.inns.length
structure EvF (L : Rows) (i : Nat) : Prop where
 two : ((evR L i).kind == 2) = true → opn L i ≤ 3 ∧ ∃ v, DC L i = some v ∧ (v = 1 ∨ v = 2)
 twelve : ((evR L i).kind == 12) = true → opn L i = 2
 play : ((evR L i).kind == 1) = false → ((evR L i).kind == 2) = false → ((evR L i).kind == 12) = false → ((evR L i).kind == 16) = false → 1 ≤ opn L i
theorem jH (s : Int) (T : TS) : (Pt s T).xs.length = T.xs.length ∧ (Pt s T).first = T.first ∧ (Pt s T).follow = T.follow := by
 unfold Pt
 cases BX (fun k => (sco T.xs k).side) s T.xs.length with
 | none => exact ⟨rfl, rfl, rfl⟩
 | some k => exact ⟨List.length_set, rfl, rfl⟩
theorem YC (r : Rul) (e : Ev) (T : TS) : (Lg r e T).xs.length = T.xs.length + cond (e.kind == 2) 1 0 ∧ (Lg r e T).first = cond (e.kind == 1) (Pu e) T.first ∧ (Lg r e T).follow = cond (e.kind == 12) e.yes T.follow := by
 unfold Lg
 cases k1 : e.kind == 1 with
 | true =>
  rw [beq_iff_eq.1 k1]
  exact ⟨rfl, rfl, rfl⟩
 | false =>
  cases k2 : e.kind == 2 with
  | true =>
   rw [beq_iff_eq.1 k2]
   refine ⟨?_, rfl, rfl⟩
   show (T.xs ++ [_]).length = _
   rw [List.length_append]
   rfl
  | false =>
   cases k12 : e.kind == 12 with
   | true => exact ⟨rfl, rfl, rfl⟩
   | false =>
    cases k16 : e.kind == 16 with
    | true => exact ⟨rfl, rfl, rfl⟩
    | false =>
     cases k13 : e.kind == 13 with
     | true => exact jH e.side T
     | false => exact ⟨List.length_set, rfl, rfl⟩
theorem jD {L : Rows} {i : Nat} {m : Mat} (h : LogI L i m) (ha : ((DK m (evR L i)).2 == 0) = true) : LogI L (i + 1) (DK m (evR L i)).1 ∧ EvF L i := by
 obtain ⟨ab, sg⟩ := aZ ha
 obtain ⟨hv, he, h5, hp, hs⟩ := Wd ha
 have vp := Xo hv
 obtain ⟨t1, t2, t3⟩ := YC m.rules (evR L i) (Cm m)
 rw [← ab] at t1 t2 t3
 have x1 : ∀ z : Mat, (Cm z).xs.length = z.inns.length := fun z => List.length_map _
 rw [x1, x1] at t1
 change (DK m (evR L i)).1.first = cond ((evR L i).kind == 1) (Pu (evR L i)) m.first at t2
 change (DK m (evR L i)).1.follow = cond ((evR L i).kind == 12) (evR L i).yes m.follow at t3
 have no12 : ((evR L i).kind == 12) = true → had L i = false := fun k => by
  obtain ⟨s1, s2, s3⟩ := sg.k12 k
  cases hh : had L i with
  | false => rfl
  | true => rcases h.k12 hh with ⟨_, q | q⟩ | q <;> omega
 have no5 : ¬ m.stage = 5 := beq_eq_false_iff_ne.1 h5
 refine ⟨⟨?_, ?_, ?_, ?_, ?_⟩, ⟨?_, ?_, ?_⟩⟩
 ·rw [t1, h.len]; rfl
 ·intro v hv2
  refine ⟨?_, sg.not1⟩
  rw [t2]
  unfold DC at hv2
  cases hf : DC L i with
  | some w =>
   rw [hf] at hv2
   cases hv2
   obtain ⟨f1, f2⟩ := h.fs _ hf
   cases k1 : (evR L i).kind == 1 with
   | true => exact absurd (sg.k1 k1).1 f2
   | false => exact f1
  | none =>
   rw [hf] at hv2
   cases k1 : (evR L i).kind == 1 with
   | true =>
    simp only [k1, cond_true] at hv2
    cases hv2
    rfl
   | false =>
    simp only [k1, cond_false] at hv2
    cases hv2
 ·intro hn
  rw [t2]
  unfold DC at hn
  cases hf : DC L i with
  | some w => rw [hf] at hn; cases hn
  | none =>
   rw [hf] at hn
   cases k1 : (evR L i).kind == 1 with
   | true =>
    simp only [k1, cond_true] at hn
    cases hn
   | false => exact h.fn hf
 ·rw [t3]
  unfold DJ
  cases k12 : (evR L i).kind == 12 with
  | true => rw [et i (no12 k12)]; rfl
  | false => rw [h.fol, Bool.false_and, Bool.or_false]; rfl
 ·intro hh
  rw [t1]
  unfold had at hh
  cases k12 : (evR L i).kind == 12 with
  | true =>
   obtain ⟨s1, s2, s3⟩ := sg.k12 k12
   rw [beq_iff_eq.1 k12]
   exact Or.inl ⟨s2, Or.inl s3⟩
  | false =>
   rw [k12, Bool.or_false] at hh
   rcases h.k12 hh with ⟨q1, q2⟩ | q
   ·cases k2 : (evR L i).kind == 2 with
    | true => exact Or.inr (by simp only [cond_true]; omega)
    | false =>
     refine Or.inl ⟨q1, ?_⟩
     cases k16 : (evR L i).kind == 16 with
     | true => exact Or.inr (sg.k16 k16)
     | false =>
      cases k1 : (evR L i).kind == 1 with
      | true => have := (sg.k1 k1).1; omega
      | false => have := (sg.play k1 k2 k12 k16).1; omega
   ·exact Or.inr (Nat.le_trans q (Nat.le_add_right _ _))
 ·intro k2
  obtain ⟨s1, s2⟩ := sg.k2 k2
  refine ⟨by rw [← h.len]; exact s2, ?_⟩
  have tk := (U0 hv).toss (by rw [s1]; rfl)
  cases hf : DC L i with
  | none => have := h.fn hf; omega
  | some w => exact ⟨w, rfl, by rw [← (h.fs w hf).1]; exact tk⟩
 ·intro k
  rw [← h.len]
  exact (sg.k12 k).2.1
 ·intro a b c d
  rw [← h.len]
  exact (sg.play a b c d).2
theorem fB {r : Rul} (h : ((A9 r).2 == 0) = true) : (A9 r).1 = ⟨r, 1, 0, false, [], 0, 0, 0, 0, 0⟩ ∧ A5 r = 0 := by
 unfold A9 at h ⊢
 cases hc : A5 r == 0 with
 | false => rw [hc] at h; exact absurd (show (A5 r == 0) = true from h) (by rw [hc]; decide)
 | true => exact ⟨rfl, beq_iff_eq.1 hc⟩
theorem Kj {r : Rul} {L : Rows} {n : Nat} (hc : ((A9 r).2 == 0) = true) (ha : acc L n 0 (A9 r).1) : ∀ i, i ≤ n → LogI L i (stM L i 0 (A9 r).1) ∧ StepOk r (stM L i 0 (A9 r).1) ∧ ∀ j, j < i → Cm (stM L (j + 1) 0 (A9 r).1) = Lg r (evR L j) (Cm (stM L j 0 (A9 r).1)) ∧ EvF L j
 | 0, _ => by
  refine ⟨?_, eP r hc, fun j hj => absurd hj (Nat.not_lt_zero j)⟩
  show LogI L 0 (A9 r).1
  rw [(fB hc).1]
  exact ⟨rfl, fun v h => (by cases h), fun _ => rfl, rfl, fun h => (by cases h)⟩
 | i + 1, hi => by
  obtain ⟨h1, h2, h3⟩ := Kj hc ha i (by omega)
  have a0 := gf n 0 _ ha i (by omega)
  have s0 := bO (L := L) i 0 (A9 r).1
  rw [Nat.zero_add] at a0 s0
  have q := (gp a0).1
  rw [q] at s0 a0
  obtain ⟨l1, l2⟩ := jD h1 a0
  rw [s0]
  refine ⟨l1, by rw [← q]; exact bM h2 _ _, fun j hj => ?_⟩
  by_cases e : j = i
  ·subst e
   rw [s0]
   refine ⟨?_, l2⟩
   rw [(aZ a0).1, h2.rules]
  ·exact h3 j (by omega)
def sdF (L : Rows) (n : Nat) (j : Nat) : Int := JG ((DC L n).getD 1) (DJ L n) (j : Int)
theorem bD {L : Rows} {i : Nat} : ∀ n, i ≤ n → (∀ j, i ≤ j → j < n → ((evR L j).kind == 12) = false) → DJ L n = DJ L i
 | 0, h, _ => by rw [Nat.le_zero.1 h]
 | n + 1, h, hk => by
  by_cases e : i = n + 1
  ·rw [e]
  ·have : DJ L (n + 1) = DJ L n := by
    show (DJ L n || ((evR L n).kind == 12 && _)) = _
    rw [hk n (by omega) (Nat.lt_succ_self n), Bool.false_and, Bool.or_false]
   rw [this]
   exact bD n (by omega) (fun j h1 h2 => hk j h1 (by omega))
theorem jT (f : Int) (a b : Bool) {j : Nat} (h : j < 2) : JG f a (j : Int) = JG f b (j : Int) := by
 have : iLe 2 (j : Int) = false := by simp only [iLe, decide_eq_false_iff_not]; omega
 unfold JG
 rw [this, Bool.and_false, Bool.and_false]
theorem lh {r : Rul} {L : Rows} {n i : Nat} (hc : ((A9 r).2 == 0) = true) (ha : acc L n 0 (A9 r).1) (hi : i < n) (hk : ((evR L i).kind == 2) = true) :
    JG (stM L i 0 (A9 r).1).first (stM L i 0 (A9 r).1).follow (opn L i : Int) = sdF L n (opn L i) ∧ (sdF L n (opn L i) = 1 ∨ sdF L n (opn L i) = 2) := by
  obtain ⟨h1, _, _⟩ := Kj hc ha i (by omega)
  obtain ⟨_, _, h3⟩ := Kj hc ha n (Nat.le_refl n)
  obtain ⟨e1, v, e2, e3⟩ := (h3 i hi).2.two hk
  have f1 := (h1.fs v e2).1
  have f2 := RQ e2 (show i ≤ n by omega)
  have main : JG (stM L i 0 (A9 r).1).first (stM L i 0 (A9 r).1).follow (opn L i : Int) = sdF L n (opn L i) := by
    unfold sdF
    rw [f1, f2, h1.fol]
    show JG v _ _ = JG v _ _
    by_cases h2 : opn L i < 2
    · exact jT _ _ _ h2
    · rw [bD (i := i) n (by omega)]
      intro j j1 j2
      cases k12 : (evR L j).kind == 12 with
      | false => rfl
      | true =>
        have o2 := (h3 j j2).2.twelve k12
        by_cases e : j = i
        · subst e
          rw [beq_iff_eq.1 hk] at k12
          cases k12
        · have := ET L (show i + 1 ≤ j by omega)
          have o3 : opn L (i + 1) = opn L i + 1 := by show opn L i + cond ((evR L i).kind == 2) 1 0 = _; rw [hk]; rfl
          omega
  refine ⟨main, ?_⟩
  rw [← main, f1]
  unfold JG
  cases cond ((stM L i 0 (A9 r).1).follow && iLe 2 (opn L i : Int)) ((opn L i : Int) == 2) ((opn L i : Int).tmod 2 == 1) with
  | false => exact e3
  | true => rcases e3 with h | h <;> rw [h] <;> decide
def smi (L : Rows) (f : Ev → Int) (j : Nat) : Nat → Int
 | 0 => 0
 | n + 1 => smi L f j n + cond (Nat.beq (opn L (n + 1)) (j + 1)) (f (evR L n)) 0
theorem P0 (L : Rows) (f : Ev → Int) (j n : Nat) : smi L f j (n + 1) = smi L f j n + cond (Nat.beq (opn L (n + 1)) (j + 1)) (f (evR L n)) 0 := rfl
theorem R6 {a b : Nat} (h : ¬ a = b) : Nat.beq a b = false := by
 cases hq : Nat.beq a b with
 | false => rfl
 | true => exact absurd (Nat.eq_of_beq_eq_true hq) h
theorem PK (a : Nat) : Nat.beq a a = true := Nat.beq_refl a
theorem Sw {L : Rows} {f : Ev → Int} {j : Nat} : ∀ n, opn L n ≤ j → smi L f j n = 0
 | 0, _ => rfl
 | n + 1, h => by
  have := Pg L n
  unfold smi
  rw [Sw n (by omega), R6 (by omega)]
  rfl
def Mg (sd : Nat → Int) (s : Int) : Nat → Nat → Option Nat
 | 0, _ => none
 | c + 1, i => cond (sd i == s) (some i) (Mg sd s c (i + 1))
theorem QE {sd : Nat → Int} {s : Int} {j : Nat} : ∀ c i, Mg sd s c i = some j → i ≤ j ∧ j < i + c ∧ sd j = s ∧ ∀ k, i ≤ k → k < j → ¬ sd k = s
 | 0, _, h => by cases h
 | c + 1, i, h => by
  unfold Mg at h
  cases hq : sd i == s with
  | true =>
   rw [hq] at h
   cases h
   exact ⟨Nat.le_refl _, by omega, beq_iff_eq.1 hq, fun k h1 h2 => by omega⟩
  | false =>
   rw [hq] at h
   obtain ⟨h1, h2, h3, h4⟩ := QE c (i + 1) h
   refine ⟨by omega, by omega, h3, fun k k1 k2 => ?_⟩
   by_cases e : k = i
   ·subst e; exact beq_eq_false_iff_ne.1 hq
   ·exact h4 k (by omega) k2
theorem ik {sd : Nat → Int} {s : Int} {k : Nat} (hs : sd k = s) : ∀ c i, i ≤ k → k < i + c → ∃ j, Mg sd s c i = some j ∧ j ≤ k
 | 0, _, h1, h2 => absurd h2 (by omega)
 | c + 1, i, h1, h2 => by
  unfold Mg
  cases hq : sd i == s with
  | true => exact ⟨i, rfl, h1⟩
  | false =>
   have : ¬ i = k := fun e => by subst e; exact beq_eq_false_iff_ne.1 hq hs
   exact ik hs c (i + 1) (by omega) (by omega)
def Cb (sd : Nat → Int) (n k : Nat) (s : Int) : Option Nat := match BX sd s (k + 1) with
 | some j => some j
 | none => Mg sd s (n - (k + 1)) (k + 1)
theorem bH {sd : Nat → Int} {n k j : Nat} {s : Int} (h : Cb sd n k s = some j) : sd j = s ∧ (j ≤ k ∨ (k < j ∧ j < n ∧ BX sd s (k + 1) = none)) := by
 unfold Cb at h
 cases hb : BX sd s (k + 1) with
 | some w =>
  rw [hb] at h
  cases h
  have := Il _ hb
  exact ⟨this.2, Or.inl (by omega)⟩
 | none =>
  rw [hb] at h
  obtain ⟨h1, h2, h3, h4⟩ := QE _ _ h
  exact ⟨h3, Or.inr ⟨by omega, by omega, rfl⟩⟩
def isS (o : Option Nat) (j : Nat) : Bool := match o with
 | some k => Nat.beq k j
 | none => false
theorem VU {o : Option Nat} {j : Nat} : isS o j = true ↔ o = some j := by
 cases o with
 | none => exact ⟨fun h => (by cases h), fun h => (by cases h)⟩
 | some k => exact ⟨fun h => (by rw [Nat.eq_of_beq_eq_true h]), fun h => (by cases h; exact PK j)⟩
def pnS (L : Rows) (sd : Nat → Int) (n j : Nat) : Nat → Int
 | 0 => 0
 | i + 1 => pnS L sd n j i + cond ((evR L i).kind == 13 && isS (Cb sd n (opn L (i + 1) - 1) (evR L i).side) j) 5 0
theorem R5 (L : Rows) (sd : Nat → Int) (n j i : Nat) : pnS L sd n j (i + 1) = pnS L sd n j i + cond ((evR L i).kind == 13 && isS (Cb sd n (opn L (i + 1) - 1) (evR L i).side) j) 5 0 := rfl
def pcS (L : Rows) (s : Int) : Nat → Int
 | 0 => 0
 | i + 1 => pcS L s i + cond ((evR L i).kind == 13 && (evR L i).side == s) 5 0
def EE (L : Rows) (sd : Nat → Int) (s : Int) (k i : Nat) : Int := match BX sd s k with
 | some _ => 0
 | none => pcS L s i
theorem eX {L : Rows} {sd : Nat → Int} {n k : Nat} (hn : k < n) : ∀ i, (∀ j, j < i → ((evR L j).kind == 13) = true → 1 ≤ opn L (j + 1)) → opn L i ≤ k → pnS L sd n k i = EE L sd (sd k) k i
 | 0, _, _ => by unfold EE; cases BX sd (sd k) k <;> rfl
 | i + 1, h, hk => by
  have ih := eX (sd := sd) hn i (fun j hj => h j (by omega)) (Nat.le_trans (Pg L i) hk)
  unfold pnS
  rw [ih]
  unfold EE
  cases k13 : (evR L i).kind == 13 with
  | false =>
   rw [Bool.false_and, cond_false, Int.add_zero]
   cases BX sd (sd k) k with
   | some _ => rfl
   | none =>
    show pcS L (sd k) i = pcS L (sd k) i + cond ((evR L i).kind == 13 && _) 5 0
    rw [k13, Bool.false_and, cond_false, Int.add_zero]
  | true =>
   have o1 := h i (Nat.lt_succ_self i) k13
   rw [Bool.true_and]
   by_cases es : (evR L i).side = sd k
   ·cases hb : BX sd (sd k) k with
    | some w =>
     have bw := Il _ hb
     have : isS (Cb sd n (opn L (i + 1) - 1) (evR L i).side) k = false := by
      cases hq : isS (Cb sd n (opn L (i + 1) - 1) (evR L i).side) k with
      | false => rfl
      | true =>
       exfalso
       have hd := VU.1 hq
       rw [es] at hd
       unfold Cb at hd
       rw [show opn L (i + 1) - 1 + 1 = opn L (i + 1) by omega] at hd
       cases hb2 : BX sd (sd k) (opn L (i + 1)) with
       | some z =>
        rw [hb2] at hd
        cases hd
        have := (Il _ hb2).1
        omega
       | none =>
        rw [hb2] at hd
        have nb := U7 _ hb2
        have f4 := (QE _ _ hd).2.2.2 w
        by_cases hw : w < opn L (i + 1)
        ·exact nb w hw bw.2
        ·exact f4 (by omega) bw.1 bw.2
     rw [this]
     rfl
    | none =>
     have nb := U7 _ hb
     have : isS (Cb sd n (opn L (i + 1) - 1) (evR L i).side) k = true := by
      rw [VU, es]
      unfold Cb
      rw [show opn L (i + 1) - 1 + 1 = opn L (i + 1) by omega]
      cases hb2 : BX sd (sd k) (opn L (i + 1)) with
      | some z =>
       have := Il _ hb2
       exact absurd this.2 (nb z (by omega))
      | none =>
       obtain ⟨j, j1, j2⟩ := ik (sd := sd) (s := sd k) (k := k) rfl (n - opn L (i + 1)) (opn L (i + 1)) hk (by omega)
       have := QE _ _ j1
       by_cases e : j = k
       ·subst e; exact j1
       ·exact absurd this.2.2.1 (nb j (by omega))
     rw [this]
     show pcS L (sd k) i + _ = pcS L (sd k) i + cond ((evR L i).kind == 13 && (evR L i).side == sd k) 5 0
     rw [k13, es, beq_self_eq_true]
     rfl
   ·have : isS (Cb sd n (opn L (i + 1) - 1) (evR L i).side) k = false := by
     cases hq : isS (Cb sd n (opn L (i + 1) - 1) (evR L i).side) k with
     | false => rfl
     | true => exact absurd (bH (VU.1 hq)).1.symm es
    rw [this, cond_false, Int.add_zero]
    cases BX sd (sd k) k with
    | some _ => rfl
    | none =>
     show pcS L (sd k) i = pcS L (sd k) i + cond ((evR L i).kind == 13 && (evR L i).side == sd k) 5 0
     rw [beq_false_of_ne es, Bool.and_false, cond_false, Int.add_zero]
def Wy (r : Rul) (e : Ev) : Int := Cl (Ao r e)
def jc (r : Rul) (e : Ev) : Int := cond (Ao r e).counts 1 0
def A1 (r : Rul) (L : Rows) (sd : Nat → Int) (n j i : Nat) : Sco := ⟨sd j, smi L (Wy r) j i + pnS L sd n j i, smi L LM j i, smi L (jc r) j i, smi L (fun e => (Ao r e).wides) j i, smi L (fun e => (Ao r e).noballs) j i, smi L (fun e => (Ao r e).byes) j i, smi L (fun e => (Ao r e).legbyes) j i, pnS L sd n j i, 0⟩
theorem Sg (r : Rul) (L : Rows) (sd : Nat → Int) (n j i : Nat) : A1 r L sd n j (i + 1) = Hm (cond ((evR L i).kind == 13 && isS (Cb sd n (opn L (i + 1) - 1) (evR L i).side) j) 5 0) (cond (Nat.beq (opn L (i + 1)) (j + 1)) (LH r (evR L i) (A1 r L sd n j i)) (A1 r L sd n j i)) := by
 unfold A1
 simp only [P0, R5]
 generalize (cond ((evR L i).kind == 13 && isS (Cb sd n (opn L (i + 1) - 1) (evR L i).side) j) 5 0 : Int) = p
 cases Nat.beq (opn L (i + 1)) (j + 1) with
 | false =>
  unfold Hm
  simp only [cond_false, Int.add_zero, Int.add_assoc]
 | true =>
  unfold Hm LH
  simp only [cond_true]
  rw [Sco.mk.injEq]
  refine ⟨rfl, ?_, rfl, rfl, rfl, rfl, rfl, rfl, rfl, rfl⟩
  unfold Wy
  omega
theorem ZV {r : Rul} {L : Rows} {sd : Nat → Int} {n j i : Nat} (h4 : ((evR L i).kind == 4) = false) (h13 : ((evR L i).kind == 13) = false) (ho : Bs (evR L i) = 0) : A1 r L sd n j (i + 1) = A1 r L sd n j i := by
 rw [Sg, h13, Bool.false_and, cond_false, B2, Ku _ h4 ho]
 cases Nat.beq (opn L (i + 1)) (j + 1) <;> rfl
structure Clo (r : Rul) (L : Rows) (sd : Nat → Int) (n i : Nat) (T : TS) : Prop where
 len : T.xs.length = opn L i
 at' : ∀ j, j < opn L i → sco T.xs j = A1 r L sd n j i
 p1 : T.p1 = EE L sd 1 (opn L i) i
 p2 : T.p2 = EE L sd 2 (opn L i) i
theorem FR {L : Rows} {sd : Nat → Int} {s : Int} {k i : Nat} (h : ((evR L i).kind == 13 && (evR L i).side == s) = false) : EE L sd s k (i + 1) = EE L sd s k i := by
 unfold EE
 cases BX sd s k with
 | some _ => rfl
 | none =>
  show pcS L s i + cond ((evR L i).kind == 13 && (evR L i).side == s) 5 0 = _
  rw [h, cond_false, Int.add_zero]
theorem iH {r : Rul} {L : Rows} {n : Nat} (hc : ((A9 r).2 == 0) = true) (ha : acc L n 0 (A9 r).1) : ∀ i, i ≤ n → Clo r L (sdF L n) (opn L n) i (Cm (stM L i 0 (A9 r).1))
 | 0, _ => by
  show Clo r L _ _ 0 (Cm (A9 r).1)
  rw [(fB hc).1]
  exact ⟨rfl, fun j hj => absurd hj (Nat.not_lt_zero j), rfl, rfl⟩
 | i + 1, hi => by
  have ih := iH hc ha i (by omega)
  obtain ⟨_, _, h3⟩ := Kj hc ha n (Nat.le_refl n)
  obtain ⟨hst, hev⟩ := h3 i (by omega)
  have sat := lh hc ha (show i < n by omega)
  have o13 : ∀ j, j < i → ((evR L j).kind == 13) = true → 1 ≤ opn L (j + 1) := fun j hj k13 => by
   have e := beq_iff_eq.1 k13
   have := (h3 j (by omega)).2.play (by rw [e]; rfl) (by rw [e]; rfl) (by rw [e]; rfl) (by rw [e]; rfl)
   exact Nat.le_trans this (Pg L j)
  rw [hst]
  change ((evR L i).kind == 2) = true → JG (Cm (stM L i 0 (A9 r).1)).first (Cm (stM L i 0 (A9 r).1)).follow (opn L i : Int) = _ ∧ _ at sat
  generalize Cm (stM L i 0 (A9 r).1) = T at ih sat
  have onx : opn L (i + 1) = opn L i + cond ((evR L i).kind == 2) 1 0 := rfl
  have quiet : ((evR L i).kind == 2) = false → ((evR L i).kind == 4) = false → ((evR L i).kind == 13) = false → Bs (evR L i) = 0 → ∀ T' : TS, T'.xs = T.xs → T'.p1 = T.p1 → T'.p2 = T.p2 → Clo r L (sdF L n) (opn L n) (i + 1) T' := by
   intro a b c d T' t1 t2 t3
   rw [a] at onx
   change opn L (i + 1) = opn L i at onx
   have z : ∀ s : Int, ((evR L i).kind == 13 && (evR L i).side == s) = false := fun s => by rw [c]; rfl
   refine ⟨by rw [onx, t1]; exact ih.len, fun j hj => ?_, ?_, ?_⟩
   ·rw [t1, ZV b c d]
    exact ih.at' j (by omega)
   ·rw [onx, t2, FR (z 1)]; exact ih.p1
   ·rw [onx, t3, FR (z 2)]; exact ih.p2
  unfold Lg
  cases k1 : (evR L i).kind == 1 with
  | true =>
   have e := beq_iff_eq.1 k1
   exact quiet (by rw [e]; rfl) (by rw [e]; rfl) (by rw [e]; rfl) (by unfold Bs; rw [e]; rfl) _ rfl rfl rfl
  | false =>
   cases k2 : (evR L i).kind == 2 with
   | true =>
    have e := beq_iff_eq.1 k2
    have h4 : ((evR L i).kind == 4) = false := by rw [e]; rfl
    have h13 : ((evR L i).kind == 13) = false := by rw [e]; rfl
    have ho : Bs (evR L i) = 0 := by unfold Bs; rw [e]; rfl
    have z : ∀ s : Int, ((evR L i).kind == 13 && (evR L i).side == s) = false := fun s => by rw [h13]; rfl
    rw [k2] at onx
    change opn L (i + 1) = opn L i + 1 at onx
    obtain ⟨sa, sb⟩ := sat k2
    have kn : opn L i < opn L n := by have := ET L (show i + 1 ≤ n by omega); omega
    have pp := eX (L := L) (sd := sdF L n) kn i o13 (Nat.le_refl _)
    show Clo r L (sdF L n) (opn L n) (i + 1) (aL T)
    unfold aL
    simp only [ih.len, sa]
    refine ⟨by rw [List.length_append, ih.len, onx]; rfl, fun j hj => ?_, ?_, ?_⟩
    ·rw [em _ _ _ (by rw [ih.len]; omega), ih.len, ZV h4 h13 ho]
     by_cases hjk : j < opn L i
     ·rw [if_pos hjk]; exact ih.at' j hjk
     ·have : j = opn L i := by omega
      subst this
      rw [if_neg hjk]
      unfold A1 bh
      simp only [Sw i (Nat.le_refl _), Int.zero_add, pp]
      rcases sb with sb | sb <;> rw [sb]
      ·rw [← ih.p1]; rfl
      ·rw [← ih.p2]; rfl
    ·rw [onx]
     show cond (sdF L n (opn L i) == 1) 0 T.p1 = EE L (sdF L n) 1 (opn L i + 1) (i + 1)
     rw [FR (z 1)]
     unfold EE BX
     cases sdF L n (opn L i) == 1 with
     | true => rfl
     | false => exact ih.p1
    ·rw [onx]
     show cond (sdF L n (opn L i) == 2) 0 T.p2 = EE L (sdF L n) 2 (opn L i + 1) (i + 1)
     rw [FR (z 2)]
     unfold EE BX
     cases sdF L n (opn L i) == 2 with
     | true => rfl
     | false => exact ih.p2
   | false =>
    cases k12 : (evR L i).kind == 12 with
    | true =>
     have e := beq_iff_eq.1 k12
     exact quiet (by rw [e]; rfl) (by rw [e]; rfl) (by rw [e]; rfl) (by unfold Bs; rw [e]; rfl) _ rfl rfl rfl
    | false =>
     cases k16 : (evR L i).kind == 16 with
     | true =>
      have e := beq_iff_eq.1 k16
      exact quiet (by rw [e]; rfl) (by rw [e]; rfl) (by rw [e]; rfl) (by unfold Bs; rw [e]; rfl) _ rfl rfl rfl
     | false =>
      have pl := hev.play k1 k2 k12 k16
      rw [k2] at onx
      change opn L (i + 1) = opn L i at onx
      simp only [cond_false]
      cases k13 : (evR L i).kind == 13 with
      | true =>
       have e := beq_iff_eq.1 k13
       have h4 : ((evR L i).kind == 4) = false := by rw [e]; rfl
       have ho : Bs (evR L i) = 0 := by unfold Bs; rw [e]; rfl
       have bk : BX (fun k => (sco T.xs k).side) (evR L i).side T.xs.length = BX (sdF L n) (evR L i).side (opn L i) := by
        rw [ih.len]
        exact Oz _ (fun k hk => by rw [ih.at' k hk]; rfl)
       have du : Cb (sdF L n) (opn L n) (opn L (i + 1) - 1) (evR L i).side = match BX (sdF L n) (evR L i).side (opn L i) with
        | some j => some j
        | none => Mg (sdF L n) (evR L i).side (opn L n - opn L i) (opn L i) := by
        unfold Cb
        rw [onx, show opn L i - 1 + 1 = opn L i by omega]
       have cs : ∀ j, A1 r L (sdF L n) (opn L n) j (i + 1) = Hm (cond (isS (Cb (sdF L n) (opn L n) (opn L (i + 1) - 1) (evR L i).side) j) 5 0) (A1 r L (sdF L n) (opn L n) j i) := fun j => by
        rw [Sg, k13, Bool.true_and, Ku _ h4 ho]
        cases Nat.beq (opn L (i + 1)) (j + 1) <;> rfl
       have pq : ∀ s : Int, BX (sdF L n) (evR L i).side (opn L i) ≠ none → EE L (sdF L n) s (opn L i) (i + 1) = EE L (sdF L n) s (opn L i) i := fun s hs => by
        by_cases es : (evR L i).side = s
        ·rw [es] at hs
         unfold EE
         cases hb : BX (sdF L n) s (opn L i) with
         | none => exact absurd hb hs
         | some w => rfl
        ·exact FR (by rw [beq_false_of_ne es, Bool.and_false])
       show Clo r L (sdF L n) (opn L n) (i + 1) (Pt (evR L i).side T)
       unfold Pt
       rw [bk]
       cases hb : BX (sdF L n) (evR L i).side (opn L i) with
       | some w =>
        have wl := (Il _ hb).1
        rw [hb] at du pq
        simp only at du
        refine ⟨by rw [onx]; exact List.length_set.trans ih.len, fun j hj => ?_, ?_, ?_⟩
        ·rw [cs, du]
         show sco (T.xs.set w (Hm 5 (sco T.xs w))) j = _
         rw [Mm _ _ _ _ (by rw [ih.len]; omega)]
         by_cases ew : w = j
         ·subst ew
          rw [if_pos rfl, ih.at' w wl, show isS (some w) w = true from PK w]
          rfl
         ·rw [if_neg ew, show isS (some w) j = false from R6 ew, ih.at' j (by omega), cond_false, B2]
        ·rw [onx, pq 1 (by simp)]; exact ih.p1
        ·rw [onx, pq 2 (by simp)]; exact ih.p2
       | none =>
        rw [hb] at du
        simp only at du
        have pc : ∀ s : Int, EE L (sdF L n) s (opn L i) (i + 1) = cond ((evR L i).side == s) (EE L (sdF L n) s (opn L i) i + 5) (EE L (sdF L n) s (opn L i) i) := fun s => by
         cases es : (evR L i).side == s with
         | false => rw [FR (by rw [es, Bool.and_false])]; rfl
         | true =>
          have e2 := beq_iff_eq.1 es
          rw [e2] at hb
          unfold EE
          rw [hb]
          show pcS L s i + cond ((evR L i).kind == 13 && (evR L i).side == s) 5 0 = _
          rw [k13, es]
          rfl
        refine ⟨by rw [onx]; exact ih.len, fun j hj => ?_, ?_, ?_⟩
        ·have nj : isS (Cb (sdF L n) (opn L n) (opn L (i + 1) - 1) (evR L i).side) j = false := by
          cases hq : isS (Cb (sdF L n) (opn L n) (opn L (i + 1) - 1) (evR L i).side) j with
          | false => rfl
          | true =>
           have := VU.1 hq
           rw [du] at this
           have := (QE _ _ this).1
           omega
         rw [cs, nj, cond_false, B2]
         exact ih.at' j (by omega)
        ·rw [onx, pc 1, ← ih.p1]
        ·rw [onx, pc 2, ← ih.p2]
      | false =>
       have z : ∀ s : Int, ((evR L i).kind == 13 && (evR L i).side == s) = false := fun s => by rw [k13]; rfl
       show Clo r L (sdF L n) (opn L n) (i + 1) (aF r (evR L i) T)
       unfold aF
       refine ⟨by rw [onx]; exact List.length_set.trans ih.len, fun j hj => ?_, ?_, ?_⟩
       ·show sco (T.xs.set _ _) j = _
        rw [Mm _ _ _ _ (by rw [ih.len]; omega), Sg, k13, Bool.false_and, cond_false, B2, onx, ih.len]
        by_cases ew : opn L i - 1 = j
        ·rw [if_pos ew, show opn L i = j + 1 by omega, PK, show j + 1 - 1 = j by omega, ih.at' j (by omega)]
         rfl
        ·rw [if_neg ew, R6 (by omega)]
         exact ih.at' j (by omega)
       ·rw [onx, FR (z 1)]; exact ih.p1
       ·rw [onx, FR (z 2)]; exact ih.p2
end Go.Px
end
section
namespace Go.Px
set_option maxRecDepth 100000
def Sco.ls (s : Sco) : List PV := [.int s.side, .int s.runs, .int s.wickets, .int s.balls, .int s.wides, .int s.noballs, .int s.byes, .int s.legbyes, .int s.pens, .int s.ending]
def Ah (xs : List Sco) : Rows := xs.map Sco.ls
def dS : Sco := ⟨0, 0, 0, 0, 0, 0, 0, 0, 0, 0⟩
theorem eo (xs : List Sco) (i : Nat) : Af (Ah xs) i = (match xs[i]? with | some s => s.ls | none => []) := by
 unfold Af Ah
 rw [List.getD_eq_getElem?_getD, List.getElem?_map]
 cases xs[i]? <;> rfl
theorem cz (xs : List Sco) : (Ah xs).length = xs.length := List.length_map _
theorem PXs : (∀ xs : List Sco, (Ah xs).length = xs.length) ∧ (∀ (xs : List Sco) (i : Nat), pvI (AE (Ah xs) i 0) = (sco xs i).side) ∧ (∀ (xs : List Sco) (i : Nat), pvI (AE (Ah xs) i 1) = (sco xs i).runs) ∧ (∀ (xs : List Sco) (i : Nat), pvI (AE (Ah xs) i 2) = (sco xs i).wickets) ∧ (∀ (xs : List Sco) (i : Nat), pvI (AE (Ah xs) i 3) = (sco xs i).balls) ∧
    (∀ (xs : List Sco) (i : Nat), pvI (AE (Ah xs) i 4) = (sco xs i).wides) ∧ (∀ (xs : List Sco) (i : Nat), pvI (AE (Ah xs) i 5) = (sco xs i).noballs) ∧ (∀ (xs : List Sco) (i : Nat), pvI (AE (Ah xs) i 6) = (sco xs i).byes) ∧ (∀ (xs : List Sco) (i : Nat), pvI (AE (Ah xs) i 7) = (sco xs i).legbyes) ∧ (∀ (xs : List Sco) (i : Nat), pvI (AE (Ah xs) i 8) = (sco xs i).pens) ∧ (∀ (xs : List Sco) (i : Nat), pvI (AE (Ah xs) i 9) = (sco xs i).ending) := by
  refine ⟨cz, ?_, ?_, ?_, ?_, ?_, ?_, ?_, ?_, ?_, ?_⟩
  all_goals (intro xs i; rw [EW]; unfold AE; rw [eo]; cases xs[i]? <;> rfl)
theorem Ck {xs : List Sco} {i j : Nat} {v : Int} (f : Sco → Sco) (h : ∀ s : Sco, A3 s.ls j [.int v] = (f s).ls) : (Ah xs).set i (A3 (Af (Ah xs) i) j [.int v]) = Ah (xs.set i (f (sco xs i))) := by
 by_cases hi : i < xs.length
 ·have e : Af (Ah xs) i = (sco xs i).ls := by rw [eo, EW, List.getElem?_eq_getElem hi]
  rw [e, h]
  exact List.map_set.symm
 ·rw [List.set_eq_of_length_le (by rw [cz]; omega), List.set_eq_of_length_le (by omega)]
theorem PXt : (∀ (xs : List Sco) (i : Nat) (v : Int), (Ah xs).set i (A3 (Af (Ah xs) i) 0 [.int v]) = Ah (xs.set i { sco xs i with side := v })) ∧ (∀ (xs : List Sco) (i : Nat) (v : Int), (Ah xs).set i (A3 (Af (Ah xs) i) 1 [.int v]) = Ah (xs.set i { sco xs i with runs := v })) ∧
    (∀ (xs : List Sco) (i : Nat) (v : Int), (Ah xs).set i (A3 (Af (Ah xs) i) 2 [.int v]) = Ah (xs.set i { sco xs i with wickets := v })) ∧ (∀ (xs : List Sco) (i : Nat) (v : Int), (Ah xs).set i (A3 (Af (Ah xs) i) 3 [.int v]) = Ah (xs.set i { sco xs i with balls := v })) ∧
    (∀ (xs : List Sco) (i : Nat) (v : Int), (Ah xs).set i (A3 (Af (Ah xs) i) 4 [.int v]) = Ah (xs.set i { sco xs i with wides := v })) ∧ (∀ (xs : List Sco) (i : Nat) (v : Int), (Ah xs).set i (A3 (Af (Ah xs) i) 5 [.int v]) = Ah (xs.set i { sco xs i with noballs := v })) ∧
    (∀ (xs : List Sco) (i : Nat) (v : Int), (Ah xs).set i (A3 (Af (Ah xs) i) 6 [.int v]) = Ah (xs.set i { sco xs i with byes := v })) ∧ (∀ (xs : List Sco) (i : Nat) (v : Int), (Ah xs).set i (A3 (Af (Ah xs) i) 7 [.int v]) = Ah (xs.set i { sco xs i with legbyes := v })) ∧
    (∀ (xs : List Sco) (i : Nat) (v : Int), (Ah xs).set i (A3 (Af (Ah xs) i) 8 [.int v]) = Ah (xs.set i { sco xs i with pens := v })) ∧ (∀ (xs : List Sco) (i : Nat) (v : Int), (Ah xs).set i (A3 (Af (Ah xs) i) 9 [.int v]) = Ah (xs.set i { sco xs i with ending := v })) ∧
    (∀ (xs : List Sco) (a b c d e f g h i j : Int), Ah xs ++ [([.int a, .int b, .int c, .int d, .int e, .int f, .int g, .int h, .int i, .int j] : List PV)] = Ah (xs ++ [⟨a, b, c, d, e, f, g, h, i, j⟩])) := by
  exact ⟨fun xs i v => Ck (j := 0) (v := v) (fun s => { s with side := v }) (fun s => rfl), fun xs i v => Ck (j := 1) (v := v) (fun s => { s with runs := v }) (fun s => rfl), fun xs i v => Ck (j := 2) (v := v) (fun s => { s with wickets := v }) (fun s => rfl), fun xs i v => Ck (j := 3) (v := v) (fun s => { s with balls := v }) (fun s => rfl), fun xs i v => Ck (j := 4) (v := v) (fun s => { s with wides := v }) (fun s => rfl), fun xs i v => Ck (j := 5) (v := v) (fun s => { s with noballs := v }) (fun s => rfl), fun xs i v => Ck (j := 6) (v := v) (fun s => { s with byes := v }) (fun s => rfl), fun xs i v => Ck (j := 7) (v := v) (fun s => { s with legbyes := v }) (fun s => rfl), fun xs i v => Ck (j := 8) (v := v) (fun s => { s with pens := v }) (fun s => rfl), fun xs i v => Ck (j := 9) (v := v) (fun s => { s with ending := v }) (fun s => rfl),
    fun xs a b c d e f g h i j => (List.map_append (f := Sco.ls) (l₁ := xs) (l₂ := [⟨a, b, c, d, e, f, g, h, i, j⟩])).symm⟩
theorem lg (n : Nat) : List.replicate n ([.int 0, .int 0, .int 0, .int 0, .int 0, .int 0, .int 0, .int 0, .int 0, .int 0] : List PV) = Ah (List.replicate n dS) := by
 unfold Ah
 rw [List.map_replicate]
 rfl
def E0 (xs : List (Int × Int)) : Rows := xs.map fun x => [.int x.1, .int x.2]
def pr (xs : List (Int × Int)) (i : Nat) : Int × Int := xs.getD i (0, 0)
theorem Sm (xs : List (Int × Int)) (i : Nat) : pr xs i = (match xs[i]? with | some s => s | none => (0, 0)) := by
 unfold pr
 rw [List.getD_eq_getElem?_getD]
 cases xs[i]? <;> rfl
theorem bE (xs : List (Int × Int)) (i : Nat) : Af (E0 xs) i = (match xs[i]? with | some s => [.int s.1, .int s.2] | none => []) := by
 unfold Af E0
 rw [List.getD_eq_getElem?_getD, List.getElem?_map]
 cases xs[i]? <;> rfl
theorem cW (xs : List (Int × Int)) : (E0 xs).length = xs.length := List.length_map _
theorem PXp : (∀ xs : List (Int × Int), (E0 xs).length = xs.length) ∧ (∀ (xs : List (Int × Int)) (i : Nat), pvI (AE (E0 xs) i 0) = (pr xs i).1) ∧ (∀ (xs : List (Int × Int)) (i : Nat), pvI (AE (E0 xs) i 1) = (pr xs i).2) ∧
    (∀ (xs : List (Int × Int)) (i : Nat) (v : Int), (E0 xs).set i (A3 (Af (E0 xs) i) 1 [.int v]) = E0 (xs.set i ((pr xs i).1, v))) ∧ (∀ (xs : List (Int × Int)) (a b : Int), E0 xs ++ [([.int a, .int b] : List PV)] = E0 (xs ++ [(a, b)])) := by
  refine ⟨cW, ?_, ?_, ?_, ?_⟩
  · intro xs i; rw [Sm]; unfold AE; rw [bE]; cases xs[i]? <;> rfl
  · intro xs i; rw [Sm]; unfold AE; rw [bE]; cases xs[i]? <;> rfl
  · intro xs i v
    by_cases hi : i < xs.length
    · have e : Af (E0 xs) i = [.int (pr xs i).1, .int (pr xs i).2] := by rw [bE, Sm, List.getElem?_eq_getElem hi]
      rw [e]
      exact (List.map_set (f := fun x : Int × Int => [PV.int x.1, PV.int x.2]) (l := xs) (i := i) (a := ((pr xs i).1, v))).symm
    · rw [List.set_eq_of_length_le (by rw [cW]; omega), List.set_eq_of_length_le (by omega)]
  · intro xs a b; exact (List.map_append (f := fun x : Int × Int => [PV.int x.1, PV.int x.2]) (l₁ := xs) (l₂ := [(a, b)])).symm
end Go.Px
end
section
namespace Go.Px
set_option maxRecDepth 100000
theorem R4 (L : Rows) : ∀ i, opn L i ≤ i
 | 0 => Nat.le_refl _
 | i + 1 => by
  have := R4 L i
  show opn L i + cond _ 1 0 ≤ _
  cases (evR L i).kind == 2 <;> simp only [cond_true, cond_false] <;> omega
def GX (xs : List (Int × Int)) (v : Int) : List (Int × Int) := cond (iLt 0 (xs.length : Int)) (xs.set (IntKind.i64.wrap ((xs.length : Int) - 1)).toNat ((pr xs (IntKind.i64.wrap ((xs.length : Int) - 1)).toNat).1, v)) xs
def Bp (L : Rows) : Nat → List (Int × Int)
 | 0 => []
 | i + 1 => cond ((evR L i).kind == 2) (GX (Bp L i) (i : Int) ++ [((i : Int), (L.length : Int))]) (Bp L i)
theorem RI (xs : List (Int × Int)) (v : Int) : (GX xs v).length = xs.length := by
 unfold GX
 cases iLt 0 (xs.length : Int)
 ·rfl
 ·exact List.length_set
theorem M1 (L : Rows) : ∀ i, (Bp L i).length = opn L i
 | 0 => rfl
 | i + 1 => by
  have ih := M1 L i
  show (cond ((evR L i).kind == 2) _ (Bp L i)).length = opn L i + cond ((evR L i).kind == 2) 1 0
  cases (evR L i).kind == 2 with
  | false => exact ih
  | true => rw [cond_true, cond_true, List.length_append, RI, ih]; rfl
theorem ek {n : Nat} (h : 0 < n) (h2 : n ≤ 1048576) : (IntKind.i64.wrap ((n : Int) - 1)).toNat = n - 1 ∧ iIn (IntKind.i64.wrap ((n : Int) - 1)) (n : Int) = true := by
 rw [DB (by omega) (by omega)]
 refine ⟨by omega, ?_⟩
 simp only [iIn, decide_eq_true_eq]
 omega
theorem jd {N : Nat} {L : Rows} (hN : 2097152 < N) (hL : L.length ≤ 1048576) {F : (List AQ → Option (List PV)) → List PV → Option (List PV)}
    (h0 : ∀ self, F self [.rows (E0 (Bp L L.length)), .int (L.length : Int)] = some [.rows (E0 (Bp L L.length))])
    (h1 : ∀ i self, i < L.length → (Bp L i).length ≤ 1048575 → F self [.rows (E0 (Bp L i)), .int (i : Int)] = self [.rows (E0 (Bp L (i + 1))), .int (((i + 1 : Nat)) : Int)]) : DI F N [.rows (E0 []), .int 0] = some [.rows (E0 (Bp L L.length))] := by
  have := Cq (F := F) (len := L.length) (fun i => [.rows (E0 (Bp L i)), .int (i : Int)]) [.rows (E0 (Bp L L.length))] h0 (fun i self hi => h1 i self hi (by rw [M1]; have := R4 L i; omega)) N (by omega)
  exact this
theorem Kp {i : Nat} (h : i ≤ 1099511627776) : IntKind.i64.wrap ((i : Int) + 1) = ((i + 1 : Nat) : Int) := Ar h
theorem jA {L : Rows} {i : Nat} {xs : List (Int × Int)} (hk : ((evR L i).kind == 2) = true) (he : Bp L i = xs) (h : iLt 0 (xs.length : Int) = true) : Bp L (i + 1) = xs.set (IntKind.i64.wrap ((xs.length : Int) - 1)).toNat ((pr xs (IntKind.i64.wrap ((xs.length : Int) - 1)).toNat).1, (i : Int)) ++ [((i : Int), (L.length : Int))] := by
 show cond ((evR L i).kind == 2) (GX (Bp L i) (i : Int) ++ [((i : Int), (L.length : Int))]) (Bp L i) = _
 rw [hk, he]
 unfold GX
 rw [h]
 rfl
theorem gS {L : Rows} {i : Nat} {xs : List (Int × Int)} (hk : ((evR L i).kind == 2) = true) (he : Bp L i = xs) (h : iLt 0 (xs.length : Int) = false) : Bp L (i + 1) = xs ++ [((i : Int), (L.length : Int))] := by
 show cond ((evR L i).kind == 2) (GX (Bp L i) (i : Int) ++ [((i : Int), (L.length : Int))]) (Bp L i) = _
 rw [hk, he]
 unfold GX
 rw [h]
 rfl
theorem ao {L : Rows} {i : Nat} (hk : ((evR L i).kind == 2) = false) : Bp L (i + 1) = Bp L i := by
 show cond ((evR L i).kind == 2) _ (Bp L i) = _
 rw [hk]
 rfl
set_option maxHeartbeats 1000000 in
theorem I9 {N : Nat} {L : Rows} (hN : 2097152 < N) (hL : L.length ≤ 1048576) : A4 N [.rows L] = some [.rows (E0 (Bp L L.length))] := by
 show Iu (std (P3 N) N) (xOf _) = _
 simp only [Iu, std, xOf, PXb]
 refine AZ (jd hN hL ?_ ?_) rfl
 ·intro self
  simp only [PXb, PXc, PXn, AG, BM]
 ·intro i self hi hlen
  have kk : (evR L i).kind = atI L i 0 := rfl
  simp only [PXb, PXc, PXn, AG, Kp (show i ≤ 1099511627776 by omega), A0 hi, Ab hi, CG, PXp, ← kk]
  cases hk : (evR L i).kind == 2 with
  | false =>
   rw [ao hk]
   rfl
  | true =>
   simp only [PXb, Bool.not_true]
   generalize he : Bp L i = xs at hlen
   cases h0 : iLt 0 (xs.length : Int) with
   | false =>
    have sm : iSm ((xs.length + 1 : Nat) : Int) 16 = true := G5 (by omega) (by omega)
    rw [gS hk he h0]
    simp only [PXb, PXc, PXn, AG, PXp, List.length_append, List.length_cons, List.length_nil, sm, Nat.reduceAdd]
   | true =>
    have h1 : 0 < xs.length := by simp only [iLt, decide_eq_true_eq] at h0; omega
    have sm : iSm ((xs.length + 1 : Nat) : Int) 16 = true := G5 (by omega) (by omega)
    rw [jA hk he h0]
    simp only [PXb, PXc, PXn, AG, PXp, List.length_append, List.length_cons, List.length_nil, List.length_set, sm, Nat.reduceAdd, (ek h1 (by omega)).2]
theorem YF (ans : Nat → Option (List PV)) : ∀ k i, A8 ans (k + 1) i = match A8 ans k i with | some r => some r | none => ans (i + k)
 | 0, i => by
  simp only [A8]
  cases ans i <;> rfl
 | k + 1, i => by
  have ih := YF ans k (i + 1)
  have e1 : A8 ans (k + 1 + 1) i = match ans i with | some r => some r | none => A8 ans (k + 1) (i + 1) := rfl
  have e2 : A8 ans (k + 1) i = match ans i with | some r => some r | none => A8 ans k (i + 1) := rfl
  rw [e1, e2, ih, show i + (k + 1) = i + 1 + k by omega]
  cases ans i <;> rfl
def Yz (L : Rows) (i : Nat) : Option (List PV) := cond ((evR L i).kind == 1) (some [.int (Pu (evR L i))]) none
theorem bN (L : Rows) : ∀ n, A8 (Yz L) n 0 = (DC L n).map fun v => [.int v]
 | 0 => rfl
 | n + 1 => by
  rw [YF, bN L n, Nat.zero_add]
  show _ = (match DC L n with | some v => some v | none => cond ((evR L n).kind == 1) (some (Pu (evR L n))) none).map fun v => [PV.int v]
  cases DC L n with
  | some v => rfl
  | none =>
   show Yz L n = _
   unfold Yz
   cases (evR L n).kind == 1 <;> rfl
def L1 (L : Rows) : Int := (DC L L.length).getD 1
theorem jw {N : Nat} {L : Rows} (hN : 2097152 < N) (hL : L.length ≤ 1048576) {F : (List AQ → Option (List PV)) → List PV → Option (List PV)} (h0 : ∀ self, F self [.int (L.length : Int)] = some [.int 1])
    (h1 : ∀ i self, i < L.length → F self [.int (i : Int)] = match Yz L i with | some r => some (.int 0 :: r) | none => self [.int ((i : Int) + 1)]) : DI F N [.int 0] = some (O7 ((DC L L.length).map fun v => [.int v])) := by
  have := CN (F := F) (len := L.length) (Yz L) h0 h1 L.length 0 N (by omega) (by omega)
  rw [bN] at this
  exact this
theorem lE (o : Option Int) : cond (pvI (AJ (O7 (o.map fun v => [.int v])) 0) == ((0 : Nat) : Int)) (some [PV.int (pvI (AJ (O7 (o.map fun v => [.int v])) 1))]) (some [PV.int 1]) = some [.int (o.getD 1)] := by
 cases o <;> rfl
theorem aB {N : Nat} {L : Rows} (hN : 2097152 < N) (hL : L.length ≤ 1048576) : HE N [.rows L] = some [.int (L1 L)] := by
 show J0 (std (Qj N) N) (xOf _) = _
 simp only [J0, std, xOf, PXb]
 refine AZ (jw hN hL ?_ ?_) (lE _)
 ·intro self
  simp only [PXb, PXc, PXn, AG, BM]
 ·intro i self hi
  have kk : (evR L i).kind = atI L i 0 := rfl
  have ky : (evR L i).yes = atB L i 4 := rfl
  have ks : (evR L i).side = atI L i 1 := rfl
  simp only [PXb, PXc, PXn, AG, Ar (show i ≤ 1099511627776 by omega), A0 hi, Ab hi, CG, Y6, Yz, Pu, BD, kk, ky, ks]
  cases atI L i 0 == 1 <;> cases atB L i 4 <;> rfl
def Qk (f : Int) (en : Bool) (k : Nat) : Int := cond (en && ((k : Int) == 2 || (k : Int) == 3)) (BD (cond ((k : Int).tmod 2 == 1) (BD f) f)) (cond ((k : Int).tmod 2 == 1) (BD f) f)
def aM (f : Int) (en : Bool) (k : Nat) : Int := cond (cond (en && ((k : Int) == 2 || (k : Int) == 3)) ((k : Int) == 2) ((k : Int).tmod 2 == 1)) (BD f) f
theorem km {f : Int} (h : BD (BD f) = f) (en : Bool) (k : Nat) : Qk f en k = aM f en k := by
 unfold Qk aM
 cases h2 : ((k : Int) == 2) with
 | true =>
  have := beq_iff_eq.1 h2
  rw [this]
  cases en <;> rfl
 | false =>
  cases h3 : ((k : Int) == 3) with
  | true =>
   have := beq_iff_eq.1 h3
   rw [this]
   cases en
   ·rfl
   ·exact h
  | false => rw [Bool.or_false, Bool.and_false]; rfl
theorem kz (f : Int) (en : Bool) {k : Nat} (h : k ≤ 3) : aM f en k = JG f en (k : Int) := by
 have : k = 0 ∨ k = 1 ∨ k = 2 ∨ k = 3 := by omega
 rcases this with h | h | h | h <;> subst h <;> cases en <;> rfl
def zs (g : Nat → Int) (n : Nat) : List Int := (List.range n).map g
theorem R8 (g : Nat → Int) (n : Nat) : (zs g n).length = n := by unfold zs; rw [List.length_map, List.length_range]
theorem lJ (g : Nat → Int) (n : Nat) : Gd (zs g n) ++ [[.int (g n)]] = Gd (zs g (n + 1)) := by
 unfold zs Gd
 rw [List.range_succ, List.map_append, List.map_append]
 rfl
theorem gO (g : Nat → Int) {n k : Nat} (h : k < n) : atI (Gd (zs g n)) k 0 = g k := by
 rw [nE, List.getD_eq_getElem?_getD]
 unfold zs
 rw [List.getElem?_map, List.getElem?_range h]
 rfl
theorem jj {N : Nat} {L : Rows} (hN : 2097152 < N) (hL : L.length ≤ 1048576) {F : (List AQ → Option (List PV)) → List PV → Option (List PV)} (h0 : ∀ self, F self [.bool (DJ L L.length), .int (L.length : Int)] = some [.bool (DJ L L.length)])
    (h1 : ∀ i self, i < L.length → F self [.bool (DJ L i), .int (i : Int)] = self [.bool (DJ L (i + 1)), .int (((i + 1 : Nat)) : Int)]) : DI F N [.bool false, .int 0] = some [.bool (DJ L L.length)] :=
  Cq (F := F) (len := L.length) (fun i => [.bool (DJ L i), .int (i : Int)]) [.bool (DJ L L.length)] h0 h1 N (by omega)
theorem kg {N n : Nat} {g : Nat → Int} (hN : 2097152 < N) (hL : n ≤ 1048576) {F : (List AQ → Option (List PV)) → List PV → Option (List PV)} (h0 : ∀ self, F self [.rows (Gd (zs g n)), .int (n : Int)] = some [.rows (Gd (zs g n))])
    (h1 : ∀ i self, i < n → F self [.rows (Gd (zs g i)), .int (i : Int)] = self [.rows (Gd (zs g (i + 1))), .int (((i + 1 : Nat)) : Int)]) : DI F N [.rows [], .int 0] = some [.rows (Gd (zs g n))] :=
  Cq (F := F) (len := n) (fun i => [.rows (Gd (zs g i)), .int (i : Int)]) [.rows (Gd (zs g n))] h0 h1 N (by omega)
set_option maxHeartbeats 1000000 in
theorem Z3 {N : Nat} {L : Rows} (hN : 2097152 < N) (hL : L.length ≤ 1048576) : HD N [.rows L] = some [.rows (Gd (zs (Qk (L1 L) (DJ L L.length)) (opn L L.length)))] := by
 show Jy (std (H6 N) N) (xOf _) = _
 simp only [Jy, OD, Ok, std, xOf, PXb, aB hN hL]
 refine AZ (jj hN hL ?_ ?_) ?_
 ·intro self
  simp only [PXb, PXc, PXn, AG, BM]
 ·intro i self hi
  have kk : (evR L i).kind = atI L i 0 := rfl
  have ky : (evR L i).yes = atB L i 4 := rfl
  have e : DJ L (i + 1) = (DJ L i || ((evR L i).kind == 12 && (evR L i).yes)) := rfl
  rw [e, kk, ky]
  simp only [PXb, PXc, PXn, AG, Kp (show i ≤ 1099511627776 by omega), A0 hi, Ab hi, CG, Y6]
 ·have ol := R4 L L.length
  simp only [PXb, PXc, PXn, AG, I9 hN hL, PXp, M1]
  generalize DJ L L.length = en
  generalize hn : opn L L.length = n at ol
  refine AZ (kg (n := n) (g := Qk (L1 L) en) hN (by omega) ?_ ?_) rfl
  ·intro self
   simp only [PXb, PXc, PXn, AG, BM]
  ·intro i self hi
   have sm : iSm ((i + 1 : Nat) : Int) 8 = true := G5 (by omega) (by omega)
   rw [← lJ]
   unfold Qk
   cases h1 : (i : Int).tmod 2 == 1 <;> cases h2 : (en && ((i : Int) == 2 || (i : Int) == 3)) <;>
    simp only [PXb, PXc, PXn, AG, Kp (show i ≤ 1099511627776 by omega), A0 hi, h1, h2, Mf, R8, List.length_append, List.length_cons, List.length_nil, Nat.reduceAdd, sm, BD]
end Go.Px
end
section
namespace Go.Px
set_option maxRecDepth 100000
theorem mG (xs : List (Int × Int)) (k : Nat) (s : Int × Int) (i : Nat) (hi : i < xs.length) : pr (xs.set k s) i = (if k = i then s else pr xs i) := by
 rw [Sm, Sm, List.getElem?_set]
 by_cases h : k = i
 ·subst h
  rw [if_pos rfl, if_pos rfl, if_pos hi]
 ·rw [if_neg h, if_neg h]
theorem lm (xs : List (Int × Int)) (s : Int × Int) (i : Nat) (hi : i < xs.length + 1) : pr (xs ++ [s]) i = (if i < xs.length then pr xs i else s) := by
 rw [Sm, Sm]
 by_cases h : i < xs.length
 ·rw [if_pos h, List.getElem?_append_left h]
 ·have : i = xs.length := by omega
  subst this
  rw [if_neg h, List.getElem?_append_right (Nat.le_refl _), Nat.sub_self]
  rfl
theorem P5 {L : Rows} {i : Nat} (h : ((evR L i).kind == 2) = true) : opn L (i + 1) = opn L i + 1 := by
 show opn L i + cond ((evR L i).kind == 2) 1 0 = _
 rw [h]
 rfl
theorem jW {L : Rows} {i : Nat} (h : ((evR L i).kind == 2) = false) : opn L (i + 1) = opn L i := by
 show opn L i + cond ((evR L i).kind == 2) 1 0 = _
 rw [h]
 rfl
theorem UW {L : Rows} (hL : L.length ≤ 1048576) : ∀ i, i ≤ L.length → ∀ k, k < opn L i → ∃ a : Nat, (pr (Bp L i) k).1 = (a : Int) ∧ a < i ∧ opn L a = k ∧ ((evR L a).kind == 2) = true ∧
    ((k + 1 < opn L i ∧ ∃ b : Nat, (pr (Bp L i) k).2 = (b : Int) ∧ b < i ∧ opn L b = k + 1 ∧ ((evR L b).kind == 2) = true) ∨ (k + 1 = opn L i ∧ (pr (Bp L i) k).2 = (L.length : Int)))
  | 0, _, k, hk => absurd hk (Nat.not_lt_zero k)
  | i + 1, hi, k, hk => by
    have ih := UW hL i (by omega)
    cases h2 : (evR L i).kind == 2 with
    | false =>
      rw [jW h2] at hk ⊢
      rw [ao h2]
      obtain ⟨a, h3, h4, h5, h6, h7⟩ := ih k hk
      refine ⟨a, h3, by omega, h5, h6, ?_⟩
      rcases h7 with ⟨q, b, q1, q2, q3, q4⟩ | q
      · exact Or.inl ⟨q, b, q1, by omega, q3, q4⟩
      · exact Or.inr q
    | true =>
      rw [P5 h2] at hk ⊢
      have sl := M1 L i
      have hle := R4 L i
      have ha := fun (j : Nat) (hj : j < opn L i + 1) => lm (GX (Bp L i) (i : Int)) ((i : Int), (L.length : Int)) j (by rw [RI, sl]; exact hj)
      have e : Bp L (i + 1) = GX (Bp L i) (i : Int) ++ [((i : Int), (L.length : Int))] := by
        show cond ((evR L i).kind == 2) _ _ = _
        rw [h2]
        rfl
      rw [e, ha k hk, RI, sl]
      by_cases hkn : k < opn L i
      · rw [if_pos hkn]
        obtain ⟨a, h3, h4, h5, h6, h7⟩ := ih k hkn
        have hp : 0 < opn L i := by omega
        have ix := (ek hp (by omega)).1
        have es : GX (Bp L i) (i : Int) = (Bp L i).set (opn L i - 1) ((pr (Bp L i) (opn L i - 1)).1, (i : Int)) := by
          unfold GX
          rw [sl, show iLt 0 (opn L i : Int) = true by simp only [iLt, decide_eq_true_eq]; omega, ix]
          rfl
        rw [es, mG _ _ _ _ (by rw [sl]; exact hkn)]
        by_cases hl : opn L i - 1 = k
        · rw [if_pos hl, hl]
          exact ⟨a, h3, by omega, h5, h6, Or.inl ⟨by omega, i, rfl, by omega, by omega, h2⟩⟩
        · rw [if_neg hl]
          refine ⟨a, h3, by omega, h5, h6, Or.inl ⟨by omega, ?_⟩⟩
          rcases h7 with ⟨q, b, q1, q2, q3, q4⟩ | q
          · exact ⟨b, q1, by omega, q3, q4⟩
          · omega
      · have hke : k = opn L i := by omega
        rw [if_neg hkn]
        exact ⟨i, rfl, by omega, hke.symm, h2, Or.inr ⟨by omega, rfl⟩⟩
theorem jC {L : Rows} {a b : Nat} (h : opn L a = opn L b) (ha : ((evR L a).kind == 2) = true) (hb : ((evR L b).kind == 2) = true) : a = b := by
 rcases Nat.lt_trichotomy a b with h1 | h1 | h1
 ·have := ET L (show a + 1 ≤ b by omega)
  have := P5 ha
  omega
 ·exact h1
 ·have := ET L (show b + 1 ≤ a by omega)
  have := P5 hb
  omega
def AH (L : Rows) (k : Nat) : Nat := if k < opn L L.length then (pr (Bp L L.length) k).1.toNat else L.length
structure Seg (L : Rows) (k : Nat) : Prop where
 x0 : (pr (Bp L L.length) k).1 = (AH L k : Int)
 x1 : (pr (Bp L L.length) k).2 = (AH L (k + 1) : Int)
 lt : AH L k < AH L (k + 1)
 le : AH L (k + 1) ≤ L.length
 o0 : opn L (AH L k) = k
 o1 : opn L (AH L (k + 1)) = k + 1
 mid : ∀ j, AH L k ≤ j → j < AH L (k + 1) → opn L (j + 1) = k + 1
theorem seg {L : Rows} (hL : L.length ≤ 1048576) {k : Nat} (h : k < opn L L.length) : Seg L k := by
 obtain ⟨a, h1, h2, h3, h4, h5⟩ := UW hL L.length (Nat.le_refl _) k h
 have p0 : AH L k = a := by unfold AH; rw [if_pos h, h1]; rfl
 have key : (pr (Bp L L.length) k).2 = (AH L (k + 1) : Int) ∧ a < AH L (k + 1) ∧ AH L (k + 1) ≤ L.length ∧ opn L (AH L (k + 1)) = k + 1 := by
  rcases h5 with ⟨q, b, q1, q2, q3, q4⟩ | ⟨q, q1⟩
  ·obtain ⟨a', g1, g2, g3, g4, _⟩ := UW hL L.length (Nat.le_refl _) (k + 1) q
   have e : a' = b := jC (g3.trans q3.symm) g4 q4
   subst e
   have p1 : AH L (k + 1) = a' := by unfold AH; rw [if_pos q, g1]; rfl
   rw [p1]
   refine ⟨q1, ?_, by omega, q3⟩
   rcases Nat.lt_or_ge a a' with hl | hl
   ·exact hl
   ·have := ET L hl
    omega
  ·have p1 : AH L (k + 1) = L.length := by unfold AH; rw [if_neg (by omega)]
   rw [p1]
   exact ⟨q1, h2, Nat.le_refl _, q.symm⟩
 obtain ⟨k1, k2, k3, k4⟩ := key
 refine ⟨by rw [h1, p0], k1, by rw [p0]; exact k2, k3, by rw [p0]; exact h3, k4, fun j j1 j2 => ?_⟩
 rw [p0] at j1
 have m1 := ET L (show a + 1 ≤ j + 1 by omega)
 have m2 := ET L (show j + 1 ≤ AH L (k + 1) by omega)
 rw [P5 h4] at m1
 omega
theorem lT (L : Rows) : AH L (opn L L.length) = L.length := by unfold AH; rw [if_neg (Nat.lt_irrefl _)]
theorem mO (L : Rows) {a b : Nat} (i j : Nat) (h : i < b - a) : AE ((L.take b).drop a) i j = AE L (a + i) j := by
 unfold AE Af
 rw [List.getD_eq_getElem?_getD, List.getD_eq_getElem?_getD, List.getElem?_drop, List.getElem?_take, if_pos (by omega)]
theorem iu (L : Rows) {a b : Nat} (i : Nat) (h : i < b - a) : evR ((L.take b).drop a) i = evR L (a + i) := by
 unfold evR atI atB
 simp only [mO L i _ h]
theorem ez {L : Rows} {a b : Nat} (h : b ≤ L.length) : ((L.take b).drop a).length = b - a := by
 rw [List.length_drop, List.length_take]
 omega
def Rd (e : Ev) : Bool := cond (e.kind == 4) (!(e.ball.how == 0)) (cond (e.kind == 5) e.yes (cond (e.kind == 6) (!e.yes) false))
theorem hG (e : Ev) : LM e = cond (Rd e) 1 0 := by
 unfold LM Rd Bs
 cases h4 : e.kind == 4
 ·cases h5 : e.kind == 5
  ·cases h6 : e.kind == 6 <;> cases e.yes <;> rfl
  ·rw [beq_iff_eq.1 h5]; cases e.yes <;> rfl
 ·cases e.ball.how == 0 <;> rfl
theorem eB {N : Nat} {e0 e1 e2 e3 e5 e6 e7 e8 e9 e10 e11 e13 e14 e15 e16 e18 : Int} {e4 e12 e17 : Bool}  : Jn N [.int e0, .int e1, .int e2, .int e3, .bool e4, .int e5, .int e6, .int e7, .int e8, .int e9, .int e10, .int e11, .bool e12, .int e13, .int e14, .int e15, .int e16, .bool e17, .int e18] = some [.bool (Rd (⟨e0, e1, e2, e3, e4, e5, e6, ⟨e7, e8, e9, e10, e11, e12, e13, e14, e15, e16, e17, e18⟩⟩ : Ev))] := by
 show NG (std (Ti N) N) (xOf _) = _
 simp only [NG, std, xOf, PXb, PXc, PXn, PXm, Nat.reduceAdd, Int.reduceBEq]
 unfold Rd
 simp only
 cases e0 == 4 <;> cases e0 == 5 <;> cases e0 == 6 <;> rfl
def fC : Option Nat → Int
 | some j => (j : Int)
 | none => -1
theorem Zn (sd : Nat → Int) (s : Int) (k : Nat) : ∀ c, c ≤ k + 1 → A8 (fun i => cond (sd (k - i) == s) (some [.int ((k - i : Nat) : Int)]) none) c (k + 1 - c) = (BX sd s c).map fun j : Nat => [PV.int (j : Int)]
 | 0, _ => rfl
 | c + 1, h => by
  have ih := Zn sd s k c (by omega)
  have e1 : k - (k + 1 - (c + 1)) = c := by omega
  have e2 : k + 1 - (c + 1) + 1 = k + 1 - c := by omega
  simp only [A8, BX, e1, e2, ih]
  cases sd c == s <;> rfl
theorem aq (sd : Nat → Int) (s : Int) : ∀ c i, A8 (fun i => cond (sd i == s) (some [.int (i : Int)]) none) c i = (Mg sd s c i).map fun j : Nat => [PV.int (j : Int)]
 | 0, _ => rfl
 | c + 1, i => by
  simp only [A8, Mg, aq sd s c (i + 1)]
  cases sd i == s <;> rfl
theorem gn {N : Nat} {sd : Nat → Int} {n k : Nat} {s : Int} (hN : 2097152 < N) (hn : n ≤ 1048576) (hk : k < n) {F G : (List AQ → Option (List PV)) → List PV → Option (List PV)}
    (f0 : ∀ self, F self [.int (-1)] = some [.int 1]) (f1 : ∀ (j : Nat) self, j < n → F self [.int (j : Int)] = cond (sd j == s) (some [.int 0, .int (j : Int)]) (self [.int ((j : Int) - 1)]))
    (g0 : ∀ self, G self [.int (n : Int)] = some [.int 1]) (g1 : ∀ (j : Nat) self, j < n → G self [.int (j : Int)] = cond (sd j == s) (some [.int 0, .int (j : Int)]) (self [.int ((j : Int) + 1)])) :
    ((DI F N [.int (k : Int)]).bind fun c => cond (pvI (AJ c 0) == ((0 : Nat) : Int)) (some [PV.int (pvI (AJ c 1))]) ((DI G N [.int (IntKind.i64.wrap ((k : Int) + 1))]).bind fun c => cond (pvI (AJ c 0) == ((0 : Nat) : Int)) (some [PV.int (pvI (AJ c 1))]) (some [PV.int (-1)]))) = some [.int (fC (Cb sd n k s))] := by
  have a1 := Sk (F := F) (len := k + 1) (fun i => [.int ((k : Int) - (i : Int))]) (fun i => cond (sd (k - i) == s) (some [.int ((k - i : Nat) : Int)]) none)
    (fun self => by
      show F self [.int ((k : Int) - ((k + 1 : Nat) : Int))] = _
      rw [show (k : Int) - ((k + 1 : Nat) : Int) = -1 by omega]
      exact f0 self)
    (fun i self hi => by
      show F self [.int ((k : Int) - (i : Int))] = _
      rw [show (k : Int) - (i : Int) = ((k - i : Nat) : Int) by omega, f1 (k - i) self (by omega), show ((k - i : Nat) : Int) - 1 = (k : Int) - ((i + 1 : Nat) : Int) by omega]
      cases sd (k - i) == s <;> rfl) (k + 1) 0 N (by omega) (by omega)
  have fb := Zn sd s k (k + 1) (Nat.le_refl _)
  rw [Nat.sub_self] at fb
  rw [fb] at a1
  have a1 : DI F N [.int ((k : Int) - ((0 : Nat) : Int))] = _ := a1
  rw [show (k : Int) - ((0 : Nat) : Int) = (k : Int) by omega] at a1
  rw [a1, Ar (show k ≤ 1099511627776 by omega)]
  unfold Cb
  cases BX sd s (k + 1) with
  | some j => rfl
  | none =>
    have a2 := CN (F := G) (len := n) (fun i => cond (sd i == s) (some [.int (i : Int)]) none) g0 (fun i self hi => by rw [g1 i self hi]; cases sd i == s <;> rfl) (n - (k + 1)) (k + 1) N (by omega) (by omega)
    rw [aq] at a2
    rw [show ((k : Int) + 1) = ((k + 1 : Nat) : Int) by omega, a2]
    cases Mg sd s (n - (k + 1)) (k + 1) <;> rfl
theorem mS (n : Int) : iLe 0 (-1) = false := rfl
theorem im (j : Nat) : iLe 0 (j : Int) = true := by simp only [iLe, decide_eq_true_eq]; omega
theorem hC {j : Nat} (h : j ≤ 1048576) : IntKind.i64.wrap ((j : Int) - 1) = (j : Int) - 1 := DB (by omega) (by omega)
set_option maxHeartbeats 1000000 in
theorem eO {N : Nat} {sd : Nat → Int} {n k : Nat} {s : Int} (hN : 2097152 < N) (hn : n ≤ 1048576) (hk : k < n) : Hd N [.rows (Gd (zs sd n)), .int (k : Int), .int s] = some [.int (fC (Cb sd n k s))] := by
 show M8 (std (TH N) N) (xOf _) = _
 simp only [M8, std, xOf, PXb]
 refine gn hN hn hk ?_ ?_ ?_ ?_
 ·intro self
  simp only [PXb, PXc, PXn, AG, mS 0]
 ·intro j self hj
  simp only [PXb, PXc, PXn, AG, im, Mf, R8, Ab hj, CG, gO _ hj, hC (show j ≤ 1048576 by omega)]
 ·intro self
  simp only [PXb, PXc, PXn, AG, Mf, R8, BM]
 ·intro j self hj
  simp only [PXb, PXc, PXn, AG, Mf, R8, A0 hj, Ab hj, CG, gO _ hj, Ar (show j ≤ 1099511627776 by omega)]
theorem H2 {L : Rows} {f : Ev → Int} {c : Int} (hf : ∀ e, 0 ≤ f e ∧ f e ≤ c) (j : Nat) : ∀ i : Nat, 0 ≤ smi L f j i ∧ smi L f j i ≤ c * (i : Int)
 | 0 => by
  have : smi L f j 0 = 0 := rfl
  rw [this]
  omega
 | i + 1 => by
  have ih := H2 (L := L) hf j i
  have h1 := hf (evR L i)
  rw [P0, show c * ((i + 1 : Nat) : Int) = c * (i : Int) + c by rw [show ((i + 1 : Nat) : Int) = (i : Int) + 1 by omega, Int.mul_add, Int.mul_one]]
  have h2 := hf (evR L i)
  generalize c * (i : Int) = z at ih ⊢
  cases Nat.beq (opn L (i + 1)) (j + 1) <;> simp only [cond_true, cond_false] <;> omega
theorem l6 (L : Rows) (sd : Nat → Int) (n j : Nat) : ∀ i : Nat, 0 ≤ pnS L sd n j i ∧ pnS L sd n j i ≤ 5 * (i : Int)
 | 0 => by
  have : pnS L sd n j 0 = 0 := rfl
  rw [this]
  omega
 | i + 1 => by
  have ih := l6 L sd n j i
  rw [R5]
  cases ((evR L i).kind == 13 && isS (Cb sd n (opn L (i + 1) - 1) (evR L i).side) j) <;> simp only [cond_true, cond_false] <;> omega
structure Sml (x : Sco) : Prop where
 runs : 0 ≤ x.runs ∧ x.runs ≤ 1000000
 wk : 0 ≤ x.wickets ∧ x.wickets ≤ 1000000
 balls : 0 ≤ x.balls ∧ x.balls ≤ 1000000
 wides : 0 ≤ x.wides ∧ x.wides ≤ 1000000
 no : 0 ≤ x.noballs ∧ x.noballs ≤ 1000000
 bb : 0 ≤ x.byes ∧ x.byes ≤ 1000000
 lb : 0 ≤ x.legbyes ∧ x.legbyes ≤ 1000000
 pens : 0 ≤ x.pens ∧ x.pens ≤ 1000000
theorem fD {r : Rul} (h : RulOk r) (e : Ev) : 0 ≤ Wy r e ∧ Wy r e ≤ 62 := by
 have c := EL h e
 have h0 := c.ba
 have h1 := c.wi
 have h2 := c.no
 have h3 := c.bb
 have h4 := c.lb
 have h5 := c.tot
 unfold Wy
 omega
theorem lR {r : Rul} (h : RulOk r) (L : Rows) (sd : Nat → Int) (n j : Nat) {i : Nat} (hi : i ≤ 4000) : Sml (A1 r L sd n j i) := by
 have p := l6 L sd n j i
 have b1 := H2 (L := L) (fD h) j i
 have b2 := H2 (L := L) iC j i
 have b3 := H2 (L := L) (f := jc r) (c := 1) (fun e => by unfold jc; cases (Ao r e).counts <;> simp) j i
 have b4 := H2 (L := L) (f := fun e => (Ao r e).wides) (fun e => (EL h e).wi) j i
 have b5 := H2 (L := L) (f := fun e => (Ao r e).noballs) (fun e => (EL h e).no) j i
 have b6 := H2 (L := L) (f := fun e => (Ao r e).byes) (fun e => (EL h e).bb) j i
 have b7 := H2 (L := L) (f := fun e => (Ao r e).legbyes) (fun e => (EL h e).lb) j i
 unfold A1
 constructor <;> (simp only; omega)
end Go.Px
end
