/- Part 10. -/
import Derived.Test.YtapipgdcgmmkaaaGreatPart09
set_option linter.unusedVariables false
set_option linter.unusedSimpArgs false
section
namespace Go.Px
set_option maxRecDepth 100000
structure Lens (s t : Inn) : Prop where
 bt : t.batters.length = s.batters.length
 bd : t.bowled.length = s.bowled.length
 sb : t.subs.length = s.subs.length
 bw : t.bowlers.length ≤ s.bowlers.length + 1
 bf : t.before.length ≤ s.before.length + s.bowlers.length + 1
theorem Lens.refl (s : Inn) : Lens s s := ⟨rfl, rfl, rfl, by omega, by omega⟩
@[reducible] def VW (t : Inn) (a b e f g : Int) : Inn := ⟨t.side, t.target, t.overs, a, t.wickets, b, e, f, g, t.pens, t.complete, t.inover, t.striker, t.other, t.batters, t.bowler, t.bowlers, t.before, t.fresh, t.bowled, t.freehit, t.ballage, t.keeper, t.outside, t.subs, t.rev1, t.rev2, t.ending⟩
end Go.Px
end
section
namespace Go.Px
set_option maxRecDepth 100000
theorem Lens.of {s t : Inn} (h1 : t.batters.length = s.batters.length) (h2 : t.bowled.length = s.bowled.length) (h3 : t.subs.length = s.subs.length) (h4 : t.bowlers = s.bowlers) (h5 : t.before = s.before) : Lens s t := ⟨h1, h2, h3, by rw [h4]; omega, by rw [h5]; omega⟩
def Um (r : Rul) (s : Inn) : Bool := U2 r.name r.side r.innings r.overs r.balls r.quota r.wide r.noball r.newball r.followon r.reviews r.outside r.power s.batters s.bowlers s.before s.bowled s.subs s.side s.target s.overs s.runs s.wickets s.wides s.noballs s.byes s.legbyes s.pens s.complete s.inover s.striker s.other s.bowler s.ballage s.keeper s.outside s.rev1 s.rev2 s.ending
end Go.Px
end
section
namespace Go.Px
set_option maxRecDepth 100000
def EF (r : Rul) : Rul := { r with name := Ty r.name 20, power := cut r.power 10 }
theorem RJ (r : Rul) (h : r.name.size ≤ 1048576) : (EF r).name.size ≤ 1048576 := Nat.le_trans (Tp _ _) h
end Go.Px
end
section
namespace Go.Px
set_option maxRecDepth 100000
theorem SS {x a b : Int} : btw x a b = true ↔ a ≤ x ∧ x ≤ b := by simp [btw, iLe]
structure RulOk (r : Rul) : Prop where
 side : 2 ≤ r.side ∧ r.side ≤ 11
 innings : 1 ≤ r.innings ∧ r.innings ≤ 2
 overs : 0 ≤ r.overs ∧ r.overs ≤ 90
 balls : 4 ≤ r.balls ∧ r.balls ≤ 8
 quota : 0 ≤ r.quota ∧ r.quota ≤ 90
 wide : 1 ≤ r.wide ∧ r.wide ≤ 5
 noball : 1 ≤ r.noball ∧ r.noball ≤ 5
 newball : 0 ≤ r.newball ∧ r.newball ≤ 200
 followon : 0 ≤ r.followon ∧ r.followon ≤ 1000
 reviews : 0 ≤ r.reviews ∧ r.reviews ≤ 9
 outside : 0 ≤ r.outside ∧ r.outside ≤ 11
theorem Ui {r : Rul} (h : CK r = 0) : RulOk r := by
 unfold CK B7 at h
 cases hn : Dt r.name with
 | false => rw [hn] at h; cases h
 | true =>
  cases hr : CG r.side r.innings r.overs r.balls r.quota r.wide r.noball r.newball r.followon r.reviews r.outside with
  | false => rw [hn, hr] at h; cases h
  | true =>
   unfold CG at hr
   simp only [Bool.and_eq_true, SS] at hr
   obtain ⟨⟨⟨⟨⟨⟨⟨⟨⟨⟨h1, h2⟩, h3⟩, h4⟩, h5⟩, h6⟩, h7⟩, h8⟩, h9⟩, h10⟩, h11⟩ := hr
   exact ⟨h1, h2, h3, h4, h5, h6, h7, h8, h9, h10, h11⟩
def D4 (x : Int) : Prop := 0 ≤ x ∧ x ≤ 1000000000
structure InnOk (r : Rul) (s : Inn) : Prop where
 code : CK r = 0
 side : 1 ≤ s.side ∧ s.side ≤ 2
 lb : (s.batters.length : Int) = r.side
 ld : (s.bowled.length : Int) = r.side
 lz : (s.subs.length : Int) = r.side
 ending : s.ending ≤ 5
 st : 0 ≤ s.striker ∧ s.striker ≤ r.side
 ot : 0 ≤ s.other ∧ s.other ≤ r.side
 bat : UL s.batters s.striker s.other s.wickets = true
 bow : 0 ≤ s.bowler ∧ s.bowler ≤ r.side
 kee : 0 ≤ s.keeper ∧ s.keeper ≤ r.side
 dw : Oh s.bowlers r.side = true
 df : Oh s.before r.side = true
 ov : SJ r.overs s.overs = true
 io : 0 ≤ s.inover ∧ s.inover ≤ r.balls - 1
 target : D4 s.target
 runs : D4 s.runs
 wides : D4 s.wides
 noballs : D4 s.noballs
 byes : D4 s.byes
 legbyes : D4 s.legbyes
 pens : D4 s.pens
 complete : D4 s.complete
 ballage : D4 s.ballage
 outside : D4 s.outside
 rev1 : D4 s.rev1
 rev2 : D4 s.rev2
 bowled : T8 Q5 s.bowled = false
end Go.Px
end
section
namespace Go.Px
set_option maxRecDepth 100000
structure BatOk (L : Rows) (s n wk : Int) : Prop where
 le : ∀ i, i < L.length → atI L i 0 ≤ 3
 at1 : ∀ i, i < L.length → (atI L i 0 = 1 ↔ (s = (i : Int) + 1 ∨ n = (i : Int) + 1))
 here : TC L = true → s ≠ 0 ∨ n ≠ 0
 ne : s ≠ 0 → s ≠ n
 wk : wk = Uz L
end Go.Px
end
section
namespace Go.Px
set_option maxRecDepth 100000
structure Small (s : Inn) : Prop where
 target : s.target ≤ 999999900
 runs : s.runs ≤ 999999900
 wides : s.wides ≤ 999999900
 noballs : s.noballs ≤ 999999900
 byes : s.byes ≤ 999999900
 legbyes : s.legbyes ≤ 999999900
 pens : s.pens ≤ 999999900
 complete : s.complete ≤ 999999900
 ballage : s.ballage ≤ 999999900
 rev1 : s.rev1 ≤ 999999900
 rev2 : s.rev2 ≤ 999999900
 bowled : ∀ j, j < s.bowled.length → atI s.bowled j 0 ≤ 999999900
end Go.Px
end
