/- Part 7. -/
import Derived.Test.YtapipgdcgmmkaaaGreatPart06
set_option linter.unusedVariables false
set_option linter.unusedSimpArgs false
section
namespace Go.Px
def rI (xs : List Int) : Rows := xs.map fun n => [PV.int n]
def rB (xs : List Bool) : Rows := xs.map fun n => [PV.bool n]
theorem Qw {n : Int} (h1 : -9223372036854775808 ≤ n) (h2 : n ≤ 9223372036854775807) : IntKind.i64.wrap n = n := by
 unfold IntKind.wrap
 simp [IntKind.signed, IntKind.bits]
 omega
theorem Bo (b : Bool) (x y : List PV) (k : List PV → Option (List PV)) : (cond b (some x) (some y) : Option (List PV)).bind k = k (cond b x y) := by cases b <;> rfl
theorem U7 (b : Bool) (x y : List PV) (j : Nat) : pvB (AG (cond b x y) j) = cond b (pvB (AG x j)) (pvB (AG y j)) := by cases b <;> rfl
theorem VD (b : Bool) (x y : List PV) (j : Nat) : pvI (AG (cond b x y) j) = cond b (pvI (AG x j)) (pvI (AG y j)) := by cases b <;> rfl
theorem U8 (b : Bool) (x y : List PV) (j : Nat) : pvS (AG (cond b x y) j) = cond b (pvS (AG x j)) (pvS (AG y j)) := by cases b <;> rfl
theorem VA (b : Bool) (x y : List PV) (j : Nat) : pvL (AG (cond b x y) j) = cond b (pvL (AG x j)) (pvL (AG y j)) := by cases b <;> rfl
theorem S0 (b p : Bool) : cond b p false = (b && p) := by cases b <;> rfl
theorem VL (b p : Bool) : cond b true p = (b || p) := by cases b <;> rfl
theorem U6 (b p : Bool) : cond b false p = (!b && p) := by cases b <;> rfl
theorem VB (b p : Bool) : cond b p true = (!b || p) := by cases b <;> rfl
theorem Un (b : Bool) (x y : List PV) : cond b (some x) (some y) = some (cond b x y) := by cases b <;> rfl
theorem U3 {α : Type} (b : Bool) (x : α) : cond b x x = x := by cases b <;> rfl
theorem Uy (b p q : Bool) : cond b [PV.bool p] [PV.bool q] = [PV.bool (cond b p q)] := by cases b <;> rfl
theorem Th (p : PV) (r : List PV) (j : Nat) : AG (p :: r) (j + 1) = AG r j := by simp [AG]
theorem F1 {F : (List AQ → Option (List PV)) → List PV → Option (List PV)} {n : Nat} {c r : List PV} {k : List PV → Option (List PV)} {g : Option (List PV)} (h : EN F n c = some r) (hk : k r = g) : (EN F n c).bind k = g := by
 rw [h]; exact hk
def Ml (ans : Nat → Option (List PV)) : Nat → Nat → Option (List PV)
 | 0, _ => none
 | k + 1, i => match ans i with
  | some r => some r
  | none => Ml ans k (i + 1)
def S9 : Option (List PV) → List PV
 | some r => .int 0 :: r
 | none => [.int 1]
theorem IJ {F : (List AQ → Option (List PV)) → List PV → Option (List PV)} {len : Nat} (ans : Nat → Option (List PV))
    (h0 : ∀ self, F self [.int (len : Int)] = some [.int 1]) (h1 : ∀ i self, i < len → F self [.int (i : Int)] = match ans i with | some r => some (.int 0 :: r) | none => self [.int ((i : Int) + 1)]) :
    ∀ (k i n : Nat), i + k = len → k < n → EN F n [.int (i : Int)] = some (S9 (Ml ans k i))
  | 0, i, n, hk, hn => by
    obtain ⟨n, rfl⟩ : ∃ m, n = m + 1 := ⟨n - 1, by omega⟩
    obtain rfl : i = len := by omega
    exact h0 _
  | k + 1, i, n, hk, hn => by
    obtain ⟨n, rfl⟩ : ∃ m, n = m + 1 := ⟨n - 1, by omega⟩
    have h2 := h1 i (fun ls => EN F n (ls.map Leaf.pv)) (by omega)
    show F _ _ = _
    rw [h2]
    simp only [Ml]
    cases ha : ans i with
    | some r => rfl
    | none =>
      have := IJ ans h0 h1 k (i + 1) n (by omega) (by omega)
      show EN F n [.int ((i : Int) + 1)] = _
      rw [show ((i : Int) + 1) = (((i + 1 : Nat)) : Int) by omega]
      exact this
def Ch (bad : Nat → Bool) (k i : Nat) : Bool := (List.range' i k).any bad
theorem Tj (bad : Nat → Bool) (i : Nat) : Ch bad 0 i = false := rfl
theorem Md (bad : Nat → Bool) (k i : Nat) : Ch bad (k + 1) i = (bad i || Ch bad k (i + 1)) := by simp only [Ch, List.range'_succ, List.any_cons]
theorem QH (bad : Nat → Bool) (r : List PV) : ∀ (k i : Nat), Ml (fun j => cond (bad j) (some r) none) k i = cond (Ch bad k i) (some r) none
 | 0, i => rfl
 | k + 1, i => by
  rw [Md]
  simp only [Ml]
  cases hb : bad i with
  | true => rfl
  | false => rw [Bool.false_or]; exact QH bad r k (i + 1)
theorem Sn {f : Nat → Bool} {k i : Nat} : Ch f k i = false ↔ ∀ j, i ≤ j → j < i + k → f j = false := by
 induction k generalizing i with
 | zero => simp [Tj]; intro j h1 h2; omega
 | succ k ih =>
  rw [Md, Bool.or_eq_false_iff, ih]
  constructor
  ·intro ⟨h1, h2⟩ j h3 h4
   rcases Nat.lt_or_ge i j with h | h
   ·exact h2 j h (by omega)
   ·obtain rfl : j = i := by omega
    exact h1
  ·intro h; exact ⟨h i (Nat.le_refl _) (by omega), fun j h1 h2 => h j (by omega) (by omega)⟩
theorem RA {F : (List AQ → Option (List PV)) → List PV → Option (List PV)} {len : Nat} (bad : Nat → Bool) (r : List PV)
    (h0 : ∀ self, F self [.int (len : Int)] = some [.int 1]) (h1 : ∀ i self, i < len → F self [.int (i : Int)] = cond (bad i) (some (.int 0 :: r)) (self [.int ((i : Int) + 1)])) (n : Nat) (hn : len < n) :
    EN F n [.int 0] = some (cond (Ch bad len 0) (.int 0 :: r) [.int 1]) := by
  have := IJ (F := F) (len := len) (fun j => cond (bad j) (some r) none) h0 (fun i self hi => by rw [h1 i self hi]; cases bad i <;> rfl) len 0 n (by omega) hn
  rw [show (0 : Int) = ((0 : Nat) : Int) from rfl, this, QH]
  cases Ch bad len 0 <;> rfl
theorem Hs {i : Nat} (h : i ≤ 1099511627776) : IntKind.i64.wrap ((i : Int) + 1) = (i : Int) + 1 := Qw (by omega) (by omega)
theorem Hj {i len : Nat} (h : i < len) : iIn (i : Int) (len : Int) = true := by simp [iIn]; omega
theorem Lc {i len : Nat} (h : i < len) : iLt (i : Int) (len : Int) = true := by simp [iLt]; omega
theorem Mk (len : Nat) : iLt (len : Int) (len : Int) = false := by simp [iLt]
theorem UK {F : (List AQ → Option (List PV)) → List PV → Option (List PV)} {len : Nat} (enc : Nat → List AQ) (bad : Nat → Bool) (r fin : List PV)
    (h0 : ∀ self, F self ((enc len).map Leaf.pv) = some fin) (h1 : ∀ i self, i < len → F self ((enc i).map Leaf.pv) = cond (bad i) (some r) (self (enc (i + 1)))) (n : Nat) (hn : len < n) :
    EN F n ((enc 0).map Leaf.pv) = some (cond (Ch bad len 0) r fin) := by
  have main : ∀ (k i n : Nat), i + k = len → k < n → EN F n ((enc i).map Leaf.pv) = some (cond (Ch bad k i) r fin) := by
    intro k
    induction k with
    | zero =>
      intro i n hk hn
      obtain ⟨n, rfl⟩ : ∃ m, n = m + 1 := ⟨n - 1, by omega⟩
      obtain rfl : i = len := by omega
      exact h0 _
    | succ k ih =>
      intro i n hk hn
      obtain ⟨n, rfl⟩ : ∃ m, n = m + 1 := ⟨n - 1, by omega⟩
      show F _ _ = _
      rw [h1 i _ (by omega), Md]
      cases bad i with
      | true => rfl
      | false => exact ih (i + 1) n (by omega) (by omega)
  exact main len 0 n (by omega) hn
theorem Uj (k i : Nat) : Ch (fun _ => false) k i = false := Sn.2 fun _ _ _ => rfl
theorem UE {F : (List AQ → Option (List PV)) → List PV → Option (List PV)} {len : Nat} (enc : Nat → List AQ) (fin : List PV)
    (h0 : ∀ self, F self ((enc len).map Leaf.pv) = some fin) (h1 : ∀ i self, i < len → F self ((enc i).map Leaf.pv) = self (enc (i + 1))) (n : Nat) (hn : len < n) :
    EN F n ((enc 0).map Leaf.pv) = some fin := by
  have := UK (F := F) enc (fun _ => false) [] fin h0 h1 n hn
  rw [Uj] at this
  exact this
def atI (L : Rows) (i j : Nat) : Int := pvI (AY L i j)
def Sp (p : Nat → Bool) : Nat → Int
 | 0 => 0
 | i + 1 => cond (p i) (Sp p i + 1) (Sp p i)
def T8 (p : Int → Bool) (L : Rows) : Bool := Ch (fun i => p (atI L i 0)) L.length 0
theorem PXb : (∀ {α β : Type} (f : α → β) (a : α) (l : List α), List.map f (a :: l) = f a :: List.map f l) ∧ (∀ {α β : Type} (f : α → β), List.map f [] = []) ∧
    (∀ i : Int, Leaf.pv (.int i : AQ) = .int i) ∧ (∀ i : Bool, Leaf.pv (.bool i : AQ) = .bool i) ∧ (∀ i : ByteArray, Leaf.pv (.str i : AQ) = .str i) ∧ (∀ i : Rows, Leaf.pv (.rows i : AQ) = .rows i) ∧
    (∀ {α β : Type} (a : α) (f : α → Option β), (some a).bind f = f a) ∧ (∀ (p : PV) (r : List PV), AG (p :: r) 0 = p) ∧ (∀ (p : PV) (r : List PV) (j : Nat), AG (p :: r) (j + 1) = AG r j) ∧
    (∀ n : Int, pvI (.int n) = n) ∧ (∀ n : Bool, pvB (.bool n) = n) ∧ (∀ n : ByteArray, pvS (.str n) = n) ∧ (∀ n : Rows, pvL (.rows n) = n) ∧
    (∀ b p : Bool, cond b p false = (b && p)) ∧ (∀ b p : Bool, cond b true p = (b || p)) ∧ (∀ {α : Type} (a b : α), cond true a b = a) ∧ (∀ {α : Type} (a b : α), cond false a b = b) ∧
    (∀ a b : Bool, (a && (a && b)) = (a && b)) ∧ (∀ a : Bool, (a && a) = a) ∧ (∀ a b : Bool, (a || (a || b)) = (a || b)) ∧ (∀ a : Bool, (a || a) = a) ∧
    (∀ a : Bool, (a || true) = true) ∧ (∀ a : Bool, (a || false) = a) ∧ (∀ a : Bool, (true || a) = true) ∧ (∀ a : Bool, (false || a) = a) ∧
    (∀ a : Bool, (a && true) = a) ∧ (∀ a : Bool, (a && false) = false) ∧ (∀ a : Bool, (true && a) = a) ∧ (∀ a : Bool, (false && a) = false) ∧ ((!true) = false) ∧ ((!false) = true) ∧ (∀ a : Bool, (!(!a)) = a) ∧
    (∀ n : Nat, (n : Int).toNat = n) ∧ (∀ {O : Alg} (x : Ags O) (j : Nat), xr x [] j = []) ∧
    (∀ {O : Alg} (x : Ags O) (ks : List Nat) (j : Nat), xr x (0 :: ks) j = .int (x.I j) :: xr x ks (j + 1)) ∧ (∀ {O : Alg} (x : Ags O) (ks : List Nat) (j : Nat), xr x (1 :: ks) j = .bool (x.B j) :: xr x ks (j + 1)) ∧
    (∀ {O : Alg} (x : Ags O) (ks : List Nat) (j : Nat), xr x (2 :: ks) j = .str (x.S j) :: xr x ks (j + 1)) ∧ (∀ {O : Alg} (x : Ags O) (ks : List Nat) (j : Nat), xr x (3 :: ks) j = .rows (x.L j) :: xr x ks (j + 1)) ∧
    (∀ (O : Alg) (c : O.C) (j : Nat), cr O c [] j = []) ∧ (∀ (O : Alg) (c : O.C) (ks : List Nat) (j : Nat), cr O c (0 :: ks) j = .int (O.cI c j) :: cr O c ks (j + 1)) ∧ (∀ (O : Alg) (c : O.C) (ks : List Nat) (j : Nat), cr O c (1 :: ks) j = .bool (O.cB c j) :: cr O c ks (j + 1)) ∧
    (∀ (O : Alg) (c : O.C) (ks : List Nat) (j : Nat), cr O c (2 :: ks) j = .str (O.cS c j) :: cr O c ks (j + 1)) ∧ (∀ (O : Alg) (c : O.C) (ks : List Nat) (j : Nat), cr O c (3 :: ks) j = .rows (O.cL c j) :: cr O c ks (j + 1)) ∧
    (∀ (O : Alg) (l : O.L) (i : O.I) (j : Nat), rr O l i [] j = []) ∧ (∀ (O : Alg) (l : O.L) (i : O.I) (ks : List Nat) (j : Nat), rr O l i (0 :: ks) j = .int (O.rI l i j) :: rr O l i ks (j + 1)) ∧ (∀ (O : Alg) (l : O.L) (i : O.I) (ks : List Nat) (j : Nat), rr O l i (1 :: ks) j = .bool (O.rB l i j) :: rr O l i ks (j + 1)) ∧
    (∀ (O : Alg) (l : O.L) (i : O.I) (ks : List Nat) (j : Nat), rr O l i (2 :: ks) j = .str (O.rS l i j) :: rr O l i ks (j + 1)) ∧ (∀ (O : Alg) (l : O.L) (i : O.I) (ks : List Nat) (j : Nat), rr O l i (3 :: ks) j = .rows (O.rL l i j) :: rr O l i ks (j + 1)) ∧
    (kI = [0,0,0,0,0,0,0,0,0,0,0,0,0,0,3,0,3,3,1,3,1,0,0,0,3,0,0,0]) ∧ (kR = [2,0,0,0,0,0,0,0,1,0,0,0,0,3]) ∧ (kM = [2,0,0,0,0,0,0,0,1,0,0,0,0,3,0,0,1,3,0,0,0,0,0]) ∧
    (∀ (O : Alg) (b : List O.Lf), ap O [] b = b) ∧ (∀ (O : Alg) (x : O.Lf) (a b : List O.Lf), ap O (x :: a) b = x :: ap O a b) ∧
    (∀ {α : Type} (x : α) (a b : List α), x :: a ++ b = x :: (a ++ b)) ∧ (∀ {α : Type} (b : List α), [] ++ b = b) := by
  repeat' apply And.intro
  all_goals first | decide | (intros; rfl) | exact Th | exact S0 | exact VL | exact Int.toNat_natCast
theorem PXc : (∀ (b : Bool) (x y : List PV) (j : Nat), pvB (AG (cond b x y) j) = cond b (pvB (AG x j)) (pvB (AG y j))) ∧ (∀ (b : Bool) (x y : List PV) (j : Nat), pvI (AG (cond b x y) j) = cond b (pvI (AG x j)) (pvI (AG y j))) ∧
    (∀ (b : Bool) (x y : List PV) (j : Nat), pvS (AG (cond b x y) j) = cond b (pvS (AG x j)) (pvS (AG y j))) ∧ (∀ (b : Bool) (x y : List PV) (j : Nat), pvL (AG (cond b x y) j) = cond b (pvL (AG x j)) (pvL (AG y j))) := ⟨U7, VD, U8, VA⟩
theorem PXn : (∀ a b : Bool, (!(a || b)) = (!a && !b)) ∧ (∀ a b : Bool, (!(a && b)) = (!a || !b)) ∧ (∀ b p : Bool, cond b false p = (!b && p)) ∧ (∀ b p : Bool, cond b p true = (!b || p)) := ⟨by decide, by decide, U6, VB⟩
end Go.Px
end
section
namespace Go.Px
structure Inn where
 side : Int
 target : Int
 overs : Int
 runs : Int
 wickets : Int
 wides : Int
 noballs : Int
 byes : Int
 legbyes : Int
 pens : Int
 complete : Int
 inover : Int
 striker : Int
 other : Int
 batters : Rows
 bowler : Int
 bowlers : Rows
 before : Rows
 fresh : Bool
 bowled : Rows
 freehit : Bool
 ballage : Int
 keeper : Int
 outside : Int
 subs : Rows
 rev1 : Int
 rev2 : Int
 ending : Int
structure Rul where
 name : ByteArray
 side : Int
 innings : Int
 overs : Int
 balls : Int
 quota : Int
 wide : Int
 noball : Int
 freehit : Bool
 newball : Int
 followon : Int
 reviews : Int
 outside : Int
 power : Rows
structure Del where
 type : Int
 source : Int
 runs : Int
 short : Int
 boundary : Int
 crossed : Bool
 how : Int
 victim : Int
 fielder : Int
 second : Int
 sub : Bool
 sector : Int
structure Ev where
 kind : Int
 side : Int
 player : Int
 other : Int
 yes : Bool
 runs : Int
 overs : Int
 ball : Del
def Inn.ls (s : Inn) : List PV := [.int s.side, .int s.target, .int s.overs, .int s.runs, .int s.wickets, .int s.wides, .int s.noballs, .int s.byes, .int s.legbyes, .int s.pens, .int s.complete, .int s.inover, .int s.striker, .int s.other, .rows s.batters, .int s.bowler, .rows s.bowlers, .rows s.before, .bool s.fresh, .rows s.bowled, .bool s.freehit, .int s.ballage, .int s.keeper, .int s.outside, .rows s.subs, .int s.rev1, .int s.rev2, .int s.ending]
def Rul.ls (r : Rul) : List PV := [.str r.name, .int r.side, .int r.innings, .int r.overs, .int r.balls, .int r.quota, .int r.wide, .int r.noball, .bool r.freehit, .int r.newball, .int r.followon, .int r.reviews, .int r.outside, .rows r.power]
def Del.ls (d : Del) : List PV := [.int d.type, .int d.source, .int d.runs, .int d.short, .int d.boundary, .bool d.crossed, .int d.how, .int d.victim, .int d.fielder, .int d.second, .bool d.sub, .int d.sector]
def VG (x : Inn × Int) : List PV := [.int x.1.side, .int x.1.target, .int x.1.overs, .int x.1.runs, .int x.1.wickets, .int x.1.wides, .int x.1.noballs, .int x.1.byes, .int x.1.legbyes, .int x.1.pens, .int x.1.complete, .int x.1.inover, .int x.1.striker, .int x.1.other, .rows x.1.batters, .int x.1.bowler, .rows x.1.bowlers, .rows x.1.before, .bool x.1.fresh, .rows x.1.bowled, .bool x.1.freehit, .int x.1.ballage, .int x.1.keeper, .int x.1.outside, .rows x.1.subs, .int x.1.rev1, .int x.1.rev2, .int x.1.ending, .int x.2]
structure Fit (bt bw bf bd sb : Rows) : Prop where
 bt : bt.length ≤ 1048576
 bw : bw.length ≤ 1048576
 bf : bf.length ≤ 1048576
 bd : bd.length ≤ 1048576
 sb : sb.length ≤ 1048576
abbrev Inn.Fit (s : Inn) : Prop := Px.Fit s.batters s.bowlers s.before s.bowled s.subs
theorem VO (b : Bool) (x y z : Int) : (cond b x y == z) = cond b (x == z) (y == z) := by cases b <;> rfl
theorem U4 (b : Bool) (x y : Int) : cond b [PV.int x] [PV.int y] = [PV.int (cond b x y)] := by cases b <;> rfl
theorem Uk : ((0 : Nat) : Int) = 0 := rfl
theorem Uw : ((1 : Nat) : Int) = 1 := rfl
theorem Up : ((2 : Nat) : Int) = 2 := rfl
theorem U0 : ((3 : Nat) : Int) = 3 := rfl
theorem Ua (b x : Bool) : cond b b x = (b || x) := by cases b <;> rfl
theorem Inn.eta (s : Inn) : Inn.mk s.side s.target s.overs s.runs s.wickets s.wides s.noballs s.byes s.legbyes s.pens s.complete s.inover s.striker s.other s.batters s.bowler s.bowlers s.before s.fresh s.bowled s.freehit s.ballage s.keeper s.outside s.subs s.rev1 s.rev2 s.ending = s := rfl
theorem Rul.eta (r : Rul) : Rul.mk r.name r.side r.innings r.overs r.balls r.quota r.wide r.noball r.freehit r.newball r.followon r.reviews r.outside r.power = r := rfl
def ix (p : Int) : Nat := (IntKind.i64.wrap (p - 1)).toNat
def TC (L : Rows) : Bool := Ch (fun i => !(atI L i 0 == 0)) L.length 0
theorem PXm : (∀ (b : Bool) (x y : List PV), cond b (some x) (some y) = some (cond b x y)) ∧ (∀ {α : Type} (b : Bool) (x : α), cond b x x = x) ∧ (∀ b x : Bool, cond b b x = (b || x)) ∧ (((0 : Nat) : Int) = 0) ∧ (((1 : Nat) : Int) = 1) ∧ (((2 : Nat) : Int) = 2) ∧ (((3 : Nat) : Int) = 3) ∧
    (∀ (b : Bool) (x y : Int), cond b [PV.int x] [PV.int y] = [PV.int (cond b x y)]) ∧ (∀ (b x y : Bool), cond b [PV.bool x] [PV.bool y] = [PV.bool (cond b x y)]) ∧ (∀ {α : Type} (l : List α) (i : Nat) (a : α), (l.set i a).length = l.length) ∧
    (∀ (b : Bool) (x y z : Int), (cond b x y == z) = cond b (x == z) (y == z)) ∧ (∀ x : Int, (x == x) = true) ∧ (∀ x : Bool, (x == x) = true) ∧
    (∀ s : Inn, s.ls = [.int s.side, .int s.target, .int s.overs, .int s.runs, .int s.wickets, .int s.wides, .int s.noballs, .int s.byes, .int s.legbyes, .int s.pens, .int s.complete, .int s.inover, .int s.striker, .int s.other, .rows s.batters, .int s.bowler, .rows s.bowlers, .rows s.before, .bool s.fresh, .rows s.bowled, .bool s.freehit, .int s.ballage, .int s.keeper, .int s.outside, .rows s.subs, .int s.rev1, .int s.rev2, .int s.ending]) ∧
    (∀ x : Inn × Int, VG x = [.int x.1.side, .int x.1.target, .int x.1.overs, .int x.1.runs, .int x.1.wickets, .int x.1.wides, .int x.1.noballs, .int x.1.byes, .int x.1.legbyes, .int x.1.pens, .int x.1.complete, .int x.1.inover, .int x.1.striker, .int x.1.other, .rows x.1.batters, .int x.1.bowler, .rows x.1.bowlers, .rows x.1.before, .bool x.1.fresh, .rows x.1.bowled, .bool x.1.freehit, .int x.1.ballage, .int x.1.keeper, .int x.1.outside, .rows x.1.subs, .int x.1.rev1, .int x.1.rev2, .int x.1.ending, .int x.2]) ∧
    (∀ s : Inn, Inn.mk s.side s.target s.overs s.runs s.wickets s.wides s.noballs s.byes s.legbyes s.pens s.complete s.inover s.striker s.other s.batters s.bowler s.bowlers s.before s.fresh s.bowled s.freehit s.ballage s.keeper s.outside s.subs s.rev1 s.rev2 s.ending = s) ∧
    (∀ r : Rul, Rul.mk r.name r.side r.innings r.overs r.balls r.quota r.wide r.noball r.freehit r.newball r.followon r.reviews r.outside r.power = r) :=
  ⟨Un, U3, Ua, Uk, Uw, Up, U0, U4, Uy, fun _ _ _ => List.length_set, VO, fun _ => beq_self_eq_true _, fun _ => beq_self_eq_true _, fun _ => rfl, fun _ => rfl, Inn.eta, Rul.eta⟩
end Go.Px
end
