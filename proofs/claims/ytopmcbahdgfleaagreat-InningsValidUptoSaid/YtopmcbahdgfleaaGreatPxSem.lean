/-
Px: the meaning of the executor's terms: pure cells, the standard algebra, and how abstract cells read in the machine's memory.
-/
import Derived.Test.YtopmcbahdgfleaaGreatPxDefs
import Derived.WalkKit
namespace Go.Px
set_option linter.unusedVariables false
set_option linter.unusedSimpArgs false

/-- A cell of pure data. -/
inductive PV where
  | int (n : Int)
  | bool (b : Bool)
  | str (s : ByteArray)
  | rows (l : List (List PV))
  deriving Inhabited

abbrev Rows := List (List PV)
abbrev SLeaf := Leaf Int Bool ByteArray Rows

def Leaf.pv : SLeaf → PV
  | .int i => .int i
  | .bool b => .bool b
  | .str s => .str s
  | .rows l => .rows l

def PV.leaf : PV → SLeaf
  | .int i => .int i
  | .bool b => .bool b
  | .str s => .str s
  | .rows l => .rows l

@[simp] theorem PV.pv_leaf (p : PV) : p.leaf.pv = p := by cases p <;> rfl
@[simp] theorem Leaf.leaf_pv (p : SLeaf) : p.pv.leaf = p := by cases p <;> rfl

def pvI : PV → Int
  | .int n => n
  | _ => 0
def pvB : PV → Bool
  | .bool b => b
  | _ => false
def pvS : PV → ByteArray
  | .str s => s
  | _ => ByteArray.empty
def pvL : PV → Rows
  | .rows l => l
  | _ => []

@[simp] theorem pvI_int (n : Int) : pvI (.int n) = n := rfl
@[simp] theorem pvB_bool (b : Bool) : pvB (.bool b) = b := rfl
@[simp] theorem pvS_str (s : ByteArray) : pvS (.str s) = s := rfl
@[simp] theorem pvL_rows (l : Rows) : pvL (.rows l) = l := rfl

/-- The cell `j` of a row. -/
def cellAt (r : List PV) (j : Nat) : PV := r.getD j (.int 0)
/-- The row `i` of a slice. -/
def rowAt (l : Rows) (i : Nat) : List PV := l.getD i []
def pvAt (l : Rows) (i j : Nat) : PV := cellAt (rowAt l i) j

/-- Cells laid over a row. -/
def putRow (r : List PV) : Nat → List PV → List PV
  | _, [] => r
  | off, p :: ps => putRow (r.set off p) (off + 1) ps

def strAt (s : ByteArray) (i : Int) : Int := ((s.data.toList.getD i.toNat 0).toNat : Int)
def bytesOfStr (s : ByteArray) : Rows := s.data.toList.map fun b => [PV.int b.toNat]

abbrev Env := Nat → List Nat → List PV → Option (List PV)

/-- A loop, with so much fuel. -/
def iter (F : (List SLeaf → Option (List PV)) → List PV → Option (List PV)) : Nat → List PV → Option (List PV)
  | 0, _ => none
  | n + 1, c => F (fun ls => iter F n (ls.map Leaf.pv)) c

def iLe (a b : Int) : Bool := decide (a ≤ b)
def iLt (a b : Int) : Bool := decide (a < b)
/-- A place within bounds. -/
def iIn (i n : Int) : Bool := decide (0 ≤ i ∧ i < n)
/-- Two places in their order within bounds. -/
def iRg (a b n : Int) : Bool := decide (0 ≤ a ∧ a ≤ b ∧ b ≤ n)
/-- So many elements of so many bytes are few. -/
def iSm (n : Int) (b : Nat) : Bool := decide (0 ≤ n ∧ n ≤ 17592186044416 ∧ n * b ≤ 17592186044416 ∧ b ≤ 1048576)

@[reducible] def std (E : Env) (N : Nat) : Alg where
  I := Int
  B := Bool
  S := ByteArray
  L := Rows
  C := List PV
  M := Option (List PV)
  lit _ n := n
  add k a b := k.wrap (a + b)
  sub k a b := k.wrap (a - b)
  mul k a b := k.wrap (a * b)
  quo k a b := k.wrap (a.tdiv b)
  rem _ a b := a.tmod b
  conv k a := k.wrap a
  le a b := iLe a b
  lt a b := iLt a b
  eqI a b := a == b
  tt := true
  ff := false
  bnot b := !b
  band a b := a && b
  beq a b := a == b
  iteI b x y := cond b x y
  iteB b x y := cond b x y
  iteS b x y := cond b x y
  iteL b x y := cond b x y
  slit s := s
  eqS a b := a.toList == b.toList
  ltS a b := Op.bytesLess a.toList b.toList
  slen s := s.size
  sidx s i := strAt s i
  ssub s l h := s.extract l.toNat h.toNat
  scat a b := a ++ b
  sbytes s := bytesOfStr s
  lnil := []
  llit rows := rows.map (·.map Leaf.pv)
  lapp a b := a ++ b
  llen l := l.length
  lset l i off r := l.set i.toNat (putRow (rowAt l i.toNat) off (r.map Leaf.pv))
  lsub l a b := (l.take b.toNat).drop a.toNat
  lrep n r := List.replicate n.toNat (r.map Leaf.pv)
  rI l i j := pvI (pvAt l i.toNat j)
  rB l i j := pvB (pvAt l i.toNat j)
  rS l i j := pvS (pvAt l i.toNat j)
  rL l i j := pvL (pvAt l i.toNat j)
  cI c j := pvI (cellAt c j)
  cB c j := pvB (cellAt c j)
  cS c j := pvS (cellAt c j)
  cL c j := pvL (cellAt c j)
  isTag c j := pvI (cellAt c 0) == (j : Int)
  inb i n := iIn i n
  inr a b n := iRg a b n
  small n b := iSm n b
  ret ls := some (ls.map Leaf.pv)
  fail _ := none
  assert b m := cond b m none
  ite b x y := cond b x y
  bind m k := m.bind k
  call f fns ls := E f fns (ls.map Leaf.pv)
  fix F ls := iter F N (ls.map Leaf.pv)

/-- A datum in memory: `St` says in which blocks its memory may lie. -/
inductive Rep (P : Program) (w : World) (St : Nat → Prop) : TypeId → Value → PV → Prop
  | int {t : TypeId} {k : IntKind} {n : Int} (h : lkOf P t = .int k) : Rep P w St t (.int k n) (.int n)
  | bool {t : TypeId} {b : Bool} (h : lkOf P t = .bool) : Rep P w St t (.bool b) (.bool b)
  | str {t : TypeId} {s : ByteArray} (h : lkOf P t = .str) : Rep P w St t (.string s) (.str s)
  | sl {t e : TypeId} {ts : List TypeId} {a : Option Addr} {len cap : Nat} {l : Rows} (v : Nat → Nat → Value)
      (h : lkOf P t = .sl e) (hts : tysOf P e = some ts) (hl : l.length = len) (hr : ∀ r ∈ l, r.length = ts.length) (hc : len ≤ cap)
      (hm : len = 0 ∨ ∃ b off, a = some ⟨b, off, none⟩ ∧ St b ∧ b < w.heap.size ∧
        ∀ i j, i < len → j < ts.length → w.cell? ⟨b, off + (i * ts.length + j), none⟩ = some (v i j))
      (hv : ∀ i j t', i < len → ts[j]? = some t' → Rep P w St t' (v i j) (pvAt l i j)) :
      Rep P w St t (.slice a len cap) (.rows l)

theorem Rep.mono {P : Program} {w w' : World} {St St' : Nat → Prop} {t : TypeId} {v : Value} {p : PV} (h : Rep P w St t v p)
    (hw : ∀ b, St b → b < w.heap.size → w'.heap[b]? = w.heap[b]? ∧ b < w'.heap.size) (hs : ∀ b, St b → b < w.heap.size → St' b) : Rep P w' St' t v p := by
  induction h with
  | int h => exact .int h
  | bool h => exact .bool h
  | str h => exact .str h
  | sl v h hts hl hr hc hm hv ih =>
    refine .sl v h hts hl hr hc ?_ (fun i j t' hi hj => ih i j t' hi hj)
    rcases hm with hm | ⟨b, off, ha, hb, hlt, hcell⟩
    · exact .inl hm
    · refine .inr ⟨b, off, ha, hs b hb hlt, (hw b hb hlt).2, fun i j hi hj => ?_⟩
      rw [World.cell?_of_block (w := w) (hw b hb hlt).1]
      exact hcell i j hi hj

section
variable {E : Env} {N : Nat}

abbrev St0 (E : Env) (N : Nat) := State (std E N)
abbrev AC0 (E : Env) (N : Nat) := AC (std E N)

/-- The blocks that may be written. -/
def InM (β : Nat → Option Nat) (σ : Nat → Option (Nat × Nat)) (s : St0 E N) (blk : Nat) : Prop :=
  (∃ b e, s.getB b = some e ∧ β b = some blk) ∨ (∃ id h cap, s.getH id = some h ∧ h.frozen = false ∧ σ id = some (blk, cap))

/-- Where new memory begins; the old blocks that may be seen. -/
structure Nz where
  n : Nat
  U : Nat → Prop

/-- A block that may be seen; new if so said. -/
def Old (n0 : Nz) (nw : Bool) (blk : Nat) : Prop := (nw = true → n0.n ≤ blk) ∧ (n0.n ≤ blk ∨ n0.U blk)
theorem Old.mono {n0 : Nz} {nw nw' : Bool} {blk : Nat} (h : Old n0 nw blk) (hh : nw' = true → nw = true) : Old n0 nw' blk := ⟨fun e => h.1 (hh e), h.2⟩
theorem Old.new {n0 : Nz} {nw : Bool} {blk : Nat} (h : n0.n ≤ blk) : Old n0 nw blk := ⟨fun _ => h, .inl h⟩

/-- The blocks in which shared data may lie. -/
def StB (n0 : Nz) (β : Nat → Option Nat) (σ : Nat → Option (Nat × Nat)) (s : St0 E N) (nw : Bool) (blk : Nat) : Prop :=
  ¬ InM β σ s blk ∧ Old n0 nw blk

def RelPtr (β : Nat → Option Nat) (s : St0 E N) (b off : Nat) (v : Value) : Prop :=
  ∃ blk, v = .pointer (some ⟨blk, off, none⟩) ∧ ∀ e, s.getB b = some e → β b = some blk

/-- How a header of an owned slice reads. -/
def OwnV (σ : Nat → Option (Nat × Nat)) (id : Nat) (n : Nat) (v : Value) : Prop :=
  (∃ blk cap, σ id = some (blk, cap) ∧ v = .slice (some ⟨blk, 0, none⟩) n cap) ∨ (σ id = none ∧ n = 0 ∧ ∃ a, v = .slice a 0 0)

/-- How an abstract cell reads. -/
def RelC (P : Program) (n0 : Nz) (β : Nat → Option Nat) (σ : Nat → Option (Nat × Nat)) (s : St0 E N) (w : World) : AC0 E N → Value → Prop
  | .int k i, v => v = .int k i
  | .bool b, v => v = .bool b
  | .str x, v => v = .string x
  | .nil e, v => ∃ t ts, lkOf P t = .sl e ∧ tysOf P e = some ts ∧ ∃ a, v = .slice a 0 0
  | .imm e nw l, v => ∃ t, lkOf P t = .sl e ∧ Rep P w (StB n0 β σ s nw) t v (.rows l)
  | .own e id, v => (∃ a len cap, v = .slice a len cap) ∧ ∀ h, s.getH id = some h → h.e = e ∧ OwnV σ id h.l.length v
  | .ptr b off, v => RelPtr β s b off v
  | .aptr b off n sz i inner, v => 0 ≤ i ∧ i < (n : Int) ∧ RelPtr β s b (off + i.toNat * sz + inner) v
  | .eptr id i off, v => 0 ≤ i ∧ ∃ blk o, v = .pointer (some ⟨blk, o, none⟩) ∧ ∀ h, s.getH id = some h → i < (h.l.length : Int) ∧
      ∃ ts cap, tysOf P h.e = some ts ∧ σ id = some (blk, cap) ∧ o = i.toNat * ts.length + off
  | .iptr e nw l i off, v => 0 ≤ i ∧ i < (l.length : Int) ∧ ∃ t ts blk boff len cap, lkOf P t = .sl e ∧ tysOf P e = some ts ∧
      Rep P w (StB n0 β σ s nw) t (.slice (some ⟨blk, boff, none⟩) len cap) (.rows l) ∧ v = .pointer (some ⟨blk, boff + (i.toNat * ts.length + off), none⟩)
  | .fn f caps, v => ∃ vs : List Value, v = .func (.func f) #[] vs.toArray ∧ vs.length = caps.length ∧
      ∀ (i b o : Nat), caps[i]? = some (b, o) → ∃ x : Value, vs[i]? = some x ∧ RelPtr β s b o x
  | .nilptr, v => v = .pointer none

def RelCs (P : Program) (n0 : Nz) (β : Nat → Option Nat) (σ : Nat → Option (Nat × Nat)) (s : St0 E N) (w : World) : List (AC0 E N) → List Value → Prop
  | [], [] => True
  | c :: cs, v :: vs => RelC P n0 β σ s w c v ∧ RelCs P n0 β σ s w cs vs
  | _, _ => False

def RelVal (P : Program) (n0 : Nz) (β : Nat → Option Nat) (σ : Nat → Option (Nat × Nat)) (s : St0 E N) (w : World) (x : Val (std E N)) (v : Value) : Prop :=
  RelCs P n0 β σ s w x.cs v.cells.toList ∧ match x.agg with
    | true => ∃ cs, v = .agg cs
    | false => v.oneCell' = true

def RelVals (P : Program) (n0 : Nz) (β : Nat → Option Nat) (σ : Nat → Option (Nat × Nat)) (s : St0 E N) (w : World) : List (Val (std E N)) → List Value → Prop
  | [], [] => True
  | c :: cs, v :: vs => RelVal P n0 β σ s w c v ∧ RelVals P n0 β σ s w cs vs
  | _, _ => False

def RelAV (P : Program) (n0 : Nz) (β : Nat → Option Nat) (σ : Nat → Option (Nat × Nat)) (s : St0 E N) (w : World) : AV (std E N) → Value → Prop
  | .val x, v => RelVal P n0 β σ s w x v
  | .tup xs, v => ∃ vs, v = .tuple vs ∧ RelVals P n0 β σ s w xs vs.toList

/-- The guards hold. -/
def Facts (a : Act) (gs : List (Nat × Bool)) : Prop := ∀ n b, (n, b) ∈ gs → a.tmps.getD n undef = .bool b

def RelTV (P : Program) (n0 : Nz) (β : Nat → Option Nat) (σ : Nat → Option (Nat × Nat)) (s : St0 E N) (a : Act) (w : World) (tv : TV (std E N)) (v : Value) : Prop :=
  (Facts a tv.gs ∧ RelAV P n0 β σ s w tv.v v) ∨ (¬ Facts a tv.gs ∧ v = undef)

def RelB (P : Program) (n0 : Nz) (β : Nat → Option Nat) (σ : Nat → Option (Nat × Nat)) (s : St0 E N) (w : World) (b : Nat) (e : BEnt (std E N)) : Prop :=
  ∃ blk cells el, β b = some blk ∧ w.heap[blk]? = some (.cells cells el (0, 0)) ∧ RelCs P n0 β σ s w e.cs cells.toList

def RelH (P : Program) (n0 : Nz) (β : Nat → Option Nat) (σ : Nat → Option (Nat × Nat)) (s : St0 E N) (w : World) (id : Nat) (h : HEnt (std E N)) : Prop :=
  ∃ t ts, lkOf P t = .sl h.e ∧ tysOf P h.e = some ts ∧ (∀ r ∈ h.l, r.length = ts.length) ∧
    ((σ id = none ∧ h.l = []) ∨
      ∃ blk cap cells el, σ id = some (blk, cap) ∧ w.heap[blk]? = some (.cells cells el (0, 0)) ∧ el = h.e ∧ cells.size = cap * ts.length ∧ h.l.length ≤ cap ∧
        Old n0 h.nw blk ∧
        ∃ v : Nat → Nat → Value, (∀ i j, i < h.l.length → j < ts.length → cells[i * ts.length + j]? = some (v i j)) ∧
          ∀ i j t', i < h.l.length → ts[j]? = some t' → Rep P w (StB n0 β σ s h.nw) t' (v i j) (pvAt h.l i j))

/-- The variables and the owned slices read so in memory, each in a block of its own. -/
structure Mem (P : Program) (n0 : Nz) (β : Nat → Option Nat) (σ : Nat → Option (Nat × Nat)) (s : St0 E N) (w : World) : Prop where
  B : ∀ b e, s.getB b = some e → RelB P n0 β σ s w b e
  H : ∀ id h, s.getH id = some h → RelH P n0 β σ s w id h
  uB : ∀ b b' e e' blk, s.getB b = some e → s.getB b' = some e' → β b = some blk → β b' = some blk → b = b'
  uH : ∀ id id' h h' blk cap cap', s.getH id = some h → s.getH id' = some h' → σ id = some (blk, cap) → σ id' = some (blk, cap') → id = id'
  uX : ∀ b e id h blk cap, s.getB b = some e → s.getH id = some h → β b = some blk → σ id = some (blk, cap) → False

/-- The abstract state reads so in the machine. -/
structure Sim (P : Program) (n0 : Nz) (nt : Nat) (β : Nat → Option Nat) (σ : Nat → Option (Nat × Nat)) (s : St0 E N) (a : Act) (w : World) : Prop where
  n0le : n0.n ≤ w.heap.size
  size : a.tmps.size = nt
  T : ∀ n tv, s.getT n = some tv → RelTV P n0 β σ s a w tv (a.tmps.getD n undef)
  M : Mem P n0 β σ s w

/-- The names in abstract cells. -/
def AC.names : AC0 E N → List Nat
  | .own _ id => [id]
  | .ptr b _ => [b]
  | .aptr b _ _ _ _ _ => [b]
  | .eptr id _ _ => [id]
  | .fn _ caps => caps.map (·.1)
  | _ => []
def namesCs : List (AC0 E N) → List Nat
  | [] => []
  | c :: r => c.names ++ namesCs r
def namesVals : List (Val (std E N)) → List Nat
  | [] => []
  | v :: r => namesCs v.cs ++ namesVals r
def AV.names : AV (std E N) → List Nat
  | .val v => namesCs v.cs
  | .tup vs => namesVals vs

/-- A name that does not occur. -/
structure Fresh (a : Act) (s : St0 E N) (n : Nat) : Prop where
  t : ∀ k tv, s.getT k = some tv → Facts a tv.gs → n ∉ tv.v.names
  b : ∀ k e, s.getB k = some e → n ≠ k ∧ n ∉ namesCs e.cs
  h : ∀ k e, s.getH k = some e → n ≠ k

/-- One stretch of a run. -/
structure Ext (P : Program) (new : Nat → Prop) (β : Nat → Option Nat) (σ : Nat → Option (Nat × Nat)) (s : St0 E N) (w : World)
    (β' : Nat → Option Nat) (σ' : Nat → Option (Nat × Nat)) (s' : St0 E N) (w' : World) : Prop where
  os : w'.os = w.os
  tape : w'.tape = w.tape
  output : w'.output = w.output
  size : w.heap.size ≤ w'.heap.size
  frame : ∀ b, b < w.heap.size → ¬ InM β σ s b → w'.heap[b]? = w.heap[b]?
  mem : ∀ b, InM β' σ' s' b → InM β σ s b ∨ w.heap.size ≤ b
  kB : ∀ b e', s'.getB b = some e' → ¬ new b → (∃ e, s.getB b = some e) ∧ β' b = β b
  kH : ∀ id h', s'.getH id = some h' → ¬ new id → ∃ h, s.getH id = some h ∧ σ' id = σ id ∧ h'.e = h.e ∧ h'.l.length = h.l.length


section
variable {P : Program} {n0 : Nz} {nt : Nat} {new : Nat → Prop} {β β' : Nat → Option Nat} {σ σ' : Nat → Option (Nat × Nat)} {s s' : St0 E N} {w w' : World} {a : Act}

theorem lt_of_heap {w : World} {b : Nat} {o : Obj} (h : w.heap[b]? = some o) : b < w.heap.size := by
  rcases Nat.lt_or_ge b w.heap.size with h' | h'
  · exact h'
  · simp [Array.getElem?_eq_none h'] at h

theorem Ext.rep (x : Ext P new β σ s w β' σ' s' w') {nw : Bool} {t : TypeId} {v : Value} {p : PV} (h : Rep P w (StB n0 β σ s nw) t v p) :
    Rep P w' (StB n0 β' σ' s' nw) t v p :=
  h.mono (fun b hb hlt => ⟨x.frame b hlt hb.1, Nat.lt_of_lt_of_le hlt x.size⟩)
    (fun b hb hlt => ⟨fun hm => (x.mem b hm).elim hb.1 (fun h => by omega), hb.2⟩)

theorem Ext.ptr (x : Ext P new β σ s w β' σ' s' w') {b off : Nat} {v : Value} (hn : ¬ new b) (h : RelPtr β s b off v) : RelPtr β' s' b off v := by
  obtain ⟨blk, rfl, hb⟩ := h
  refine ⟨blk, rfl, fun e he => ?_⟩
  obtain ⟨⟨e0, h0⟩, h1⟩ := x.kB b e he hn
  rw [h1]; exact hb e0 h0

theorem Ext.relC (x : Ext P new β σ s w β' σ' s' w') {c : AC0 E N} {v : Value} (hn : ∀ n ∈ c.names, ¬ new n) (h : RelC P n0 β σ s w c v) :
    RelC P n0 β' σ' s' w' c v := by
  cases c with
  | int k i => exact h
  | bool b => exact h
  | str x => exact h
  | nil e => exact h
  | nilptr => exact h
  | imm e nw l => obtain ⟨t, ht, hr⟩ := h; exact ⟨t, ht, x.rep hr⟩
  | own e id =>
    obtain ⟨h1, h2⟩ := h
    refine ⟨h1, fun h' hh => ?_⟩
    obtain ⟨h0, hh0, hs, he, hl⟩ := x.kH id h' hh (hn id (by simp [AC.names]))
    obtain ⟨e1, o1⟩ := h2 h0 hh0
    refine ⟨he.trans e1, ?_⟩
    unfold OwnV at o1 ⊢
    rw [hs, hl]; exact o1
  | ptr b off => exact x.ptr (hn b (by simp [AC.names])) h
  | aptr b off n sz i inner => exact ⟨h.1, h.2.1, x.ptr (hn b (by simp [AC.names])) h.2.2⟩
  | eptr id i off =>
    obtain ⟨h0, blk, o, hv, hk⟩ := h
    refine ⟨h0, blk, o, hv, fun h' hh => ?_⟩
    obtain ⟨e0, hh0, hs, he, hl⟩ := x.kH id h' hh (hn id (by simp [AC.names]))
    obtain ⟨hi, ts, cap, hts, hsg, ho⟩ := hk e0 hh0
    exact ⟨by rw [hl]; exact hi, ts, cap, by rw [he]; exact hts, by rw [hs]; exact hsg, ho⟩
  | iptr e nw l i off =>
    obtain ⟨h0, h1, t, ts, blk, boff, len, cap, ht, hts, hr, hv⟩ := h
    exact ⟨h0, h1, t, ts, blk, boff, len, cap, ht, hts, x.rep hr, hv⟩
  | fn f caps =>
    obtain ⟨vs, hv, hl, hp⟩ := h
    refine ⟨vs, hv, hl, fun i b o hc => ?_⟩
    obtain ⟨y, hy, hr⟩ := hp i b o hc
    exact ⟨y, hy, x.ptr (hn b (by simp only [AC.names]; exact List.mem_map.2 ⟨(b, o), List.mem_of_getElem? hc, rfl⟩)) hr⟩

theorem Ext.relCs (x : Ext P new β σ s w β' σ' s' w') : ∀ {cs : List (AC0 E N)} {vs : List Value}, (∀ n ∈ namesCs cs, ¬ new n) → RelCs P n0 β σ s w cs vs →
    RelCs P n0 β' σ' s' w' cs vs
  | [], [], _, h => h
  | c :: cs, v :: vs, hn, h => ⟨x.relC (fun n hm => hn n (by simp [namesCs, hm])) h.1, x.relCs (fun n hm => hn n (by simp [namesCs, hm])) h.2⟩
  | [], _ :: _, _, h => h.elim
  | _ :: _, [], _, h => h.elim

theorem Ext.relVal (x : Ext P new β σ s w β' σ' s' w') {y : Val (std E N)} {v : Value} (hn : ∀ n ∈ namesCs y.cs, ¬ new n) (h : RelVal P n0 β σ s w y v) :
    RelVal P n0 β' σ' s' w' y v := ⟨x.relCs hn h.1, h.2⟩

theorem Ext.relVals (x : Ext P new β σ s w β' σ' s' w') : ∀ {cs : List (Val (std E N))} {vs : List Value}, (∀ n ∈ namesVals cs, ¬ new n) → RelVals P n0 β σ s w cs vs →
    RelVals P n0 β' σ' s' w' cs vs
  | [], [], _, h => h
  | c :: cs, v :: vs, hn, h => ⟨x.relVal (fun n hm => hn n (by simp [namesVals, hm])) h.1, x.relVals (fun n hm => hn n (by simp [namesVals, hm])) h.2⟩
  | [], _ :: _, _, h => h.elim
  | _ :: _, [], _, h => h.elim

theorem Ext.relAV (x : Ext P new β σ s w β' σ' s' w') {y : AV (std E N)} {v : Value} (hn : ∀ n ∈ y.names, ¬ new n) (h : RelAV P n0 β σ s w y v) :
    RelAV P n0 β' σ' s' w' y v := by
  cases y with
  | val y => exact x.relVal hn h
  | tup ys => obtain ⟨vs, hv, hr⟩ := h; exact ⟨vs, hv, x.relVals hn hr⟩

theorem Ext.refl (P : Program) (new : Nat → Prop) (β : Nat → Option Nat) (σ : Nat → Option (Nat × Nat)) (s : St0 E N) (w : World) : Ext P new β σ s w β σ s w :=
  ⟨rfl, rfl, rfl, Nat.le_refl _, fun _ _ _ => rfl, fun _ h => .inl h, fun b e h _ => ⟨⟨e, h⟩, rfl⟩, fun id h hh _ => ⟨h, hh, rfl, rfl, rfl⟩⟩

theorem Ext.trans {new2 : Nat → Prop} {β'' : Nat → Option Nat} {σ'' : Nat → Option (Nat × Nat)} {s'' : St0 E N} {w'' : World}
    (x : Ext P new β σ s w β' σ' s' w') (y : Ext P new2 β' σ' s' w' β'' σ'' s'' w'') : Ext P (fun n => new n ∨ new2 n) β σ s w β'' σ'' s'' w'' where
  os := y.os.trans x.os
  tape := y.tape.trans x.tape
  output := y.output.trans x.output
  size := Nat.le_trans x.size y.size
  frame b hb hm := by
    rw [y.frame b (Nat.lt_of_lt_of_le hb x.size) (fun h => (x.mem b h).elim hm (fun h => by omega)), x.frame b hb hm]
  mem b h := (y.mem b h).elim (fun h => x.mem b h) (fun h => .inr (Nat.le_trans x.size h))
  kB b e h hn := by
    obtain ⟨⟨e1, h1⟩, e2⟩ := y.kB b e h (fun h => hn (.inr h))
    obtain ⟨⟨e3, h3⟩, e4⟩ := x.kB b e1 h1 (fun h => hn (.inl h))
    exact ⟨⟨e3, h3⟩, e2.trans e4⟩
  kH id h hh hn := by
    obtain ⟨h1, hh1, a1, a2, a3⟩ := y.kH id h hh (fun h => hn (.inr h))
    obtain ⟨h2, hh2, b1, b2, b3⟩ := x.kH id h1 hh1 (fun h => hn (.inl h))
    exact ⟨h2, hh2, a1.trans b1, a2.trans b2, a3.trans b3⟩

theorem Ext.weaken {new2 : Nat → Prop} (x : Ext P new β σ s w β' σ' s' w') (h : ∀ n, new n → new2 n) : Ext P new2 β σ s w β' σ' s' w' :=
  { x with kB := fun b e hb hn => x.kB b e hb (fun k => hn (h _ k)), kH := fun id e hb hn => x.kH id e hb (fun k => hn (h _ k)) }

/-- Less is known: things forgotten, or frozen. -/
structure Sub (s s' : St0 E N) : Prop where
  b : ∀ n e', s'.getB n = some e' → ∃ e, s.getB n = some e ∧ e'.cs = e.cs
  h : ∀ n h', s'.getH n = some h' → ∃ h, s.getH n = some h ∧ h'.e = h.e ∧ h'.l = h.l ∧ h'.nw = h.nw ∧ (h'.frozen = false → h.frozen = false)

theorem Sub.inM (x : Sub s s') {b : Nat} (h : InM β σ s' b) : InM β σ s b := by
  rcases h with ⟨n, e, he, hb⟩ | ⟨id, h, cap, hh, hf, hs⟩
  · obtain ⟨e0, h0, _⟩ := x.b n e he; exact .inl ⟨n, e0, h0, hb⟩
  · obtain ⟨h0, hh0, _, _, _, hf0⟩ := x.h id h hh; exact .inr ⟨id, h0, cap, hh0, hf0 hf, hs⟩

theorem Sub.ext (x : Sub s s') (P : Program) (new : Nat → Prop) (β : Nat → Option Nat) (σ : Nat → Option (Nat × Nat)) (w : World) : Ext P new β σ s w β σ s' w where
  os := rfl
  tape := rfl
  output := rfl
  size := Nat.le_refl _
  frame _ _ _ := rfl
  mem b h := .inl (x.inM h)
  kB n e h _ := by obtain ⟨e0, h0, _⟩ := x.b n e h; exact ⟨⟨e0, h0⟩, rfl⟩
  kH n e h _ := by obtain ⟨h0, hh0, h1, h2, _⟩ := x.h n e h; exact ⟨h0, hh0, rfl, h1, by rw [h2]⟩

theorem Sub.mem (x : Sub s s') (m : Mem P n0 β σ s w) : Mem P n0 β σ s' w where
  B n e h := by
    obtain ⟨e0, h0, hc⟩ := x.b n e h
    obtain ⟨blk, cells, el, hb, hh, hr⟩ := m.B n e0 h0
    exact ⟨blk, cells, el, hb, hh, (x.ext P (fun _ => False) β σ w).relCs (fun _ _ => id) (by rw [hc]; exact hr)⟩
  H n e h := by
    obtain ⟨h0, hh0, h1, h2, h3, h4⟩ := x.h n e h
    obtain ⟨t, ts, ht, hts, hr, hm⟩ := m.H n h0 hh0
    refine ⟨t, ts, by rw [h1]; exact ht, by rw [h1]; exact hts, by rw [h2]; exact hr, ?_⟩
    rcases hm with ⟨ha, hb⟩ | ⟨blk, cap, cells, el, ha, hb, hel, hc, hd, he, v, hv, hrep⟩
    · exact .inl ⟨ha, by rw [h2]; exact hb⟩
    · refine .inr ⟨blk, cap, cells, el, ha, hb, by rw [h1]; exact hel, hc, by rw [h2]; exact hd, by rw [h3]; exact he, v, by rw [h2]; exact hv, fun i j t' hi hj => ?_⟩
      rw [h2] at hi ⊢
      rw [h3]
      exact (x.ext P (fun _ => False) β σ w).rep (hrep i j t' hi hj)
  uB b b' e e' blk h h' hb hb' := by
    obtain ⟨e0, h0, _⟩ := x.b b e h
    obtain ⟨e1, h1, _⟩ := x.b b' e' h'
    exact m.uB b b' e0 e1 blk h0 h1 hb hb'
  uH b b' e e' blk cap cap' h h' hb hb' := by
    obtain ⟨e0, h0, _⟩ := x.h b e h
    obtain ⟨e1, h1, _⟩ := x.h b' e' h'
    exact m.uH b b' e0 e1 blk cap cap' h0 h1 hb hb'
  uX b e id h blk cap hb hh h1 h2 := by
    obtain ⟨e0, h0, _⟩ := x.b b e hb
    obtain ⟨h3, hh3, _⟩ := x.h id h hh
    exact m.uX b e0 id h3 blk cap h0 hh3 h1 h2

theorem Sub.of_same (hb : ∀ n, s'.getB n = s.getB n) (hh : ∀ n, s'.getH n = s.getH n) : Sub s s' :=
  ⟨fun n e h => ⟨e, by rw [← hb]; exact h, rfl⟩, fun n e h => ⟨e, by rw [← hh]; exact h, rfl, rfl, rfl, id⟩⟩

end

end
end Go.Px
