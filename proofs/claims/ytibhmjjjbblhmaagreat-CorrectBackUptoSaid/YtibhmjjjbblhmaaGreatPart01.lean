/- Part 1. -/
import GoSem.Step
import Derived.WalkKit
set_option linter.unusedVariables false
set_option linter.unusedSimpArgs false
section
namespace Go.Px
inductive Leaf (I B S L : Type) where
 | int (i : I)
 | bool (b : B)
 | str (s : S)
 | rows (l : L)
structure Alg where
 I : Type
 B : Type
 S : Type
 L : Type
 C : Type
 M : Type
 lit : IntKind → Int → I
 add : IntKind → I → I → I
 sub : IntKind → I → I → I
 mul : IntKind → I → I → I
 quo : IntKind → I → I → I
 rem : IntKind → I → I → I
 conv : IntKind → I → I
 le : I → I → B
 lt : I → I → B
 eqI : I → I → B
 tt : B
 ff : B
 bnot : B → B
 band : B → B → B
 beq : B → B → B
 iteI : B → I → I → I
 iteB : B → B → B → B
 iteS : B → S → S → S
 iteL : B → L → L → L
 slit : ByteArray → S
 eqS : S → S → B
 ltS : S → S → B
 slen : S → I
 sidx : S → I → I
 ssub : S → I → I → S
 scat : S → S → S
 sbytes : S → L
 lnil : L
 llit : List (List (Leaf I B S L)) → L
 lapp : L → L → L
 llen : L → I
 lset : L → I → Nat → List (Leaf I B S L) → L
 lsub : L → I → I → L
 lrep : I → List (Leaf I B S L) → L
 rI : L → I → Nat → I
 rB : L → I → Nat → B
 rS : L → I → Nat → S
 rL : L → I → Nat → L
 cI : C → Nat → I
 cB : C → Nat → B
 cS : C → Nat → S
 cL : C → Nat → L
 isTag : C → Nat → B
 inb : I → I → B
 inr : I → I → I → B
 small : I → Nat → B
 ret : List (Leaf I B S L) → M
 fail : String → M
 assert : B → M → M
 ite : B → M → M → M
 bind : M → (C → M) → M
 call : Nat → List Nat → List (Leaf I B S L) → M
 fix : ((List (Leaf I B S L) → M) → C → M) → List (Leaf I B S L) → M
abbrev Alg.Lf (O : Alg) : Type := Leaf O.I O.B O.S O.L
inductive AC (O : Alg) where
 | int (k : IntKind) (i : O.I)
 | bool (b : O.B)
 | str (s : O.S)
 | nil (e : TypeId)
 | imm (e : TypeId) (nw : Bool) (l : O.L)
 | own (e : TypeId) (id : Nat)
 | ptr (b off : Nat)
 | aptr (b off n sz : Nat) (i : O.I) (inner : Nat)
 | eptr (id : Nat) (i : O.I) (off : Nat)
 | iptr (e : TypeId) (nw : Bool) (l : O.L) (i : O.I) (off : Nat)
 | fn (f : FuncId) (caps : List (Nat × Nat))
 | nilptr
structure Val (O : Alg) where
 agg : Bool
 cs : List (AC O)
inductive AV (O : Alg) where
 | val (v : Val O)
 | tup (vs : List (Val O))
structure TV (O : Alg) where
 gs : List (Nat × Bool)
 v : AV O
structure BEnt (O : Alg) where
 cs : List (AC O)
 dirty : Bool
structure HEnt (O : Alg) where
 e : TypeId
 frozen : Bool
 nw : Bool
 l : O.L
 dirty : Bool
inductive TM (α : Type) where
 | e
 | leaf (a : α)
 | node (l r : TM α)
def TM.get {α : Type} : Nat → TM α → Nat → Option α
 | 0, .leaf a, _ => some a
 | d + 1, .node l r, k => match Nat.beq (k % 2) 0 with
  | true => TM.get d l (k / 2)
  | false => TM.get d r (k / 2)
 | _, _, _ => none
def TM.kids {α : Type} : TM α → TM α × TM α
 | .node l r => (l, r)
 | _ => (.e, .e)
def TM.set {α : Type} : Nat → TM α → Nat → Option α → TM α
 | 0, _, _, some a => .leaf a
 | 0, _, _, none => .e
 | d + 1, t, k, a => match t.kids with
  | (l, r) => match Nat.beq (k % 2) 0 with
   | true => .node (TM.set d l (k / 2) a) r
   | false => .node l (TM.set d r (k / 2) a)
def AE {α : Type} : List (Nat × α) → Nat → Option α
 | [], _ => none
 | (j, a) :: l, k => match Nat.beq j k with
  | true => some a
  | false => AE l k
def So {α : Type} : List (Nat × α) → Nat → List (Nat × α)
 | [], _ => []
 | (j, a) :: l, k => match Nat.beq j k with
  | true => So l k
  | false => (j, a) :: So l k
def O6 {α : Type} (l : List (Nat × α)) (k : Nat) : Option α → List (Nat × α)
 | some a => (k, a) :: So l k
 | none => So l k
def Mq : Nat := 9
structure State (O : Alg) where
 tm : TM (TV O)
 bx : List (Nat × BEnt O)
 hp : List (Nat × HEnt O)
 st : Nat
def Cv : Nat := 512
def CQ {α : Type} (t : TM α) (n : Nat) : Option α := match Nat.blt n Cv with
 | true => TM.get Mq t n
 | false => none
def Fx {α : Type} (t : TM α) (n : Nat) (v : Option α) : TM α := match Nat.blt n Cv with
 | true => TM.set Mq t n v
 | false => t
def State.getT {O : Alg} (s : State O) (n : Nat) : Option (TV O) := CQ s.tm n
def State.getB {O : Alg} (s : State O) (n : Nat) : Option (BEnt O) := AE s.bx n
def State.getH {O : Alg} (s : State O) (n : Nat) : Option (HEnt O) := AE s.hp n
structure Wr (O : Alg) where
 ts : List (Nat × Option (TV O)) := []
 bs : List (Nat × Option (BEnt O)) := []
 hs : List (Nat × Option (HEnt O)) := []
def State.applyT {O : Alg} (t : TM (TV O)) : List (Nat × Option (TV O)) → TM (TV O)
 | [] => t
 | (n, v) :: r => State.applyT (Fx t n v) r
def A5 {α : Type} (t : List (Nat × α)) : List (Nat × Option α) → List (Nat × α)
 | [] => t
 | (n, v) :: r => A5 (O6 t n v) r
def State.apply {O : Alg} (s : State O) (w : Wr O) : State O :=
 { tm := State.applyT s.tm w.ts, bx := A5 s.bx w.bs, hp := A5 s.hp w.hs, st := s.st }
def FW (k : Nat) : Nat := 2 ^ k
def Pl (f : Nat → Nat) {α : Type} : List (Nat × α) → Nat
 | [] => 0
 | (n, _) :: r => FW (f n) ||| Pl f r
def Wr.mask {O : Alg} (w : Wr O) : Nat :=
 Pl (fun n => 3 * n) w.ts ||| Pl (fun n => 3 * n + 1) w.bs ||| Pl (fun n => 3 * n + 2) w.hs
inductive RM (O : Alg) (α : Type) where
 | ret (a : α)
 | fail (w : String)
 | t (n : Nat) (f : Option (TV O) → RM O α)
 | b (n : Nat) (f : Option (BEnt O) → RM O α)
 | h (n : Nat) (f : Option (HEnt O) → RM O α)
def RM.bind {O : Alg} {α β : Type} : RM O α → (α → RM O β) → RM O β
 | .ret a, f => f a
 | .fail w, _ => .fail w
 | .t n g, f => .t n fun v => (g v).bind f
 | .b n g, f => .b n fun v => (g v).bind f
 | .h n g, f => .h n fun v => (g v).bind f
instance {O : Alg} : Monad (RM O) where
 pure := RM.ret
 bind := RM.bind
def RM.run {O : Alg} {α : Type} (s : State O) : RM O α → Nat → Except String (α × Nat)
 | .ret a, m => .ok (a, m)
 | .fail w, _ => .error w
 | .t n g, m => RM.run s (g (s.getT n)) (m ||| FW (3 * n))
 | .b n g, m => RM.run s (g (s.getB n)) (m ||| FW (3 * n + 1))
 | .h n g, m => RM.run s (g (s.getH n)) (m ||| FW (3 * n + 2))
def RM.ofOpt {O : Alg} {α : Type} (w : String) : Option α → RM O α
 | some a => .ret a
 | none => .fail w
def RM.guard {O : Alg} (b : Bool) (w : String) : RM O Unit := match b with
 | true => .ret ()
 | false => .fail w
inductive LK where
 | int (k : IntKind) | bool | str | sl (e : TypeId) | ptr | fn | other
def RG : IntKind → IntKind → Bool
 | .i8, .i8 | .i16, .i16 | .i32, .i32 | .i64, .i64 | .u8, .u8 | .u16, .u16 | .u32, .u32 | .u64, .u64 => true
 | _, _ => false
def AG (P : Program) (t : TypeId) : LK := match P.underlying t with
 | some (.int k) => .int k
 | some .bool => .bool
 | some .string => .str
 | some (.slice e) => .sl e
 | some (.pointer _) => .ptr
 | some (.func _ _ _) => .fn
 | _ => .other
def DN {α : Type} : Nat → List α → List α
 | 0, _ => []
 | n + 1, l => l ++ DN n l
def Ls {α : Type} : List (Option (List α)) → Option (List α)
 | [] => some []
 | none :: _ => none
 | some a :: r => match Ls r with
  | some b => some (a ++ b)
  | none => none
def BN (P : Program) : Nat → TypeId → Option (List TypeId)
 | 0, _ => none
 | n + 1, t => match P.underlying t with
  | some (.struct fs) => Ls (fs.toList.map fun f => BN P n f.type)
  | some (.array k e) => (BN P n e).map (DN k)
  | some (.tuple _) | some .invalid | some (.named _ _) | none => none
  | some _ => some [t]
def CF : Nat := 20
def AK (P : Program) (t : TypeId) : Option (List TypeId) := match BN P CF t with
 | some l => match Nat.beq l.length (P.cellsOf t) && Nat.blt 0 l.length with
  | true => some l
  | false => none
 | none => none
def AQ (P : Program) (t : TypeId) : Bool := match P.underlying t with
 | some (.struct _) | some (.array _ _) => true
 | _ => false
def VX (P : Program) (t : TypeId) : Option TypeId := match P.underlying t with
 | some (.slice e) => some e
 | _ => none
def AM : List Nat → List Nat → Bool
 | [], [] => true
 | a :: l, b :: r => match Nat.beq a b with
  | true => AM l r
  | false => false
 | _, _ => false
def Di (n : Nat) : List Nat → Bool
 | [] => false
 | m :: l => match Nat.beq n m with
  | true => true
  | false => Di n l
def Rk (P : Program) (e : TypeId) (off : Nat) (t : TypeId) : Option (List TypeId) :=
 match AK P e, AK P t with
 | some l, some r => match AM ((l.drop off).take r.length) r with
  | true => some r
  | false => none
 | _, _ => none
section
variable {O : Alg} (P : Program)
def Xj (t : TypeId) (v : Value) : Option (AC O) := match AG P t, v with
 | .int k, .int k' n => match RG k k' with
  | true => some (.int k (O.lit k n))
  | false => none
 | .bool, .bool b => some (.bool (match b with | true => O.tt | false => O.ff))
 | .str, .string s => some (.str (O.slit s))
 | .sl e, .slice none 0 0 => match AK P e with
  | some _ => some (.nil e)
  | none => none
 | .ptr, .pointer none => some .nilptr
 | _, _ => none
def PO : List TypeId → List Value → Option (List (AC O))
 | [], [] => some []
 | t :: ts, v :: vs => match Xj P t v, PO ts vs with
  | some a, some r => some (a :: r)
  | _, _ => none
 | _, _ => none
def Uu (t : TypeId) (v : Value) : Option (Val O) := match v with
 | .agg cs => match AK P t with
  | some ts => match PO P ts cs.toList with
   | some l => some { agg := true, cs := l }
   | none => none
  | none => none
 | v => match Xj P t v with
  | some c => some { agg := false, cs := [c] }
  | none => none
def SR (t : TypeId) : Option (Val O) := match P.info? t with
 | some i => match i.zero with
  | some v => Uu P t v
  | none => none
 | none => none
def Mm (nw : Bool) (l : O.L) (i : O.I) : Nat → List TypeId → Option (List (AC O))
 | _, [] => some []
 | j, t :: ts => match Mm nw l i (j + 1) ts with
  | none => none
  | some r => match AG P t with
   | .int k => some (.int k (O.rI l i j) :: r)
   | .bool => some (.bool (O.rB l i j) :: r)
   | .str => some (.str (O.rS l i j) :: r)
   | .sl e => some (.imm e nw (O.rL l i j) :: r)
   | _ => none
def Ae (own nw : Bool) (c : O.C) : Nat → Nat → List TypeId → Option (List (AC O) × List (Nat × HEnt O))
 | _, _, [] => some ([], [])
 | j, q, t :: ts => match AG P t with
  | .int k => (Ae own nw c (j + 1) q ts).map fun (r, h) => (.int k (O.cI c j) :: r, h)
  | .bool => (Ae own nw c (j + 1) q ts).map fun (r, h) => (.bool (O.cB c j) :: r, h)
  | .str => (Ae own nw c (j + 1) q ts).map fun (r, h) => (.str (O.cS c j) :: r, h)
  | .sl e => match own with
   | true => (Ae own nw c (j + 1) (q + 1) ts).map fun (r, h) => (.own e q :: r, (q, { e, frozen := false, nw, l := O.cL c j, dirty := true }) :: h)
   | false => (Ae own nw c (j + 1) q ts).map fun (r, h) => (.imm e nw (O.cL c j) :: r, h)
  | _ => none
def iW : List TypeId → Option (List O.Lf)
 | [] => some []
 | t :: ts => match iW ts with
  | none => none
  | some r => match AG P t with
   | .int k => some (.int (O.lit k 0) :: r)
   | .bool => some (.bool O.ff :: r)
   | .str => some (.str (O.slit ByteArray.empty) :: r)
   | .sl _ => some (.rows O.lnil :: r)
   | _ => none
end
def W2 : List (Nat × Bool) → List (Nat × Bool) → Bool
 | [], _ => true
 | (n, b) :: r, ctx => match ctx.any (fun (m, c) => Nat.beq n m && (b == c)) with
  | true => W2 r ctx
  | false => false
inductive StepRes (O : Alg) where
 | plain (as : List O.B) (w : Wr O)
 | call (g : Option O.B) (f : FuncId) (fns : List Nat) (args : List O.Lf) (dflt : List O.Lf) (next : O.C → Option (Wr O))
 | inl (f : FuncId) (args : List (AV O))
structure CI where
 f : FuncId
 fns : List Nat
 own : Bool
 nw : Bool
 gives : List Bool := []
structure Cfg where
 gam : List CI
 imm : Bool := false
 old : Bool := false
 ie : List Nat := []
def SB : List CI → Nat → List Nat → Option CI
 | [], _, _ => none
 | c :: l, f, fns => match Nat.beq c.f f && AM c.fns fns with
  | true => some c
  | false => SB l f fns
section
variable {O : Alg} (P : Program) (cfg : Cfg)
def one (c : AC O) : AV O := .val { agg := false, cs := [c] }
def ev (ctx : List (Nat × Bool)) (T : TypeId) : Operand → RM O (AV O)
 | .tmp n => .t n fun
  | some tv => match W2 tv.gs ctx with
   | true => .ret tv.v
   | false => .fail "a guarded temporary"
  | none => .fail "no such temporary"
 | .const v => match Uu P T v with
  | some v => .ret (.val v)
  | none => .fail "a constant"
 | .func f => .ret (one (.fn f []))
 | .global _ => .fail "a global"
def evV (ctx : List (Nat × Bool)) (T : TypeId) (x : Operand) : RM O (Val O) := (ev P ctx T x).bind fun
 | .val v => .ret v
 | .tup _ => .fail "a tuple"
def evC (ctx : List (Nat × Bool)) (T : TypeId) (x : Operand) : RM O (AC O) := (evV P ctx T x).bind fun v =>
 match v.agg, v.cs with
 | false, [c] => .ret c
 | _, _ => .fail "not one cell"
def evI (ctx : List (Nat × Bool)) : Operand → RM O (O.I)
 | .const (.int k n) => .ret (O.lit k n)
 | .tmp n => .t n fun
  | some tv => match W2 tv.gs ctx, tv.v with
   | true, .val ⟨false, [.int _ i]⟩ => .ret i
   | _, _ => .fail "no integer"
  | none => .fail "no such temporary"
 | _ => .fail "no integer"
def Xe : List (Nat × Bool) → RM O (Option O.B)
 | [] => .ret none
 | (n, want) :: r => .t n fun
  | some ⟨_, .val ⟨false, [.bool b]⟩⟩ => (Xe r).bind fun g =>
   let c := match want with | true => b | false => O.bnot b
   .ret (some (match g with | none => c | some g => O.band g c))
  | _ => .fail "no guard"
def aE (ops : List Oper) (o : Oper) : RM O (List (Nat × Bool)) := match o.guard with
 | none => .ret []
 | some (j, want) => match (ops[j]?).bind (·.dst) with
  | some d => .t d fun
   | some tv => .ret ((d, want) :: tv.gs)
   | none => .fail "no such guard"
  | none => .fail "a guard without a value"
def Yg (g : Option O.B) (a : O.B) : O.B := match g with
 | none => a
 | some g => O.bnot (O.band g (O.bnot a))
def Xp (b : O.B) : AC O → AC O → Option (AC O)
 | .int k x, .int k' y => match RG k k' with
  | true => some (.int k (O.iteI b x y))
  | false => none
 | .bool x, .bool y => some (.bool (O.iteB b x y))
 | .str x, .str y => some (.str (O.iteS b x y))
 | .imm e nw x, .imm e' nw' y => match Nat.beq e e' with
  | true => some (.imm e (nw && nw') (O.iteL b x y))
  | false => none
 | _, _ => none
def B7 (b : O.B) : List (AC O) → List (AC O) → Option (List (AC O))
 | [], [] => some []
 | x :: xs, y :: ys => match Xp b x y, B7 b xs ys with
  | some c, some r => some (c :: r)
  | _, _ => none
 | _, _ => none
def kE (op : BinOp) (a b : O.I) : Option O.B := match op with
 | .eql => some (O.eqI a b)
 | .neq => some (O.bnot (O.eqI a b))
 | .lss => some (O.lt a b)
 | .leq => some (O.le a b)
 | .gtr => some (O.lt b a)
 | .geq => some (O.le b a)
 | _ => none
def eqC : AC O → AC O → Option O.B
 | .int k a, .int k' b => match RG k k' with
  | true => some (O.eqI a b)
  | false => none
 | .bool a, .bool b => some (O.beq a b)
 | .str a, .str b => some (O.eqS a b)
 | _, _ => none
def IA : List (AC O) → List (AC O) → Option O.B
 | [], [] => some O.tt
 | [x], [y] => eqC x y
 | x :: xs, y :: ys => match eqC x y, IA xs ys with
  | some a, some r => some (O.band a r)
  | _, _ => none
 | _, _ => none
def Rq : LK → AC O → Bool
 | .int k, .int k' _ => RG k k'
 | .bool, .bool _ => true
 | .str, .str _ => true
 | _, _ => false
def BF : List TypeId → List (AC O) → Bool
 | [], [] => true
 | t :: ts, c :: cs => match Rq (AG P t) c with
  | true => BF ts cs
  | false => false
 | _, _ => false
def SQ : Nat → List Field → Bool
 | _, [] => true
 | off, f :: fs => match Nat.beq f.offset off && (f.name != "_") with
  | true => SQ (off + P.cellsOf f.type) fs
  | false => false
def NR : Option (List Nat) → Option (List Nat) → Bool
 | some a, some b => AM a b
 | _, _ => false
def Sk : Nat → TypeId → Bool
 | 0, _ => false
 | n + 1, t => match P.underlying t with
  | some .bool | some (.int _) | some .string => NR (AK P t) (some [t])
  | some (.struct fs) => !P.stoodInHeld t && SQ P 0 fs.toList && fs.toList.all (fun f => Sk n f.type) && NR (AK P t) (Ls (fs.toList.map fun f => AK P f.type))
  | some (.array k e) => Sk n e && NR (AK P t) ((AK P e).map (DN k))
  | _ => false
def Gd : Operand → Bool
 | .const (.int _ n) => !(n == 0)
 | _ => false
def bn : AC O → RM O (O.Lf × List (Nat × Option (HEnt O)) × Bool)
 | .int _ i => .ret (.int i, [], true)
 | .bool b => .ret (.bool b, [], true)
 | .str s => .ret (.str s, [], true)
 | .nil _ => .ret (.rows O.lnil, [], true)
 | .imm _ nw l => .ret (.rows l, [], nw)
 | .own _ id => .h id fun
  | some h => .ret (.rows h.l, [(id, some { h with frozen := true, dirty := true })], h.nw)
  | none => .fail "a slice that is gone"
 | _ => .fail "no data"
def M7 : List (AC O) → RM O (List O.Lf × List (Nat × Option (HEnt O)) × Bool)
 | [] => .ret ([], [], true)
 | c :: r => (bn c).bind fun (a, h, n) => (M7 r).bind fun (as, hs, ns) => .ret (a :: as, h ++ hs, n && ns)
def CW {α : Type} : List α → Nat → List α → Option (List α)
 | l, _, [] => some l
 | [], _, _ :: _ => none
 | x :: l, 0, y :: ys => (CW l 0 ys).map (y :: ·)
 | x :: l, n + 1, ys => (CW l n ys).map (x :: ·)
def GM {α : Type} (l : List α) (off n : Nat) : Option (List α) :=
 let r := (l.drop off).take n
 match Nat.beq r.length n with
 | true => some r
 | false => none
def O4 (f : Nat → Option (List (AC O))) (i : O.I) : Nat → Option (List (AC O))
 | 0 => f 0
 | k + 1 => match O4 f i k, f (k + 1) with
  | some r, some c => B7 (O.eqI i (O.lit .i64 ((k + 1 : Nat) : Int))) c r
  | _, _ => none
def bz (off sz inner : Nat) (i : O.I) (v : List (AC O)) : Nat → List (AC O) → Option (List (AC O))
 | 0, cs => some cs
 | k + 1, cs => match GM cs (off + k * sz + inner) v.length with
  | none => none
  | some old => match B7 (O.eqI i (O.lit .i64 (k : Int))) v old with
   | none => none
   | some new => match CW cs (off + k * sz + inner) new with
    | none => none
    | some cs => bz off sz inner i v k cs
def bI (T : TypeId) : AC O → RM O (List (AC O))
 | .ptr b off => .b b fun
  | some e => RM.ofOpt "load" (GM e.cs off (P.cellsOf T))
  | none => .fail "no such variable"
 | .aptr b off n sz i inner => .b b fun
  | some e =>
   match n with
   | 0 => .fail "an array of no elements"
   | n + 1 => RM.ofOpt "load of an element" (O4 (fun k => GM e.cs (off + k * sz + inner) (P.cellsOf T)) i n)
  | none => .fail "no such variable"
 | .eptr id i off => .h id fun
  | some h => match Rk P h.e off T with
   | some ts => RM.ofOpt "load of a row" (Mm P h.nw h.l i off ts)
   | none => .fail "a row of another type"
  | none => .fail "a slice that is gone"
 | .iptr e nw l i off => match Rk P e off T with
  | some ts => RM.ofOpt "load of a row" (Mm P nw l i off ts)
  | none => .fail "a row of another type"
 | _ => .fail "load no address"
def UY : AC O → RM O (TypeId × O.L × Bool)
 | .nil e => .ret (e, O.lnil, true)
 | .imm e nw l => .ret (e, l, nw)
 | .own _ id => .h id fun
  | some h => .ret (h.e, h.l, h.nw)
  | none => .fail "a slice that is gone"
 | _ => .fail "no slice"
def PL (T : TypeId) (f : Nat) : Option Field := match P.underlying T with
 | some (.struct fs) => fs.toList[f]?
 | _ => none
def Eb (n : Nat) : AC O → Option (AC O)
 | .ptr b off => some (.ptr b (off + n))
 | .aptr b off m sz i inner => some (.aptr b off m sz i (inner + n))
 | .eptr id i off => some (.eptr id i (off + n))
 | .iptr e nw l i off => some (.iptr e nw l i (off + n))
 | _ => none
def VI (place : Nat → Option (Nat × TypeId)) (ctx : List (Nat × Bool)) : List (Nat × Operand) → List (AC O) → RM O (List (AC O))
 | [], cs => .ret cs
 | (i, x) :: r, cs => match place i with
  | none => .fail "no such part"
  | some (off, T) => (evV P ctx T x).bind fun v => (RM.guard (Nat.beq v.cs.length (P.cellsOf T) && Nat.blt 0 v.cs.length) "a part of another size").bind fun _ =>
   match CW cs off v.cs with
   | some cs => VI place ctx r cs
   | none => .fail "a part that does not fit"
def G6 {α : Type} (n : Nat) : Nat → List α → List (List α)
 | 0, _ => []
 | k + 1, l => l.take n :: G6 n k (l.drop n)
def bO : List (List (AC O)) → RM O (List (List O.Lf) × List (Nat × Option (HEnt O)) × Bool)
 | [] => .ret ([], [], true)
 | c :: r => (M7 c).bind fun (a, h, n) => (bO r).bind fun (as, hs, ns) => .ret (a :: as, h ++ hs, n && ns)
def Up (lt : O.I → O.I → O.B) : AC O → List (AC O) → Option (AC O)
 | c, [] => some c
 | .int k x, .int k' y :: r => match RG k k' with
  | true => Up lt (.int k (O.iteI (lt y x) y x)) r
  | false => none
 | _, _ => none
def eh (ctx : List (Nat × Bool)) (T : TypeId) : List Operand → RM O (List (AC O))
 | [] => .ret []
 | x :: r => (evC P ctx T x).bind fun c => (eh ctx T r).bind fun l => .ret (c :: l)
def cY : AC O → Bool
 | .int _ _ | .bool _ | .str _ | .nil _ => true
 | _ => false
def A7 : LK → AC O → Bool
 | .int k, .int k' _ => RG k k'
 | .bool, .bool _ => true
 | .str, .str _ => true
 | .sl e, .nil e' => Nat.beq e e'
 | .sl e, .imm e' _ _ => Nat.beq e e'
 | .sl e, .own e' _ => Nat.beq e e'
 | _, _ => false
def AS : List TypeId → List (AC O) → Bool
 | [], [] => true
 | t :: ts, c :: cs => match A7 (AG P t) c with
  | true => AS ts cs
  | false => false
 | _, _ => false
def Mw (ts : List TypeId) : List (List (AC O)) → Bool
 | [] => true
 | r :: rs => match AS P ts r with
  | true => Mw ts rs
  | false => false
def Wq : Operand → Operand → Bool
 | .tmp a, .tmp b => Nat.beq a b
 | .const (.int _ a), .const (.int _ b) => decide (a = b)
 | _, _ => false
def da (T : TypeId) (v : List (AC O)) : AC O → RM O (Wr O)
  | .ptr b off => .b b fun
    | some e => (RM.guard (Nat.beq v.length (P.cellsOf T) && Nat.blt 0 v.length) "store size").bind fun _ =>
      (RM.ofOpt "store" (CW e.cs off v)).bind fun cs => .ret { bs := [(b, some { cs, dirty := true })] }
    | none => .fail "no such variable"
  | .aptr b off n sz i inner => .b b fun
    | some e =>
      (RM.guard (Nat.beq v.length (P.cellsOf T) && Nat.blt 0 v.length) "store size").bind fun _ =>
      (RM.ofOpt "store of an element" (bz off sz inner i v n e.cs)).bind fun cs => .ret { bs := [(b, some { cs, dirty := true })] }
    | none => .fail "no such variable"
  | .eptr id i off => .h id fun
    | some h => (RM.guard (!h.frozen) "a store into a shared slice").bind fun _ =>
      match Rk P h.e off T with
      | some ts => (RM.guard (Nat.beq v.length ts.length && Nat.beq v.length (P.cellsOf T)) "store size").bind fun _ =>
        (M7 v).bind fun (ls, fr, nw) => (RM.guard (AS P ts v && !Di id (fr.map (·.1))) "store kinds").bind fun _ =>
          .ret { hs := fr ++ [(id, some { h with l := O.lset h.l i off ls, nw := h.nw && nw, dirty := true })] }
      | none => .fail "a row of another type"
    | none => .fail "a slice that is gone"
  | _ => .fail "store no address"
def cJ (ctx : List (Nat × Bool)) : List Operand → RM O (List (Nat × Nat))
 | [] => .ret []
 | x :: r => (evC P ctx 0 x).bind fun
  | .ptr b off => (cJ ctx r).bind fun l => .ret ((b, off) :: l)
  | _ => .fail "makeFunc captured"
def Xk (ctx : List (Nat × Bool)) : List TypeId → List Operand → RM O (List (AV O))
 | [], [] => .ret []
 | t :: ts, x :: xs => (ev P ctx t x).bind fun v => (Xk ctx ts xs).bind fun r => .ret (v :: r)
 | _, _ => .fail "arguments"
def Rt (used : List Nat) : List (AC O) → RM O (List O.Lf × List Nat)
 | [] => .ret ([], used)
 | .own _ id :: r => .h id fun
  | some h => match !h.frozen && !Di id used with
   | true => (Rt (id :: used) r).bind fun (ls, u) => .ret (.rows h.l :: ls, u)
   | false => .fail "a slice that cannot be handed over"
  | none => .fail "a slice that is gone"
 | .imm _ _ _ :: _ => .fail "a shared slice cannot be handed over"
 | c :: r => (bn c).bind fun (l, _, _) => (Rt used r).bind fun (ls, u) => .ret (l :: ls, u)
def fK : AC O → Bool
 | .ptr .. | .aptr .. | .eptr .. | .iptr .. | .fn .. | .nilptr => false
 | _ => true
def G5 : List (AV O) → Option (List Nat)
 | [] => some []
 | .val ⟨false, [.fn f []]⟩ :: r => (G5 r).map (f :: ·)
 | .val v :: r => match v.cs.all fK with
  | true => G5 r
  | false => none
 | .tup _ :: _ => none
def J4 : List Bool → List Nat → List (AV O) → RM O (List O.Lf × List (Nat × Option (HEnt O)) × List Nat)
 | _, used, [] => .ret ([], [], used)
 | gv, used, .val ⟨false, [.fn f []]⟩ :: r => J4 gv.tail used r
 | gv, used, .val v :: r => match gv.headD false with
  | true => (Rt used v.cs).bind fun (ls, u) => (J4 gv.tail u r).bind fun (ls', fr, u') => .ret (ls ++ ls', fr, u')
  | false => (M7 v.cs).bind fun (ls, fr, _) => (J4 gv.tail used r).bind fun (ls', fr', u') => .ret (ls ++ ls', fr ++ fr', u')
 | _, _, .tup _ :: _ => .fail "arguments"
def X1 (used : List Nat) : List (Nat × Option (HEnt O)) → Bool
 | [] => true
 | (n, _) :: r => !Di n used && X1 used r
def A3 (own nw : Bool) (c : O.C) : Nat → Nat → List TypeId → Option (List (Val O) × List (Nat × HEnt O))
 | _, _, [] => some ([], [])
 | j, q, t :: ts => match AK P t with
  | none => none
  | some l => match Ae P own nw c j q l with
   | none => none
   | some (cs, h) => match A3 own nw c (j + l.length) (q + h.length) ts with
    | none => none
    | some (vs, hs) => some ({ agg := AQ P t, cs } :: vs, h ++ hs)
def Ie : List (Val O) → AV O
 | [v] => .val v
 | vs => .tup vs
def Ic (P : Program) : List TypeId → Option (List TypeId)
 | [] => some []
 | t :: ts => match AK P t, Ic P ts with
  | some a, some r => some (a ++ r)
  | _, _ => none
def VR (P : Program) : List TypeId → Nat
 | [] => 0
 | t :: ts => (match AG P t with | .sl _ => 1 | _ => 0) + VR P ts
def Xh (P : Program) (e : TypeId) : Bool := match AK P e with
 | some l => Nat.beq (VR P l) 0
 | none => false
def BS (P : Program) (o : Oper) : Nat := match o.op with
 | .call c => match c.callee with
  | .builtin _ => 1
  | _ => 16
 | .alloc _ | .box _ _ | .buildSlice _ _ _ | .makeSlice _ _ _ | .convert _ _ _ => 1
 | _ => 0
def GG : List TypeId → List (AV O) → Bool
 | [], [] => true
 | t :: ts, v :: vs => (match AG P t, v with
  | .fn, .val ⟨false, [.fn _ []]⟩ => true
  | .fn, _ => false
  | _, .val ⟨false, [.fn _ []]⟩ => false
  | _, .val v => match AK P t with
   | some l => v.agg == AQ P t && AS P l v.cs
   | none => false
  | _, .tup _ => false) && GG ts vs
 | _, _ => false
def aL {α : Type} (g : Option α) (b : Bool) : Bool := match g with
 | none => b
 | some _ => false
def bm (ctx : List (Nat × Bool)) (g : Option O.B) (id : Nat) (d : Option Nat) (ci : CI) (fn : Func) (fr : List (Nat × Option (HEnt O))) (u : List Nat) : O.C → Option (Wr O) := fun c =>
 match A3 P (aL g ci.own) ci.nw c 0 id fn.resultTypes.toList with
  | none => none
  | some (vs, nh) => match Nat.ble nh.length 16 with
   | true => some { ts := match d with | some d => [(d, some ⟨ctx, Ie vs⟩)] | none => [], hs := (match ci.nw with | true => [] | false => fr) ++ (u.map (fun n => (n, none)) ++ nh.map fun (n, h) => (n, some h)) }
   | false => none
def U6 (gives : List Bool) : Bool := Nat.blt 8 gives.length
def VM (gives : List Bool) (used : List Nat) (fr : List (Nat × Option (HEnt O))) : Bool := X1 used fr && (!U6 gives || used.isEmpty)
def XO (ctx : List (Nat × Bool)) (g : Option O.B) (id : Nat) (d : Option Nat) (f : FuncId) (caps : List (Nat × Nat)) (args : List (AV O)) : RM O (StepRes O) :=
  let inl : RM O (StepRes O) := match g with
    | none => .ret (.inl f (args ++ caps.map fun (b, o) => one (.ptr b o)))
    | some _ => .fail "a call under a guard that has no contract"
  match caps with
  | _ :: _ => inl
  | [] => match G5 args with
    | none => inl
    | some fns => match SB cfg.gam f fns with
      | none => inl
      | some ci => match P.funcs[f]? with
        | none => .fail "no such function"
        | some fn => (RM.guard (fn.body.isSome && !(fn.name == "runtime.NumGoroutine") && GG P fn.params.toList args) "a callee").bind fun _ =>
          (J4 ci.gives [] args).bind fun (ls, fr, used) => match (Ic P fn.resultTypes.toList).bind (iW P), VM ci.gives used fr with
          | some dm, true => .ret (.call g f fns ls dm (bm P ctx g id d ci fn fr used))
          | _, _ => .fail "a result that is no data"
abbrev Iu (O : Alg) := List O.B × AV O × List (Nat × Option (HEnt O))
def okP (as : List O.B) (v : AV O) : RM O (Iu O) := .ret (as, v, [])
def M1 (T : TypeId) (n : Nat) : Bool := (P.underlying T).isSome && (AQ P T || Nat.beq n 1)
def fX (ctx : List (Nat × Bool)) (ty : TypeId) (n : Nat) (a b : Operand) : RM O (Iu O) := .t n fun
  | some tv => match W2 tv.gs ctx, tv.v with
    | true, .val ⟨false, [.bool c]⟩ =>
      (evV P ((n, true) :: ctx) ty a).bind fun x => (evV P ((n, false) :: ctx) ty b).bind fun y =>
      match x.agg == y.agg, B7 c x.cs y.cs with
      | true, some cs => okP [] (.val { agg := x.agg, cs })
      | _, _ => .fail "pick"
    | _, _ => .fail "pick no bool"
  | none => .fail "no such temporary"
def eY (op : BinOp) (T : TypeId) (y : Operand) (a b : Val O) : RM O (Iu O) := match a.agg, b.agg, a.cs, b.cs with
 | false, false, [.int k i], [.int k' j] => match RG k k' with
  | false => .fail "operands of different kinds"
  | true => match op with
   | .add => okP [] (one (.int k (O.add k i j)))
   | .sub => okP [] (one (.int k (O.sub k i j)))
   | .mul => okP [] (one (.int k (O.mul k i j)))
   | .quo => okP (match Gd y with | true => [] | false => [O.bnot (O.eqI j (O.lit k 0))]) (one (.int k (O.quo k i j)))
   | .rem => okP (match Gd y with | true => [] | false => [O.bnot (O.eqI j (O.lit k 0))]) (one (.int k (O.rem k i j)))
   | op => match kE op i j with
    | some c => okP [] (one (.bool c))
    | none => .fail "an operator on integers"
 | false, false, [.str s], [.str t] => match op with
  | .eql => okP [] (one (.bool (O.eqS s t)))
  | .neq => okP [] (one (.bool (O.bnot (O.eqS s t))))
  | .lss => okP [] (one (.bool (O.ltS s t)))
  | .add => okP [O.small (O.slen s) 1, O.small (O.slen t) 1] (one (.str (O.scat s t)))
  | _ => .fail "an operator on strings"
 | p, q, xs, ys => match AK P T with
  | none => .fail "an operator"
  | some ts => match p == AQ P T && q == AQ P T && Sk P CF T && !P.eqGuardType P.depth T && BF P ts xs && BF P ts ys, op, IA xs ys with
   | true, .eql, some c => okP [] (one (.bool c))
   | true, .neq, some c => okP [] (one (.bool (O.bnot c)))
   | _, _, _ => .fail "an operator"
def Zm (src dst : TypeId) (c : AC O) : RM O (Iu O) := match P.underlying src with
 | none => .fail "convert"
 | some _ => match AG P dst, c with
  | .int k, .int _ i => okP [] (one (.int k (O.conv k i)))
  | .str, .str s => okP [] (one (.str s))
  | _, _ => .fail "convert"
def RW (T : TypeId) (p : AC O) (ix : Operand) (i : O.I) : RM O (Iu O) := match P.underlying T with
 | some (.array n e) => (RM.guard (Nat.blt 0 (P.cellsOf e)) "indexAddr element").bind fun _ => match ix with
  | .const (.int _ c) => match decide (0 ≤ c ∧ c < n), Eb (c.toNat * P.cellsOf e) p with
   | true, some p => okP [] (one p)
   | _, _ => .fail "indexAddr"
  | _ => match p with
   | .ptr b off => okP [O.inb i (O.lit .i64 n)] (one (.aptr b off n (P.cellsOf e) i 0))
   | _ => .fail "indexAddr an array in an array"
 | some (.slice e) => match p with
  | .own e' h => (UY (AC.own e' h : AC O)).bind fun (_, l, _) => (RM.guard (Nat.beq e e') "indexAddr element").bind fun _ =>
   okP [O.inb i (O.llen l)] (one (.eptr h i 0))
  | .imm e' nw l => (RM.guard (Nat.beq e e') "indexAddr element").bind fun _ => okP [O.inb i (O.llen l)] (one (.iptr e' nw l i 0))
  | .nil e => okP [O.ff] (one (.iptr e true O.lnil i 0))
  | _ => .fail "indexAddr no slice"
 | _ => .fail "indexAddr type"
def Yl (T : TypeId) (v : Val O) (ix : Operand) (i : O.I) : RM O (Iu O) := match P.underlying T, v.agg, v.cs with
 | some .string, false, [.str s] => okP [O.inb i (O.slen s)] (one (.int .u8 (O.sidx s i)))
 | some (.array n e), true, cs => match ix with
  | .const (.int _ c) => match decide (0 ≤ c ∧ c < n), GM cs (c.toNat * P.cellsOf e) (P.cellsOf e) with
   | true, some cs => (RM.guard (M1 P e cs.length) "index size").bind fun _ => okP [] (.val { agg := AQ P e, cs })
   | _, _ => .fail "index"
  | _ => match n with
   | 0 => .fail "an array of no elements"
   | n + 1 => match O4 (fun k => GM cs (k * P.cellsOf e) (P.cellsOf e)) i n with
    | some cs => (RM.guard (M1 P e cs.length) "index size").bind fun _ =>
     okP [O.inb i (O.lit .i64 ((n + 1 : Nat) : Int))] (.val { agg := AQ P e, cs })
    | none => .fail "index of an array"
 | _, _, _ => .fail "index type"
def YQ (ctx : List (Nat × Bool)) (d : O.I) : Option Operand → RM O O.I
 | none => .ret d
 | some x => evI ctx x
def Ud : Option Operand → Bool
 | none => true
 | some (.const (.int _ n)) => decide (n = 0)
 | _ => false
def gn (ctx : List (Nat × Bool)) (e' : TypeId) (c : AC O) (lo hi : Option Operand) : RM O (Iu O) :=
  (UY c).bind fun (e, l, nw) => (RM.guard (Nat.beq e e') "slice").bind fun _ =>
  (YQ ctx (O.lit .i64 0) lo).bind fun a => (YQ ctx (O.llen l) hi).bind fun b => match c with
  | .own _ h => .h h fun
    | some en => .ret ([O.inr a b (O.llen l)], one (.imm e nw (O.lsub l a b)), [(h, some { en with frozen := true, dirty := true })])
    | none => .fail "a slice that is gone"
  | _ => okP [O.inr a b (O.llen l)] (one (.imm e nw (O.lsub l a b)))
def ZE (ctx : List (Nat × Bool)) (T : TypeId) (c : AC O) (lo hi mx : Option Operand) : RM O (Iu O) := match mx with
 | some m => match P.underlying T, c, Ud lo, Ud hi && hi.isSome, Ud (some m) with
  | some (.slice e'), .imm e _ _, true, true, true => match Nat.beq e e' with
   | true => okP [] (one (.nil e))
   | false => .fail "slice"
  | _, _, _, _, _ => .fail "slice with three bounds"
 | none => match P.underlying T with
  | some .string => match c with
   | .str s => (YQ ctx (O.lit .i64 0) lo).bind fun l => (YQ ctx (O.slen s) hi).bind fun h =>
    okP [O.inr l h (O.slen s)] (one (.str (O.ssub s l h)))
   | _ => .fail "slice"
  | some (.slice e') => gn ctx e' c lo hi
  | _ => .fail "slice"
def Uw (ctx : List (Nat × Bool)) (ty : TypeId) : Op → RM O (Iu O)
  | .move x | .assign x => (ev P ctx ty x).bind fun v => okP [] v
  | .pick (.tmp n) a b => fX P ctx ty n a b
  | .build T parts => match SR P T with
    | none => .fail "build"
    | some z => match z.agg with
      | false => .fail "build"
      | true => (match P.underlying T with
        | some (.struct fs) => (RM.guard (fs.toList.all fun f => (P.info? f.type).isSome) "build fields").bind fun _ =>
          VI P (fun i => (fs.toList[i]?).map fun (f : Field) => (f.offset, f.type)) ctx parts.toList z.cs
        | some (.array _ e) => (RM.guard (Nat.blt 0 (P.cellsOf e)) "build element").bind fun _ => VI P (fun i => some (i * P.cellsOf e, e)) ctx parts.toList z.cs
        | _ => .fail "build type").bind fun cs => okP [] (.val { agg := true, cs })
  | .load T a => (evC P ctx T a).bind fun p => (bI P T p).bind fun cs =>
    (RM.guard (M1 P T cs.length) "load size").bind fun _ => okP [] (.val { agg := AQ P T, cs })
  | .nilCheck x => (evC P ctx ty x).bind fun p => match p with
    | .ptr b off => okP [] (one (.ptr b off))
    | .eptr i x off => okP [] (one (.eptr i x off))
    | .iptr e nw l i off => okP [] (one (.iptr e nw l i off))
    | .aptr b off n sz i inner => okP [] (one (.aptr b off n sz i inner))
    | _ => .fail "nilCheck"
  | .binOp op T x y yT => (evV P ctx T x).bind fun a => (evV P ctx yT y).bind fun b => eY P op T y a b
  | .unOp op T x => (evC P ctx T x).bind fun c => match op, c with
    | .not, .bool b => okP [] (one (.bool (O.bnot b)))
    | .neg, .int k i => okP [] (one (.int k (O.sub k (O.lit k 0) i)))
    | _, _ => .fail "a unary operator"
  | .convert src dst x => (evC P ctx src x).bind fun c => Zm P src dst c
  | .extract x i => (ev P ctx ty x).bind fun
    | .tup vs => match vs[i]? with
      | some v => okP [] (.val v)
      | none => .fail "extract"
    | .val _ => .fail "extract"
  | .field T x f => (evV P ctx T x).bind fun v => match PL P T f with
    | none => .fail "field"
    | some fd => match v.agg, GM v.cs fd.offset (P.cellsOf fd.type) with
      | true, some cs => (RM.guard (M1 P fd.type cs.length) "field size").bind fun _ => okP [] (.val { agg := AQ P fd.type, cs })
      | _, _ => .fail "field"
  | .fieldAddr T x f => (evC P ctx T x).bind fun p => match PL P T f with
    | none => .fail "fieldAddr"
    | some fd => (RM.guard (!Nat.beq (P.cellsOf fd.type) 0) "a field of no size").bind fun _ => match Eb fd.offset p with
      | some p => okP [] (one p)
      | none => .fail "fieldAddr no address"
  | .indexAddr T x ix => (evC P ctx T x).bind fun p => (evI ctx ix).bind fun i => RW P T p ix i
  | .index T x ix => (evV P ctx T x).bind fun v => (evI ctx ix).bind fun i => Yl P T v ix i
  | .slice T x lo hi mx => (evC P ctx T x).bind fun c => ZE P ctx T c lo hi mx
  | .makeFunc (.func f) first caps => match first.toList with
    | [] => (cJ P ctx caps.toList).bind fun l => okP [] (one (.fn f l))
    | _ => .fail "makeFunc"
  | .call c => match c.callee with
    | .builtin .len => match c.args.toList, c.argTypes.toList with
      | [x], [T] => match P.underlying T with
        | some (.array n _) => okP [] (one (.int .i64 (O.lit .i64 n)))
        | some .string => (evC P ctx T x).bind fun
          | .str s => okP [] (one (.int .i64 (O.slen s)))
          | _ => .fail "len"
        | some (.slice _) => (evC P ctx T x).bind fun v => (UY v).bind fun (_, l, _) => okP [] (one (.int .i64 (O.llen l)))
        | _ => .fail "len"
      | _, _ => .fail "len"
    | .builtin .min => (eh P ctx ty c.args.toList).bind fun
      | v :: u :: r => match Up O.lt v (u :: r) with
        | some m => okP [] (one m)
        | none => .fail "min"
      | _ => .fail "min"
    | .builtin .max => (eh P ctx ty c.args.toList).bind fun
      | v :: u :: r => match Up (fun a b => O.lt b a) v (u :: r) with
        | some m => okP [] (one m)
        | none => .fail "max"
      | _ => .fail "max"
    | _ => .fail "call"
  | _ => .fail "an operation"
abbrev jo (O : Alg) := List O.B × AC O × Wr O
def I9 (ctx : List (Nat × Bool)) (id : Nat) : Op → RM O (jo O)
  | .alloc T => match SR P T with
    | some v => (RM.guard (Nat.beq v.cs.length (P.cellsOf T)) "alloc size").bind fun _ => .ret ([], .ptr id 0, { bs := [(id, some { cs := v.cs, dirty := true })] })
    | none => .fail "alloc"
  | .box T x => (evV P ctx T x).bind fun v => .ret ([], .ptr id 0, { bs := [(id, some { cs := v.cs, dirty := true })] })
  | .buildSlice T len parts => match VX P T with
    | none => .fail "buildSlice"
    | some e => match SR P e, AK P e with
      | some z, some ts => (RM.guard (Nat.ble (len * P.cellsOf e) 100000 && Nat.beq z.cs.length (P.cellsOf e)) "buildSlice size").bind fun _ =>
        (VI P (fun i => some (i * P.cellsOf e, e)) ctx parts.toList (DN len z.cs)).bind fun cs =>
        (bO (G6 (P.cellsOf e) len cs)).bind fun (rows, fr, nw) => (RM.guard (Mw P ts (G6 (P.cellsOf e) len cs)) "buildSlice kinds").bind fun _ =>
        .ret ([], .own e id, { hs := fr ++ [(id, some { e, frozen := false, nw, l := O.llit rows, dirty := true })] })
      | _, _ => .fail "buildSlice zero"
  | .makeSlice T len cap => match VX P T with
    | none => .fail "makeSlice"
    | some e => match SR P e, P.info? e, AK P e with
      | some z, some ti, some ts => (evI ctx len).bind fun n => (RM.guard (Wq len cap && Mw P ts [z.cs] && z.cs.all cY) "makeSlice cap").bind fun _ =>
        (M7 z.cs).bind fun (ls, _, _) =>
        .ret ([O.small n ti.bytes], .own e id, { hs := [(id, some { e, frozen := false, nw := true, l := O.lrep n ls, dirty := true })] })
      | _, _, _ => .fail "makeSlice zero"
  | .call c => match c.callee, c.args.toList, c.argTypes.toList with
    | .builtin .append, [x, y], [T, U] => match VX P T, VX P U with
      | some e, some e' => (RM.guard (Nat.beq T U) "append types").bind fun _ => (evC P ctx T x).bind fun a => (evC P ctx U y).bind fun b =>
        (UY b).bind fun (eb, lb, nb') =>
        let nb := nb' || Xh P e
        match P.info? e, AK P e, SR (O := O) P e with
        | some ti, some _, some z => (RM.guard (Nat.beq e eb && Nat.beq z.cs.length (P.cellsOf e)) "append elements").bind fun _ => match a with
          | .nil ea => (RM.guard (Nat.beq e ea) "append elements").bind fun _ =>
            .ret ([O.small (O.llen lb) ti.bytes], .own e id, { hs := [(id, some { e, frozen := false, nw := nb, l := lb, dirty := true })] })
          | .own ea i => .h i fun
            | some h => (RM.guard (!h.frozen && Nat.beq e ea && Nat.beq e h.e) "append to a shared slice").bind fun _ =>
              .ret ([O.small (O.llen (O.lapp h.l lb)) ti.bytes], .own e id,
                { hs := [(i, none), (id, some { e, frozen := false, nw := h.nw && nb, l := O.lapp h.l lb, dirty := true })] })
            | none => .fail "append a slice that is gone"
          | _ => .fail "append to a slice that came in"
        | _, _, _ => .fail "append type"
      | _, _ => .fail "append types"
    | _, _, _ => .fail "call"
  | .convert src dst x => (evC P ctx src x).bind fun c => match AG P src, AG P dst, c with
    | .str, .sl e, .str s => match AG P e, AK P e with
      | .int .u8, some [t] => match AG P t with
        | .int .u8 => .ret ([], .imm e true (O.sbytes s), {})
        | _ => .fail "convert"
      | _, _ => .fail "convert"
    | _, _, _ => .fail "convert"
  | _ => .fail "an operation"
def eT : Op → Bool
 | .alloc _ | .box _ _ | .buildSlice _ _ _ | .makeSlice _ _ _ => true
 | .convert _ dst _ => match AG P dst with
  | .sl _ => true
  | _ => false
 | .call c => match c.callee with
  | .builtin .append => true
  | _ => false
 | _ => false
def XB : List (Nat × Option (HEnt O)) → RM O (List (Nat × Option (HEnt O)))
 | [] => .ret []
 | (n, _) :: r => .h n fun
  | some h => (XB r).bind fun l => .ret ((n, some { h with frozen := true, dirty := true }) :: l)
  | none => .fail "a slice that is gone"
def LC (ops : List Oper) (o : Oper) (id : Nat) : RM O (StepRes O) :=
  (aE ops o).bind fun ctx => (Xe ctx).bind fun g => match o.op, eT P o.op with
  | .store T a x, _ => match g with
    | some _ => .fail "a store under a guard"
    | none => (evC P ctx T a).bind fun p => (evV P ctx T x).bind fun v => (da P T v.cs p).bind fun w => match o.dst with
      | none => .ret (.plain [] w)
      | some _ => .fail "a store with a value"
  | .call ⟨.value f, args, _⟩, _ => (ev P ctx 0 f).bind fun
    | .val ⟨false, [.fn f caps]⟩ => match P.funcs[f]? with
      | none => .fail "no such function"
      | some fn => (RM.guard (fn.body.isSome && !(fn.name == "runtime.NumGoroutine")) "a callee without a body").bind fun _ => (Xk P ctx (fn.params.toList.take args.size) args.toList).bind fun args => XO P cfg ctx g id o.dst f caps args
    | _ => .fail "call no function"
  | op, true => match g, o.dst with
    | none, some d => (I9 P ctx id op).bind fun (as, c, w) => .ret (.plain as { w with ts := [(d, some ⟨ctx, one c⟩)] })
    | _, _ => .fail "an operation under a guard"
  | op, false => match o.dst with
    | some d => (Uw P ctx o.type op).bind fun (as, v, fr) => (XB fr).bind fun fr => .ret (.plain (as.map (Yg g)) { ts := [(d, some ⟨ctx, v⟩)], hs := fr })
    | none => .fail "an operation without a value"
end
structure Ms where
 t : Nat
 r : Nat
def Ms.or (a b : Ms) : Ms := ⟨a.t ||| b.t, a.r ||| b.r⟩
def Sh : Option Ms → Option Ms → Option Ms
 | some a, some b => some (a.or b)
 | some a, none => some a
 | none, b => b
def YO (a : Ms) : Option Ms → Option Ms
 | some b => some (a.or b)
 | none => none
structure An where
 nrm : Option Ms
 ret : Option Ms
 exts : List (Nat × Ms)
def Ar : List (Nat × Ms) → Nat → Option Ms
 | [], _ => none
 | (j, m) :: l, k => match Nat.beq j k with
  | true => some m
  | false => Ar l k
def Kt : List (Nat × Ms) → Nat → List (Nat × Ms)
 | [], _ => []
 | (j, m) :: l, k => match Nat.beq j k with
  | true => Kt l k
  | false => (j, m) :: Kt l k
def SF (l : List (Nat × Ms)) (k : Nat) (m : Ms) : List (Nat × Ms) := match Ar l k with
 | some m' => (k, m'.or m) :: Kt l k
 | none => (k, m) :: l
def PE : List (Nat × Ms) → List (Nat × Ms) → List (Nat × Ms)
 | [], r => r
 | (k, m) :: l, r => PE l (SF r k m)
def XR (ops : List Oper) : Nat → Nat → Nat
 | 0, t => t
 | n + 1, t => match ops.find? (fun o => match o.dst with | some d => Nat.beq d t | none => false) with
  | some o => match o.op with
   | .fieldAddr _ (.tmp x) _ | .indexAddr _ (.tmp x) _ | .nilCheck (.tmp x) | .move (.tmp x) | .load _ (.tmp x) | .assign (.tmp x) => XR ops n x
   | _ => t
  | none => t
def dn (P : Program) (all : List Oper) : Operand → Nat
 | .tmp a => match all.find? (fun o => match o.dst with | some d => Nat.beq d a | none => false) with
  | some o => match AG P o.type with
   | .ptr | .fn => FW (XR all 40 a)
   | _ => 0
  | none => 0
 | _ => 0
def bJ (P : Program) (all : List Oper) : List Oper → Nat
 | [] => 0
 | o :: r => (match o.op with
  | .store _ (.tmp a) _ => FW (XR all 40 a)
  | .call c => match c.callee with
   | .value f => c.args.toList.foldl (fun m x => m ||| dn P all x) (dn P all f)
   | .builtin .append => match c.args.toList with
    | .tmp a :: _ => FW (XR all 40 a)
    | _ => 0
   | _ => 0
  | _ => 0) ||| bJ P all r
def VZ : List Oper → Nat
 | [] => 0
 | o :: r => (match o.dst with | some d => FW d | none => 0) ||| VZ r
def an (P : Program) : Code → An
 | .skip => ⟨some ⟨0, 0⟩, none, []⟩
 | .region _ ops _ => ⟨some ⟨VZ ops.toList, bJ P ops.toList ops.toList⟩, none, []⟩
 | .seq a b => match an P a with
  | ⟨none, r, e⟩ => ⟨none, r, e⟩
  | ⟨some m, r, e⟩ => match an P b with
   | ⟨n', r', e'⟩ => ⟨YO m n', Sh r (YO m r'), PE (e'.map fun (k, x) => (k, m.or x)) e⟩
 | .cond _ a b => match an P a, an P b with
  | ⟨n, r, e⟩, ⟨n', r', e'⟩ => ⟨Sh n n', Sh r r', PE e e'⟩
 | .block id b => match an P b with
  | ⟨n, r, e⟩ => ⟨Sh n (Ar e id), r, Kt e id⟩
 | .loop b => match an P b with
  | ⟨n, r, e⟩ => ⟨none, match n with | some m => YO m r | none => r, match n with | some m => e.map (fun (k, x) => (k, m.or x)) | none => e⟩
 | .exit id => ⟨none, none, [(id, ⟨0, 0⟩)]⟩
 | .ret => ⟨none, some ⟨0, 0⟩, []⟩
 | _ => ⟨none, none, []⟩
structure Cn where
 nrm : Nat
 ret : Nat
 exts : List (Nat × Nat)
def ef : List (Nat × Nat) → Nat → Nat
 | [], _ => 0
 | (j, m) :: l, k => match Nat.beq j k with
  | true => m + ef l k
  | false => ef l k
def cnt : Code → Cn
 | .skip | .region .. => ⟨1, 0, []⟩
 | .seq a b => match cnt a, cnt b with
  | ⟨0, r, e⟩, _ => ⟨0, r, e⟩
  | ⟨n, r, e⟩, ⟨n', r', e'⟩ => ⟨n', r + r', e ++ e'⟩
 | .cond _ a b => match cnt a, cnt b with
  | ⟨n, r, e⟩, ⟨n', r', e'⟩ => ⟨n + n', r + r', e ++ e'⟩
 | .block id b => match cnt b with
  | ⟨n, r, e⟩ => ⟨n + ef e id, r, e.filter fun (k, _) => !Nat.beq k id⟩
 | .loop b => match cnt b with
  | ⟨n, r, e⟩ => ⟨0, (match r with | 0 => 0 | _ => 1), e.map fun (k, _) => (k, 1)⟩
 | .exit id => ⟨0, 0, [(id, 1)]⟩
 | .ret => ⟨0, 1, []⟩
 | _ => ⟨0, 0, []⟩
def ax : Operand → Nat
 | .tmp t => FW t
 | _ => 0
def Jn (nt : Nat) : List Oper → Bool
 | [] => true
 | o :: r => (match o.dst with | some d => Nat.blt d nt | none => true) && Jn nt r
def CJ (nt : Nat) : Code → Bool
 | .region _ ops _ => Jn nt ops.toList
 | .seq a b => CJ nt a && CJ nt b
 | .cond _ a b => CJ nt a && CJ nt b
 | .block _ b => CJ nt b
 | .loop b => CJ nt b
 | _ => true
def cF : List Oper → Nat
 | [] => 0
 | o :: r => o.op.operands.toList.foldl (fun m x => m ||| ax x) 0 ||| cF r
def QM : Code → Nat
 | .region _ ops _ => cF ops.toList
 | .seq a b => QM a ||| QM b
 | .cond c a b => ax c ||| QM a ||| QM b
 | .block _ b | .loop b | .scope b => QM b
 | _ => 0
def Rj : Code → Nat
 | .region _ ops _ => ops.size
 | .seq a b => Rj a + Rj b
 | .cond _ a b => 4 + Rj a + Rj b
 | .block _ b => Rj b
 | .loop _ => 1000
 | _ => 0
inductive Ex where
 | nrm
 | ext (id : Nat)
 | ret
structure Lv where
 nrm : Nat
 ret : Nat
 exts : List (Nat × Nat)
def iY : List (Nat × Nat) → Nat → Nat
 | [], _ => 0
 | (j, m) :: l, k => match Nat.beq j k with
  | true => m
  | false => iY l k
def Lv.of (lv : Lv) : Ex → Nat
 | .nrm => lv.nrm
 | .ret => lv.ret
 | .ext id => iY lv.exts id
def Lv.all (lv : Lv) : Nat := lv.exts.foldl (fun m (_, x) => m ||| x) (lv.nrm ||| lv.ret)
inductive SlotC where
 | int (k : IntKind) | bool | str | own (e : TypeId) (nw : Bool) | imm (e : TypeId) (nw : Bool)
inductive Slot where
 | t (n : Nat) (agg : Bool) (cs : List SlotC)
 | b (id : Nat) (cs : List SlotC)
def eX (cfg : Cfg) (e : Nat) : Bool := cfg.imm || Di e cfg.ie
def kQ {O : Alg} (s : State O) (cfg : Cfg) : AC O → Option SlotC
 | .int k _ => some (.int k)
 | .bool _ => some .bool
 | .str _ => some .str
 | .nil e => some (match eX cfg e with | true => .imm e (!cfg.old) | false => .own e (!cfg.old))
 | .imm e nw _ => some (.imm e (nw && !cfg.old))
 | .own e id => match s.getH id with
  | some h => some (match h.frozen || eX cfg e with | true => .imm e (h.nw && !cfg.old) | false => .own e (h.nw && !cfg.old))
  | none => none
 | _ => none
def br {O : Alg} (s : State O) (cfg : Cfg) : List (AC O) → Option (List SlotC)
 | [] => some []
 | c :: r => match kQ s cfg c, br s cfg r with
  | some a, some l => some (a :: l)
  | _, _ => none
section
variable {O : Alg} (P : Program) (cfg : Cfg)
def Yy (s : State O) (n : Nat) : List Nat := match s.getT n with
 | some ⟨_, .val ⟨false, [.ptr b _]⟩⟩ => [b]
 | some ⟨_, .val ⟨false, [.aptr b _ _ _ _ _]⟩⟩ => [b]
 | some ⟨_, .val ⟨false, [.fn _ caps]⟩⟩ => caps.map (·.1)
 | _ => []
def j7 (s : State O) (n : Nat) : Bool := match s.getT n with
 | some ⟨_, .val ⟨false, [.own _ _]⟩⟩ => true
 | _ => false
def Lw (m : Nat) : Nat → List Nat → List Nat
 | 0, acc => match m.testBit 0 with | true => 0 :: acc | false => acc
 | n + 1, acc => Lw m n (match m.testBit (n + 1) with | true => (n + 1) :: acc | false => acc)
def Ro (m : Nat) : Nat := m.log2
def IX (s : State O) : List Nat → List Nat → Option (List Slot)
 | [], _ => some []
 | b :: r, seen => match Di b seen with
  | true => IX s r seen
  | false => match s.getB b with
   | none => IX s r seen
   | some e => match br s cfg e.cs, IX s r (b :: seen) with
    | some cs, some l => some (.b b cs :: l)
    | _, _ => none
def KJ (s : State O) : List Nat → List Slot
 | [] => []
 | n :: r => match s.getT n with
  | some ⟨[], .val v⟩ => match br s cfg v.cs with
   | some cs => .t n v.agg cs :: KJ s r
   | none => KJ s r
  | _ => KJ s r
def Yj (s : State O) (m : Nat) : List Nat := Lw m (Ro m) []
def gJ (s : State O) (m : Ms) (live : Nat) : Option (List Slot) :=
 let rs := Yj s m.r
 let tmps := (m.t ||| rs.foldl (fun a n => match j7 s n with | true => a ||| FW n | false => a) 0) &&& live
 match IX cfg s (((rs.filter fun n => live.testBit n).map (Yy s)).flatten) [] with
 | some l => some (KJ cfg s (Lw tmps (Ro tmps) []) ++ l)
 | none => none
def CG (s : State O) (m : Ms) : List Nat := ((Yj s m.r).map (Yy s)).flatten
def aF : List (AC O) → List Nat
 | [] => []
 | .own _ id :: r => id :: aF r
 | _ :: r => aF r
def iV (s : State O) : List Nat → List Nat
 | [] => []
 | n :: r => (match s.getT n with | some ⟨_, .val v⟩ => aF v.cs | _ => []) ++ iV s r
def iZ (s : State O) : List Nat → List Nat
 | [] => []
 | b :: r => (match s.getB b with | some e => aF e.cs | none => []) ++ iZ s r
def PB (s : State O) (m : Ms) : List Nat := iV s (Lw (m.t ||| m.r) (Ro (m.t ||| m.r)) []) ++ iZ s (CG s m)
def NA (s : State O) (ids : List Nat) : List (Nat × HEnt O) := s.hp.filter fun (n, _) => !Di n ids
def LY (s : State O) (bs : List Nat) : List (Nat × BEnt O) := s.bx.filter fun (n, _) => !Di n bs
def cleanB (l : List (Nat × BEnt O)) : List (Nat × BEnt O) := l.map fun (n, e) => (n, { e with dirty := false })
def cleanH (l : List (Nat × HEnt O)) : List (Nat × HEnt O) := l.map fun (n, e) => (n, { e with dirty := false })
def KL (s : State O) (keep : List Nat) (used : List Nat) : SlotC → AC O → Except String (O.Lf × List Nat)
 | .int k, .int k' i => match RG k k' with | true => .ok (.int i, used) | false => .error "a slot of another kind"
 | .bool, .bool b => .ok (.bool b, used)
 | .str, .str x => .ok (.str x, used)
 | .own e _, .nil e' => match Nat.beq e e' with | true => .ok (.rows O.lnil, used) | false => .error "a slot of another element"
 | .imm e _, .nil e' => match Nat.beq e e' with | true => .ok (.rows O.lnil, used) | false => .error "a slot of another element"
 | .own e nw, .own e' id => match s.getH id with
  | some h => match Nat.beq e e' && Nat.beq e h.e && !h.frozen && (h.nw || !nw) && !Di id used && !Di id keep with
   | true => .ok (.rows h.l, id :: used)
   | false => .error "an owned slot that is shared"
  | none => .error "a slot whose slice is gone"
 | .own _ _, .imm _ _ _ => .error "an owned slot that is not owned"
 | .imm e nw, .imm e' nw' l => match Nat.beq e e' && (nw' || !nw) with | true => .ok (.rows l, used) | false => .error "a shared slot"
 | .imm e nw, .own e' id => match s.getH id with
  | some h => match Nat.beq e e' && Nat.beq e h.e && (h.nw || !nw) && (h.frozen || !Di id keep) && !Di id used with
   | true => .ok (.rows h.l, match h.frozen with | true => used | false => id :: used)
   | false => .error "a shared slot of an owned slice"
  | none => .error "a slot whose slice is gone"
 | _, _ => .error "a slot"
def Ig (s : State O) (keep used : List Nat) : List SlotC → List (AC O) → Except String (List O.Lf × List Nat)
 | [], [] => .ok ([], used)
 | a :: as, c :: cs => match KL s keep used a c with
  | .error e => .error e
  | .ok (l, u) => match Ig s keep u as cs with
   | .error e => .error e
   | .ok (ls, u) => .ok (l :: ls, u)
 | _, _ => .error "slots"
def C5 (s : State O) (keep : List Nat) : List Nat → List Slot → Except String (List O.Lf)
 | _, [] => .ok []
 | used, .t n agg cs :: r => match s.getT n with
  | some ⟨[], .val v⟩ => match v.agg == agg, Ig s keep used cs v.cs with
   | true, .ok (ls, u) => match C5 s keep u r with
    | .ok more => .ok (ls ++ more)
    | .error e => .error e
   | true, .error e => .error (e ++ " t" ++ toString n)
   | false, _ => .error "a slot s form"
  | _ => .error ("a slot that is not there t" ++ toString n)
 | used, .b b cs :: r => match s.getB b with
  | some e => match Ig s keep used cs e.cs with
   | .ok (ls, u) => match C5 s keep u r with
    | .ok more => .ok (ls ++ more)
    | .error e => .error e
   | .error er => .error (er ++ " box")
  | none => .error "a slot s variable is gone"
def NW (s : State O) : List (Nat × BEnt O) → Bool
 | [] => true
 | (n, _) :: r => match s.getB n with
  | some e => match e.dirty with
   | true => false
   | false => NW s r
  | none => false
def NY (s : State O) : List (Nat × HEnt O) → Bool
 | [] => true
 | (n, _) :: r => match s.getH n with
  | some e => match e.dirty with
   | true => false
   | false => NY s r
  | none => false
def Hg (c : O.C) (j q : Nat) : SlotC → AC O × List (Nat × HEnt O)
 | .int k => (.int k (O.cI c j), [])
 | .bool => (.bool (O.cB c j), [])
 | .str => (.str (O.cS c j), [])
 | .own e nw => (.own e q, [(q, { e, frozen := false, nw, l := O.cL c j, dirty := true })])
 | .imm e nw => (.imm e nw (O.cL c j), [])
def Jz (c : O.C) : Nat → Nat → List SlotC → List (AC O) × List (Nat × HEnt O)
 | _, _, [] => ([], [])
 | j, q, a :: as => match Hg c j q a with
  | (x, h) => match Jz c (j + 1) (q + h.length) as with
   | (xs, hs) => (x :: xs, h ++ hs)
def BJ (c : O.C) : Nat → Nat → List Slot → State O → State O
 | _, q, [], s => { s with st := q }
 | j, q, .t n agg cs :: r, s => match Jz c j q cs with
  | (xs, hs) => BJ c (j + cs.length) (q + hs.length) r { s with tm := Fx s.tm n (some ⟨[], .val { agg, cs := xs }⟩), hp := hs ++ s.hp }
 | j, q, .b b cs :: r, s => match Jz c j q cs with
  | (xs, hs) => BJ c (j + cs.length) (q + hs.length) r { s with bx := O6 s.bx b (some { cs := xs, dirty := true }), hp := hs ++ s.hp }
def aD (t : TM (TV O)) : List Nat → TM (TV O)
 | [] => t
 | n :: r => aD (Fx t n none) r
structure Way (O : Alg) where
 e : Ex
 slots : List Slot
 base : State O
def M5 (s : State O) (e : Ex) (m : Ms) (live : Nat) : Except String (Way O) := match gJ cfg s m live with
  | none => .error "a layout"
  | some sl => .ok { e, slots := sl, base :=
      { tm := aD s.tm (Lw m.t (Ro m.t) []), bx := LY s (CG s m), hp := NA s (PB s m), st := s.st } }
def Way.enc (w : Way O) (tag : Option Nat) (s' : State O) : O.M :=
 match NW s' w.base.bx, NY s' w.base.hp with
 | true, true => match C5 s' (w.base.hp.map (·.1)) [] w.slots with
  | .ok ls => O.ret (match tag with | some t => .int (O.lit .i64 t) :: ls | none => ls)
  | .error e => O.fail e
 | _, _ => O.fail "memory that a join does not know"
def Way.dec (w : Way O) (tagged : Bool) (c : O.C) : State O := BJ c (match tagged with | true => 1 | false => 0) w.base.st w.slots w.base
def Us (s : State O) (lv : Lv) (e : Ex) : Option Ms → Except String (List (Way O))
 | none => .ok []
 | some m => match M5 cfg s e m (lv.of e) with
  | .ok w => .ok [w]
  | .error e => .error e
def SC (s : State O) (lv : Lv) : List (Nat × Ms) → Except String (List (Way O))
 | [] => .ok []
 | (id, m) :: r => match Us cfg s lv (.ext id) (some m), SC s lv r with
  | .ok a, .ok b => .ok (a ++ b)
  | .error e, _ => .error e
  | _, .error e => .error e
def SA (s : State O) (a : An) (lv : Lv) : Except String (List (Way O)) :=
 match Us cfg s lv .nrm a.nrm, Us cfg s lv .ret a.ret, SC cfg s lv a.exts with
 | .ok x, .ok y, .ok z => .ok (x ++ y ++ z)
 | .error e, _, _ => .error e
 | _, .error e, _ => .error e
 | _, _, .error e => .error e
def gz : Ex → Ex → Bool
 | .nrm, .nrm => true
 | .ret, .ret => true
 | .ext a, .ext b => Nat.beq a b
 | _, _ => false
def Iq (tagged : Bool) (e : Ex) (s' : State O) : Nat → List (Way O) → O.M
 | _, [] => O.fail "a way out that was not seen"
 | i, w :: r => match gz e w.e with
  | true => w.enc (match tagged with | true => some i | false => none) s'
  | false => Iq tagged e s' (i + 1) r
def KO (c : O.C) (k : Ex → State O → O.M) (tagged : Bool) : Nat → List (Way O) → O.M
 | _, [] => O.fail "no way out"
 | _, [w] => k w.e (w.dec tagged c)
 | i, w :: r => O.ite (O.isTag c i) (k w.e (w.dec tagged c)) (KO c k tagged (i + 1) r)
def cleaned (s : State O) : State O := { s with bx := cleanB s.bx, hp := cleanH s.hp }
def scope (a : An) (lv : Lv) (s : State O) (run : State O → (Ex → State O → O.M) → O.M) (k : Ex → State O → O.M) : O.M :=
 match SA cfg s a lv with
 | .error e => O.fail e
 | .ok ws =>
  let tagged := Nat.blt 1 ws.length
  O.bind (run (cleaned s) fun e s' => Iq tagged e s' 0 ws) fun c => KO c k tagged 0 ws
def Bo : List Oper → List Nat → List Nat
 | [], acc => acc
 | o :: r, acc => Bo r (acc ++ [o.after.toList.foldl (fun s e => match e.ground with
  | .textOnly _ | .gcOnly _ => s
  | _ => s ||| FW e.on ||| acc.getD e.on 0) 0])
def MP (bs : List Nat) (ms : List (Nat × Nat)) : Bool :=
 let rec inner (j bj rj wj : Nat) : Nat → List (Nat × Nat) → Bool
  | _, [] => true
  | i, (r, w) :: l => match Nat.ble j i with
   | true => true
   | false => match bj.testBit i || (Nat.beq (w &&& (rj ||| wj)) 0 && Nat.beq (wj &&& r) 0) with
    | true => inner j bj rj wj (i + 1) l
    | false => false
 let rec outer : Nat → List Nat → List (Nat × Nat) → Bool
  | j, b :: bs, (r, w) :: l => match inner j b r w 0 ms with
   | true => outer (j + 1) bs l
   | false => false
  | _, _, _ => true
 outer 0 bs ms
def YK : List Nat → Bool
 | [] => true
 | n :: l => !Di n l && YK l
def Qf : List O.B → O.M → O.M
 | [], m => m
 | a :: r, m => O.assert a (Qf r m)
def Fw : TM (TV O) → TM (TV O)
 | .e => .e
 | .leaf a => match a.gs with
  | [] => .leaf a
  | _ => .e
 | .node l r => .node (Fw l) (Fw r)
def Dg (ops : List Oper) : Nat → List Nat → List Oper → Bool
 | i, b :: bs, o :: r => match o.guard with
  | none => Dg ops (i + 1) bs r
  | some (j, _) => Nat.blt j i && b.testBit j && (match (ops[j]?).bind (·.dst) with | some _ => true | none => false) && Dg ops (i + 1) bs r
 | _, _, [] => true
 | _, [], _ :: _ => false
def Uy : Nat → List Oper → Bool
 | _, [] => true
 | i, o :: r => (o.after.toList.all fun e => match e.ground with
  | .textOnly _ | .gcOnly _ => true
  | _ => Nat.blt e.on i) && Uy (i + 1) r
def GD (inl : FuncId → List (AV O) → State O → (AV O → State O → O.M) → O.M) (all : List Oper) (draw : Bool) :
    List Oper → Nat → State O → List (Nat × Nat) → (State O → List (Nat × Nat) → O.M) → O.M
  | [], id, s, ms, k => k { s with st := id } ms
  | o :: r, id, s, ms, k => match RM.run s (LC P cfg all o id) 0 with
    | .error e => O.fail e
    | .ok (.plain as w, rd) => Qf as (GD inl all draw r (id + BS P o) (s.apply w) (ms ++ [(rd, w.mask)]) k)
    | .ok (.call g f fns args dm next, rd) =>
      let m := O.call f fns args
      O.bind (match g with | none => m | some g => O.ite g m (O.ret dm)) fun c => match next c with
        | none => O.fail "a result"
        | some w => GD inl all draw r (id + BS P o) (s.apply w) (ms ++ [(rd, w.mask)]) k
    | .ok (.inl f args, rd) => match draw with
      | true => O.fail ("a call that has no contract in a region that draws " ++ toString f)
      | false => inl f args { s with st := id + BS P o } fun v s' =>
        GD inl all draw r s'.st (match o.dst with | some d => { s' with tm := Fx s'.tm d (some ⟨[], v⟩) } | none => s') (ms ++ [(0, 0)]) k
def AW : List Oper → List Nat
 | [] => []
 | o :: r => match o.dst with | some d => d :: AW r | none => AW r
def Id (inl : FuncId → List (AV O) → State O → (AV O → State O → O.M) → O.M) (ops : List Oper) (draw : Bool) (s : State O) (k : State O → O.M) : O.M :=
 match YK (AW ops) && (Dg ops 0 (Bo ops []) ops && Uy 0 ops) with
 | false => O.fail "a temporary that is written twice"
 | true => GD P cfg inl ops draw ops s.st s [] fun s' ms =>
  match !draw || MP (Bo ops []) ms with
  | false => O.fail "an order that is open"
  | true => k { s' with tm := Fw s'.tm }
def dr (s : State O) : Operand → Option O.B
 | .tmp n => match s.getT n with
  | some ⟨[], .val ⟨false, [.bool b]⟩⟩ => some b
  | _ => none
 | .const (.bool b) => some (match b with | true => O.tt | false => O.ff)
 | _ => none
def eF (head : Way O) (ws : List (Way O)) (tagged : Bool) (self : List O.Lf → O.M) : Ex → State O → O.M := fun e s' => match e with
 | .nrm => match NW s' head.base.bx, NY s' head.base.hp with
  | true, true => match C5 s' (head.base.hp.map (·.1)) [] head.slots with
   | .ok ls => self ls
   | .error e => O.fail e
  | _, _ => O.fail "memory that a loop does not know"
 | e => Iq tagged e s' 0 ws
def Yh (o : Oper) : Bool := match o.op, o.guard with
 | .panic _, none => true
 | _, _ => false
def X (inl : FuncId → List (AV O) → State O → (AV O → State O → O.M) → O.M) : Code → Bool → Lv → State O → (Ex → State O → O.M) → O.M
 | .skip, _, _, s, k => k .nrm s
 | .region _ ops draw, _, _, s, k => match ops.toList.any Yh with
  | true => O.assert O.ff (O.ret [])
  | false => Id P cfg inl ops.toList draw s fun s' => k .nrm s'
 | .seq a b, light, lv, s, k => X inl a (light && Nat.ble (Rj b) 6) { lv with nrm := QM b ||| lv.all } s fun e s' => match e with
  | .nrm => X inl b light lv s' k
  | e => k e s'
 | .cond c a b, light, lv, s, k => match dr s c with
  | none => O.fail "a condition"
  | some x => match light || Nat.blt ((cnt a).nrm + (cnt b).nrm) 2 with
   | true => O.ite x (X inl a light lv s k) (X inl b light lv s k)
   | false => scope cfg (an P (.cond c a b)) lv s (fun s k => O.ite x (X inl a true lv s k) (X inl b true lv s k)) k
 | .block id b, light, lv, s, k =>
  let lv' : Lv := { lv with exts := (id, lv.nrm) :: lv.exts }
  let k' : Ex → State O → O.M := fun e s' => match e with
   | .ext i => match Nat.beq i id with
    | true => k .nrm s'
    | false => k e s'
   | e => k e s'
  match light || Nat.blt ((cnt b).nrm + ef (cnt b).exts id) 2 with
  | true => X inl b light lv' s k'
  | false => scope cfg (an P b) lv' s (fun s k => X inl b true lv' s k) k'
 | .loop b, _, lv, s, k =>
  let a := an P b
  let lvb : Lv := { lv with nrm := QM b ||| lv.all }
  match a.nrm with
  | none => O.fail "a loop of one round"
  | some m => match M5 cfg s .nrm m lvb.nrm, SA cfg s (an P (.loop b)) lv with
   | .ok head, .ok ws =>
    let tagged := Nat.blt 1 ws.length
    match C5 s (head.base.hp.map (·.1)) [] head.slots with
    | .error e => O.fail e
    | .ok ls => O.bind (O.fix (fun self c => X inl b true lvb (cleaned (head.dec false c)) (eF head ws tagged self)) ls) fun c => KO c k tagged 0 ws
   | .error e, _ => O.fail e
   | _, .error e => O.fail e
 | .exit id, _, _, s, k => k (.ext id) s
 | .ret, _, _, s, k => k .ret s
 | _, _, _, _, _ => O.fail "code"
def ce (s : State O) : ResultVar → Option (Val O)
 | .tmp t => match s.getT t with
  | some ⟨[], .val v⟩ => some v
  | _ => none
 | .cell a T => match s.getT a with
  | some ⟨[], .val ⟨false, [.ptr b off]⟩⟩ => match s.getB b with
   | some e => match GM e.cs off (P.cellsOf T) with
    | some cs => match M1 P T cs.length with
     | true => some { agg := AQ P T, cs }
     | false => none
    | none => none
   | none => none
  | _ => none
def Ku (s : State O) : List ResultVar → Option (List (Val O))
 | [] => some []
 | r :: rs => match ce P s r, Ku s rs with
  | some v, some l => some (v :: l)
  | _, _ => none
def MN : List ResultVar → Nat
 | [] => 0
 | .tmp t :: r => FW t ||| MN r
 | .cell t _ :: r => FW t ||| MN r
def Bc : Nat → List (AV O) → TM (TV O) → TM (TV O)
 | _, [], t => t
 | i, v :: r, t => Bc (i + 1) r (Fx t i (some ⟨[], v⟩))
def bp (cfg : Cfg) : List TypeId → Option (List SlotC)
 | [] => some []
 | t :: ts => match bp cfg ts with
  | none => none
  | some r => match AG P t with
   | .int k => some (.int k :: r)
   | .bool => some (.bool :: r)
   | .str => some (.str :: r)
   | .sl e => some ((match eX cfg e with | false => .own e false | true => .imm e false) :: r)
   | _ => none
def Gg : List TypeId → List (AC O) → Option (List (Val O))
 | [], _ => some []
 | t :: ts, cs => match AK P t with
  | none => none
  | some l => match Gg ts (cs.drop l.length) with
   | none => none
   | some r => some ({ agg := AQ P t, cs := cs.take l.length } :: r)
def Lr : List TypeId → List (Val O) → Bool
 | [], [] => true
 | t :: ts, v :: vs => (match AK P t with
  | some l => v.agg == AQ P t && AS P l v.cs
  | none => false) && Lr ts vs
 | _, _ => false
def Qr : Ex → Bool
 | .ext _ => true
 | _ => false
def ac (a : An) : Ms := match Sh a.nrm a.ret with
 | some m => m
 | none => ⟨0, 0⟩
def Yz (rec' : Code → Bool → Lv → State O → (Ex → State O → O.M) → O.M) (f : FuncId) (args : List (AV O)) (s : State O) (k : AV O → State O → O.M) : O.M :=
  match P.funcs[f]? with
  | none => O.fail "no such function"
  | some fn => match fn.body with
    | none => O.fail ("a function without a body " ++ fn.name)
    | some body => match CJ fn.ntmps body with
     | false => O.fail "temporaries"
     | true =>
      let s1 : State O := { s with tm := Bc 0 args .e }
      let live := MN fn.results.toList ||| (FW args.length - 1)
      let lv : Lv := { nrm := live, ret := live, exts := [] }
      let c := cnt body
      match Nat.blt (c.nrm + c.ret) 2 with
      | true => rec' body false lv s1 fun e s' => match Qr e, Ku P s' fn.results.toList with
        | false, some vs => k (Ie vs) { s' with tm := s.tm }
        | _, _ => O.fail "results"
      | false =>
        let a := an P body
        let m : Ms := ac a
        match IX cfg s1 (CG s1 m) [], (Ic P fn.resultTypes.toList).bind (bp P cfg) with
        | some sl, some rs =>
          let base : State O := { s with bx := LY s (CG s1 m), hp := NA s (PB s1 m) }
          let keep := base.hp.map (·.1)
          O.bind (rec' body true lv (cleaned s1) fun e s' => match Qr e, Ku P s' fn.results.toList with
            | true, _ | _, none => O.fail "results"
            | false, some vs => match Lr P fn.resultTypes.toList vs && NW s' base.bx, NY s' base.hp, Ig s' keep [] rs ((vs.map (·.cs)).flatten) with
              | true, true, .ok (ls, used) => match C5 s' keep used sl with
                | .ok more => O.ret (ls ++ more)
                | .error e => O.fail e
              | true, true, .error e => O.fail (e ++ " of a result of " ++ fn.name)
              | _, _, _ => O.fail "memory that a call does not know") fun c =>
            match Jz c 0 base.st rs with
            | (xs, hs) => match Gg P fn.resultTypes.toList xs with
              | none => O.fail "results"
              | some vs => k (Ie vs) (BJ c rs.length (base.st + hs.length) sl { base with hp := hs ++ base.hp })
        | _, _ => O.fail "a layout of a call"
def XL : Nat → Code → Bool → Lv → State O → (Ex → State O → O.M) → O.M
 | 0 => fun _ _ _ _ _ => O.fail "too deep"
 | n + 1 => X P cfg (Yz P cfg (XL n))
def Ac (give : Bool) : Nat → List TypeId → List O.Lf → Option (List (AC O) × List (Nat × HEnt O) × List O.Lf)
 | _, [], ls => some ([], [], ls)
 | q, t :: ts, l :: ls => match AG P t, l with
  | .int k, .int i => (Ac give q ts ls).map fun (cs, h, r) => (.int k i :: cs, h, r)
  | .bool, .bool b => (Ac give q ts ls).map fun (cs, h, r) => (.bool b :: cs, h, r)
  | .str, .str s => (Ac give q ts ls).map fun (cs, h, r) => (.str s :: cs, h, r)
  | .sl e, .rows l => match give with
   | false => (Ac give q ts ls).map fun (cs, h, r) => (.imm e false l :: cs, h, r)
   | true => (Ac give (q + 1) ts ls).map fun (cs, h, r) => (.own e q :: cs, (q, { e, frozen := false, nw := false, l, dirty := true }) :: h, r)
  | _, _ => none
 | _, _ :: _, [] => none
def As : List Bool → Nat → List TypeId → List Nat → List O.Lf → Option (List (AV O) × List (Nat × HEnt O))
 | _, _, [], [], [] => some ([], [])
 | gv, q, t :: ts, fns, ls => match AG P t with
  | .fn => match fns with
   | f :: fns => (As gv.tail q ts fns ls).map fun (r, h) => (one (.fn f []) :: r, h)
   | [] => none
  | _ => match AK P t with
   | none => none
   | some l => match Ac P (gv.headD false) q l ls with
    | none => none
    | some (cs, h, ls) => (As gv.tail (q + h.length) ts fns ls).map fun (r, hs) => (.val { agg := AQ P t, cs } :: r, h ++ hs)
 | _, _, [], _, _ => none
def O5 {α : Type} (l : α) : Except String (List α) → Except String (List α)
 | .ok ls => .ok (l :: ls)
 | .error e => .error e
def DX (s : State O) (own nw : Bool) (used : List Nat) : List (AC O) → Except String (List O.Lf)
 | [] => .ok []
 | c :: r => match c with
  | .int _ i => O5 (.int i) (DX s own nw used r)
  | .bool b => O5 (.bool b) (DX s own nw used r)
  | .str x => O5 (.str x) (DX s own nw used r)
  | .nil _ => O5 (.rows O.lnil) (DX s own nw used r)
  | .imm _ n l => match !own && (n || !nw) with
   | true => O5 (.rows l) (DX s own nw used r)
   | false => .error "a result that is not fresh"
  | .own _ id => match s.getH id with
   | some h => match (!own || !h.frozen) && !Di id used && (h.nw || !nw) with
    | true => O5 (.rows h.l) (DX s own nw (id :: used) r)
    | false => .error "a result that is shared"
   | none => .error "a result that is gone"
  | _ => .error "a result that is no data"
def Wn (own nw : Bool) (fn : Func) : Ex → State O → O.M := fun e s' => match Qr e, Ku P s' fn.results.toList with
 | true, _ | _, none => O.fail "results"
 | false, some rs => match Lr P fn.resultTypes.toList rs, DX s' own nw [] ((rs.map (·.cs)).flatten) with
  | true, .ok ls => O.ret ls
  | true, .error e => O.fail e
  | false, _ => O.fail "results of other kinds"
def XF (own nw : Bool) (gives : List Bool) (f : FuncId) (fns : List Nat) (args : List O.Lf) : O.M := match P.funcs[f]? with
  | none => O.fail "no such function"
  | some fn => match fn.body, As P gives 1 fn.params.toList fns args with
    | some body, some (vs, hs) => match CJ fn.ntmps body with
     | false => O.fail "temporaries"
     | true =>
      let lv : Lv := { nrm := MN fn.results.toList, ret := MN fn.results.toList, exts := [] }
      XL P cfg 6 body true lv { tm := Bc 0 vs .e, bx := [], hp := hs, st := 1 + hs.length } (Wn P own nw fn)
    | none, _ => O.fail "no body"
    | _, none => O.fail "parameters"
end
end Go.Px
end
section
namespace Go.Px
inductive PV where
 | int (n : Int)
 | bool (b : Bool)
 | str (s : ByteArray)
 | rows (l : List (List PV))
 deriving Inhabited
abbrev Rows := List (List PV)
abbrev Ab := Leaf Int Bool ByteArray Rows
def Leaf.pv : Ab → PV
 | .int i => .int i
 | .bool b => .bool b
 | .str s => .str s
 | .rows l => .rows l
def PV.leaf : PV → Ab
 | .int i => .int i
 | .bool b => .bool b
 | .str s => .str s
 | .rows l => .rows l
@[simp] theorem PV.pv_leaf (p : PV) : p.leaf.pv = p := by cases p <;> rfl
@[simp] theorem Leaf.leaf_pv (p : Ab) : p.pv.leaf = p := by cases p <;> rfl
def pvI : PV → Int
 | .int n => n
 | _ => 0
def pvB : PV → Bool
 | .bool b => b
 | _ => false
def pvS : PV → ByteArray
 | .str s => s
 | _ => ByteArray.empty
def pvL : PV → Rows
 | .rows l => l
 | _ => []
@[simp] theorem jO (n : Int) : pvI (.int n) = n := rfl
@[simp] theorem kg (b : Bool) : pvB (.bool b) = b := rfl
@[simp] theorem ko (s : ByteArray) : pvS (.str s) = s := rfl
@[simp] theorem kh (l : Rows) : pvL (.rows l) = l := rfl
def AF (r : List PV) (j : Nat) : PV := r.getD j (.int 0)
def Ax (l : Rows) (i : Nat) : List PV := l.getD i []
def AJ (l : Rows) (i j : Nat) : PV := AF (Ax l i) j
def Bv (r : List PV) : Nat → List PV → List PV
 | _, [] => r
 | off, p :: ps => Bv (r.set off p) (off + 1) ps
def NB (s : ByteArray) (i : Int) : Int := ((s.data.toList.getD i.toNat 0).toNat : Int)
def FU (s : ByteArray) : Rows := s.data.toList.map fun b => [PV.int b.toNat]
abbrev Env := Nat → List Nat → List PV → Option (List PV)
def Hd (F : (List Ab → Option (List PV)) → List PV → Option (List PV)) : Nat → List PV → Option (List PV)
 | 0, _ => none
 | n + 1, c => F (fun ls => Hd F n (ls.map Leaf.pv)) c
def iLe (a b : Int) : Bool := decide (a ≤ b)
def iLt (a b : Int) : Bool := decide (a < b)
def iIn (i n : Int) : Bool := decide (0 ≤ i ∧ i < n)
def iRg (a b n : Int) : Bool := decide (0 ≤ a ∧ a ≤ b ∧ b ≤ n)
def iSm (n : Int) (b : Nat) : Bool := decide (0 ≤ n ∧ n ≤ 17592186044416 ∧ n * b ≤ 17592186044416 ∧ b ≤ 1048576)
@[reducible] def std (E : Env) (N : Nat) : Alg where
 I := Int
 B := Bool
 S := ByteArray
 L := Rows
 C := List PV
 M := Option (List PV)
 lit _ n := n
 add k a b := k.wrap (a + b)
 sub k a b := k.wrap (a - b)
 mul k a b := k.wrap (a * b)
 quo k a b := k.wrap (a.tdiv b)
 rem _ a b := a.tmod b
 conv k a := k.wrap a
 le a b := iLe a b
 lt a b := iLt a b
 eqI a b := a == b
 tt := true
 ff := false
 bnot b := !b
 band a b := a && b
 beq a b := a == b
 iteI b x y := cond b x y
 iteB b x y := cond b x y
 iteS b x y := cond b x y
 iteL b x y := cond b x y
 slit s := s
 eqS a b := a.toList == b.toList
 ltS a b := Op.bytesLess a.toList b.toList
 slen s := s.size
 sidx s i := NB s i
 ssub s l h := s.extract l.toNat h.toNat
 scat a b := a ++ b
 sbytes s := FU s
 lnil := []
 llit rows := rows.map (·.map Leaf.pv)
 lapp a b := a ++ b
 llen l := l.length
 lset l i off r := l.set i.toNat (Bv (Ax l i.toNat) off (r.map Leaf.pv))
 lsub l a b := (l.take b.toNat).drop a.toNat
 lrep n r := List.replicate n.toNat (r.map Leaf.pv)
 rI l i j := pvI (AJ l i.toNat j)
 rB l i j := pvB (AJ l i.toNat j)
 rS l i j := pvS (AJ l i.toNat j)
 rL l i j := pvL (AJ l i.toNat j)
 cI c j := pvI (AF c j)
 cB c j := pvB (AF c j)
 cS c j := pvS (AF c j)
 cL c j := pvL (AF c j)
 isTag c j := pvI (AF c 0) == (j : Int)
 inb i n := iIn i n
 inr a b n := iRg a b n
 small n b := iSm n b
 ret ls := some (ls.map Leaf.pv)
 fail _ := none
 assert b m := cond b m none
 ite b x y := cond b x y
 bind m k := m.bind k
 call f fns ls := E f fns (ls.map Leaf.pv)
 fix F ls := Hd F N (ls.map Leaf.pv)
inductive Rep (P : Program) (w : World) (St : Nat → Prop) : TypeId → Value → PV → Prop
  | int {t : TypeId} {k : IntKind} {n : Int} (h : AG P t = .int k) : Rep P w St t (.int k n) (.int n)
  | bool {t : TypeId} {b : Bool} (h : AG P t = .bool) : Rep P w St t (.bool b) (.bool b)
  | str {t : TypeId} {s : ByteArray} (h : AG P t = .str) : Rep P w St t (.string s) (.str s)
  | sl {t e : TypeId} {ts : List TypeId} {a : Option Addr} {len cap : Nat} {l : Rows} (v : Nat → Nat → Value)
      (h : AG P t = .sl e) (hts : AK P e = some ts) (hl : l.length = len) (hr : ∀ r ∈ l, r.length = ts.length) (hc : len ≤ cap)
      (hm : len = 0 ∨ ∃ b off, a = some ⟨b, off, none⟩ ∧ St b ∧ b < w.heap.size ∧
        ∀ i j, i < len → j < ts.length → w.cell? ⟨b, off + (i * ts.length + j), none⟩ = some (v i j))
      (hv : ∀ i j t', i < len → ts[j]? = some t' → Rep P w St t' (v i j) (AJ l i j)) :
      Rep P w St t (.slice a len cap) (.rows l)
theorem Rep.mono {P : Program} {w w' : World} {St St' : Nat → Prop} {t : TypeId} {v : Value} {p : PV} (h : Rep P w St t v p)
    (hw : ∀ b, St b → b < w.heap.size → w'.heap[b]? = w.heap[b]? ∧ b < w'.heap.size) (hs : ∀ b, St b → b < w.heap.size → St' b) : Rep P w' St' t v p := by
  induction h with
  | int h => exact .int h
  | bool h => exact .bool h
  | str h => exact .str h
  | sl v h hts hl hr hc hm hv ih =>
    refine .sl v h hts hl hr hc ?_ (fun i j t' hi hj => ih i j t' hi hj)
    rcases hm with hm | ⟨b, off, ha, hb, hlt, hcell⟩
    · exact .inl hm
    · refine .inr ⟨b, off, ha, hs b hb hlt, (hw b hb hlt).2, fun i j hi hj => ?_⟩
      rw [World.cell?_of_block (w := w) (hw b hb hlt).1]
      exact hcell i j hi hj
section
variable {E : Env} {N : Nat}
abbrev St0 (E : Env) (N : Nat) := State (std E N)
abbrev AC0 (E : Env) (N : Nat) := AC (std E N)
def InM (β : Nat → Option Nat) (σ : Nat → Option (Nat × Nat)) (s : St0 E N) (blk : Nat) : Prop :=
  (∃ b e, s.getB b = some e ∧ β b = some blk) ∨ (∃ id h cap, s.getH id = some h ∧ h.frozen = false ∧ σ id = some (blk, cap))
structure Nz where
 n : Nat
 U : Nat → Prop
def Old (n0 : Nz) (nw : Bool) (blk : Nat) : Prop := (nw = true → n0.n ≤ blk) ∧ (n0.n ≤ blk ∨ n0.U blk)
theorem Old.mono {n0 : Nz} {nw nw' : Bool} {blk : Nat} (h : Old n0 nw blk) (hh : nw' = true → nw = true) : Old n0 nw' blk := ⟨fun e => h.1 (hh e), h.2⟩
theorem Old.new {n0 : Nz} {nw : Bool} {blk : Nat} (h : n0.n ≤ blk) : Old n0 nw blk := ⟨fun _ => h, .inl h⟩
def StB (n0 : Nz) (β : Nat → Option Nat) (σ : Nat → Option (Nat × Nat)) (s : St0 E N) (nw : Bool) (blk : Nat) : Prop :=
 ¬ InM β σ s blk ∧ Old n0 nw blk
def Jl (β : Nat → Option Nat) (s : St0 E N) (b off : Nat) (v : Value) : Prop :=
 ∃ blk, v = .pointer (some ⟨blk, off, none⟩) ∧ ∀ e, s.getB b = some e → β b = some blk
def bk (σ : Nat → Option (Nat × Nat)) (id : Nat) (n : Nat) (v : Value) : Prop :=
  (∃ blk cap, σ id = some (blk, cap) ∧ v = .slice (some ⟨blk, 0, none⟩) n cap) ∨ (σ id = none ∧ n = 0 ∧ ∃ a, v = .slice a 0 0)
def RelC (P : Program) (n0 : Nz) (β : Nat → Option Nat) (σ : Nat → Option (Nat × Nat)) (s : St0 E N) (w : World) : AC0 E N → Value → Prop
  | .int k i, v => v = .int k i
  | .bool b, v => v = .bool b
  | .str x, v => v = .string x
  | .nil e, v => ∃ t ts, AG P t = .sl e ∧ AK P e = some ts ∧ ∃ a, v = .slice a 0 0
  | .imm e nw l, v => ∃ t, AG P t = .sl e ∧ Rep P w (StB n0 β σ s nw) t v (.rows l)
  | .own e id, v => (∃ a len cap, v = .slice a len cap) ∧ ∀ h, s.getH id = some h → h.e = e ∧ bk σ id h.l.length v
  | .ptr b off, v => Jl β s b off v
  | .aptr b off n sz i inner, v => 0 ≤ i ∧ i < (n : Int) ∧ Jl β s b (off + i.toNat * sz + inner) v
  | .eptr id i off, v => 0 ≤ i ∧ ∃ blk o, v = .pointer (some ⟨blk, o, none⟩) ∧ ∀ h, s.getH id = some h → i < (h.l.length : Int) ∧
      ∃ ts cap, AK P h.e = some ts ∧ σ id = some (blk, cap) ∧ o = i.toNat * ts.length + off
  | .iptr e nw l i off, v => 0 ≤ i ∧ i < (l.length : Int) ∧ ∃ t ts blk boff len cap, AG P t = .sl e ∧ AK P e = some ts ∧
      Rep P w (StB n0 β σ s nw) t (.slice (some ⟨blk, boff, none⟩) len cap) (.rows l) ∧ v = .pointer (some ⟨blk, boff + (i.toNat * ts.length + off), none⟩)
  | .fn f caps, v => ∃ vs : List Value, v = .func (.func f) #[] vs.toArray ∧ vs.length = caps.length ∧
      ∀ (i b o : Nat), caps[i]? = some (b, o) → ∃ x : Value, vs[i]? = some x ∧ Jl β s b o x
  | .nilptr, v => v = .pointer none
def RelCs (P : Program) (n0 : Nz) (β : Nat → Option Nat) (σ : Nat → Option (Nat × Nat)) (s : St0 E N) (w : World) : List (AC0 E N) → List Value → Prop
 | [], [] => True
 | c :: cs, v :: vs => RelC P n0 β σ s w c v ∧ RelCs P n0 β σ s w cs vs
 | _, _ => False
def RelVal (P : Program) (n0 : Nz) (β : Nat → Option Nat) (σ : Nat → Option (Nat × Nat)) (s : St0 E N) (w : World) (x : Val (std E N)) (v : Value) : Prop :=
 RelCs P n0 β σ s w x.cs v.cells.toList ∧ match x.agg with
  | true => ∃ cs, v = .agg cs
  | false => v.oneCell' = true
def RelVals (P : Program) (n0 : Nz) (β : Nat → Option Nat) (σ : Nat → Option (Nat × Nat)) (s : St0 E N) (w : World) : List (Val (std E N)) → List Value → Prop
 | [], [] => True
 | c :: cs, v :: vs => RelVal P n0 β σ s w c v ∧ RelVals P n0 β σ s w cs vs
 | _, _ => False
def RelAV (P : Program) (n0 : Nz) (β : Nat → Option Nat) (σ : Nat → Option (Nat × Nat)) (s : St0 E N) (w : World) : AV (std E N) → Value → Prop
 | .val x, v => RelVal P n0 β σ s w x v
 | .tup xs, v => ∃ vs, v = .tuple vs ∧ RelVals P n0 β σ s w xs vs.toList
def Facts (a : Act) (gs : List (Nat × Bool)) : Prop := ∀ n b, (n, b) ∈ gs → a.tmps.getD n undef = .bool b
def ke (P : Program) (n0 : Nz) (β : Nat → Option Nat) (σ : Nat → Option (Nat × Nat)) (s : St0 E N) (a : Act) (w : World) (tv : TV (std E N)) (v : Value) : Prop :=
  (Facts a tv.gs ∧ RelAV P n0 β σ s w tv.v v) ∨ (¬ Facts a tv.gs ∧ v = undef)
def j0 (P : Program) (n0 : Nz) (β : Nat → Option Nat) (σ : Nat → Option (Nat × Nat)) (s : St0 E N) (w : World) (b : Nat) (e : BEnt (std E N)) : Prop :=
 ∃ blk cells el, β b = some blk ∧ w.heap[blk]? = some (.cells cells el (0, 0)) ∧ RelCs P n0 β σ s w e.cs cells.toList
def RelH (P : Program) (n0 : Nz) (β : Nat → Option Nat) (σ : Nat → Option (Nat × Nat)) (s : St0 E N) (w : World) (id : Nat) (h : HEnt (std E N)) : Prop :=
  ∃ t ts, AG P t = .sl h.e ∧ AK P h.e = some ts ∧ (∀ r ∈ h.l, r.length = ts.length) ∧
    ((σ id = none ∧ h.l = []) ∨
      ∃ blk cap cells el, σ id = some (blk, cap) ∧ w.heap[blk]? = some (.cells cells el (0, 0)) ∧ el = h.e ∧ cells.size = cap * ts.length ∧ h.l.length ≤ cap ∧
        Old n0 h.nw blk ∧
        ∃ v : Nat → Nat → Value, (∀ i j, i < h.l.length → j < ts.length → cells[i * ts.length + j]? = some (v i j)) ∧
          ∀ i j t', i < h.l.length → ts[j]? = some t' → Rep P w (StB n0 β σ s h.nw) t' (v i j) (AJ h.l i j))
structure Mem (P : Program) (n0 : Nz) (β : Nat → Option Nat) (σ : Nat → Option (Nat × Nat)) (s : St0 E N) (w : World) : Prop where
 B : ∀ b e, s.getB b = some e → j0 P n0 β σ s w b e
 H : ∀ id h, s.getH id = some h → RelH P n0 β σ s w id h
 uB : ∀ b b' e e' blk, s.getB b = some e → s.getB b' = some e' → β b = some blk → β b' = some blk → b = b'
 uH : ∀ id id' h h' blk cap cap', s.getH id = some h → s.getH id' = some h' → σ id = some (blk, cap) → σ id' = some (blk, cap') → id = id'
 uX : ∀ b e id h blk cap, s.getB b = some e → s.getH id = some h → β b = some blk → σ id = some (blk, cap) → False
structure Sim (P : Program) (n0 : Nz) (nt : Nat) (β : Nat → Option Nat) (σ : Nat → Option (Nat × Nat)) (s : St0 E N) (a : Act) (w : World) : Prop where
 n0le : n0.n ≤ w.heap.size
 size : a.tmps.size = nt
 T : ∀ n tv, s.getT n = some tv → ke P n0 β σ s a w tv (a.tmps.getD n undef)
 M : Mem P n0 β σ s w
def AC.names : AC0 E N → List Nat
 | .own _ id => [id]
 | .ptr b _ => [b]
 | .aptr b _ _ _ _ _ => [b]
 | .eptr id _ _ => [id]
 | .fn _ caps => caps.map (·.1)
 | _ => []
def AB : List (AC0 E N) → List Nat
 | [] => []
 | c :: r => c.names ++ AB r
def BO : List (Val (std E N)) → List Nat
 | [] => []
 | v :: r => AB v.cs ++ BO r
def AV.names : AV (std E N) → List Nat
 | .val v => AB v.cs
 | .tup vs => BO vs
structure Fresh (a : Act) (s : St0 E N) (n : Nat) : Prop where
 t : ∀ k tv, s.getT k = some tv → Facts a tv.gs → n ∉ tv.v.names
 b : ∀ k e, s.getB k = some e → n ≠ k ∧ n ∉ AB e.cs
 h : ∀ k e, s.getH k = some e → n ≠ k
structure Ext (P : Program) (new : Nat → Prop) (β : Nat → Option Nat) (σ : Nat → Option (Nat × Nat)) (s : St0 E N) (w : World)
    (β' : Nat → Option Nat) (σ' : Nat → Option (Nat × Nat)) (s' : St0 E N) (w' : World) : Prop where
  os : w'.os = w.os
  tape : w'.tape = w.tape
  output : w'.output = w.output
  size : w.heap.size ≤ w'.heap.size
  frame : ∀ b, b < w.heap.size → ¬ InM β σ s b → w'.heap[b]? = w.heap[b]?
  mem : ∀ b, InM β' σ' s' b → InM β σ s b ∨ w.heap.size ≤ b
  kB : ∀ b e', s'.getB b = some e' → ¬ new b → (∃ e, s.getB b = some e) ∧ β' b = β b
  kH : ∀ id h', s'.getH id = some h' → ¬ new id → ∃ h, s.getH id = some h ∧ σ' id = σ id ∧ h'.e = h.e ∧ h'.l.length = h.l.length
section
variable {P : Program} {n0 : Nz} {nt : Nat} {new : Nat → Prop} {β β' : Nat → Option Nat} {σ σ' : Nat → Option (Nat × Nat)} {s s' : St0 E N} {w w' : World} {a : Act}
theorem CR {w : World} {b : Nat} {o : Obj} (h : w.heap[b]? = some o) : b < w.heap.size := by
 rcases Nat.lt_or_ge b w.heap.size with h' | h'
 ·exact h'
 ·simp [Array.getElem?_eq_none h'] at h
theorem Ext.rep (x : Ext P new β σ s w β' σ' s' w') {nw : Bool} {t : TypeId} {v : Value} {p : PV} (h : Rep P w (StB n0 β σ s nw) t v p) :
    Rep P w' (StB n0 β' σ' s' nw) t v p :=
  h.mono (fun b hb hlt => ⟨x.frame b hlt hb.1, Nat.lt_of_lt_of_le hlt x.size⟩)
    (fun b hb hlt => ⟨fun hm => (x.mem b hm).elim hb.1 (fun h => by omega), hb.2⟩)
theorem Ext.ptr (x : Ext P new β σ s w β' σ' s' w') {b off : Nat} {v : Value} (hn : ¬ new b) (h : Jl β s b off v) : Jl β' s' b off v := by
 obtain ⟨blk, rfl, hb⟩ := h
 refine ⟨blk, rfl, fun e he => ?_⟩
 obtain ⟨⟨e0, h0⟩, h1⟩ := x.kB b e he hn
 rw [h1]; exact hb e0 h0
theorem Ext.relC (x : Ext P new β σ s w β' σ' s' w') {c : AC0 E N} {v : Value} (hn : ∀ n ∈ c.names, ¬ new n) (h : RelC P n0 β σ s w c v) :
    RelC P n0 β' σ' s' w' c v := by
  cases c with
  | int k i => exact h
  | bool b => exact h
  | str x => exact h
  | nil e => exact h
  | nilptr => exact h
  | imm e nw l => obtain ⟨t, ht, hr⟩ := h; exact ⟨t, ht, x.rep hr⟩
  | own e id =>
    obtain ⟨h1, h2⟩ := h
    refine ⟨h1, fun h' hh => ?_⟩
    obtain ⟨h0, hh0, hs, he, hl⟩ := x.kH id h' hh (hn id (by simp [AC.names]))
    obtain ⟨e1, o1⟩ := h2 h0 hh0
    refine ⟨he.trans e1, ?_⟩
    unfold bk at o1 ⊢
    rw [hs, hl]; exact o1
  | ptr b off => exact x.ptr (hn b (by simp [AC.names])) h
  | aptr b off n sz i inner => exact ⟨h.1, h.2.1, x.ptr (hn b (by simp [AC.names])) h.2.2⟩
  | eptr id i off =>
    obtain ⟨h0, blk, o, hv, hk⟩ := h
    refine ⟨h0, blk, o, hv, fun h' hh => ?_⟩
    obtain ⟨e0, hh0, hs, he, hl⟩ := x.kH id h' hh (hn id (by simp [AC.names]))
    obtain ⟨hi, ts, cap, hts, hsg, ho⟩ := hk e0 hh0
    exact ⟨by rw [hl]; exact hi, ts, cap, by rw [he]; exact hts, by rw [hs]; exact hsg, ho⟩
  | iptr e nw l i off =>
    obtain ⟨h0, h1, t, ts, blk, boff, len, cap, ht, hts, hr, hv⟩ := h
    exact ⟨h0, h1, t, ts, blk, boff, len, cap, ht, hts, x.rep hr, hv⟩
  | fn f caps =>
    obtain ⟨vs, hv, hl, hp⟩ := h
    refine ⟨vs, hv, hl, fun i b o hc => ?_⟩
    obtain ⟨y, hy, hr⟩ := hp i b o hc
    exact ⟨y, hy, x.ptr (hn b (by simp only [AC.names]; exact List.mem_map.2 ⟨(b, o), List.mem_of_getElem? hc, rfl⟩)) hr⟩
theorem Ext.relCs (x : Ext P new β σ s w β' σ' s' w') : ∀ {cs : List (AC0 E N)} {vs : List Value}, (∀ n ∈ AB cs, ¬ new n) → RelCs P n0 β σ s w cs vs →
    RelCs P n0 β' σ' s' w' cs vs
  | [], [], _, h => h
  | c :: cs, v :: vs, hn, h => ⟨x.relC (fun n hm => hn n (by simp [AB, hm])) h.1, x.relCs (fun n hm => hn n (by simp [AB, hm])) h.2⟩
  | [], _ :: _, _, h => h.elim
  | _ :: _, [], _, h => h.elim
theorem Ext.relVal (x : Ext P new β σ s w β' σ' s' w') {y : Val (std E N)} {v : Value} (hn : ∀ n ∈ AB y.cs, ¬ new n) (h : RelVal P n0 β σ s w y v) :
    RelVal P n0 β' σ' s' w' y v := ⟨x.relCs hn h.1, h.2⟩
theorem Ext.relVals (x : Ext P new β σ s w β' σ' s' w') : ∀ {cs : List (Val (std E N))} {vs : List Value}, (∀ n ∈ BO cs, ¬ new n) → RelVals P n0 β σ s w cs vs →
    RelVals P n0 β' σ' s' w' cs vs
  | [], [], _, h => h
  | c :: cs, v :: vs, hn, h => ⟨x.relVal (fun n hm => hn n (by simp [BO, hm])) h.1, x.relVals (fun n hm => hn n (by simp [BO, hm])) h.2⟩
  | [], _ :: _, _, h => h.elim
  | _ :: _, [], _, h => h.elim
theorem Ext.relAV (x : Ext P new β σ s w β' σ' s' w') {y : AV (std E N)} {v : Value} (hn : ∀ n ∈ y.names, ¬ new n) (h : RelAV P n0 β σ s w y v) :
    RelAV P n0 β' σ' s' w' y v := by
  cases y with
  | val y => exact x.relVal hn h
  | tup ys => obtain ⟨vs, hv, hr⟩ := h; exact ⟨vs, hv, x.relVals hn hr⟩
theorem Ext.refl (P : Program) (new : Nat → Prop) (β : Nat → Option Nat) (σ : Nat → Option (Nat × Nat)) (s : St0 E N) (w : World) : Ext P new β σ s w β σ s w :=
 ⟨rfl, rfl, rfl, Nat.le_refl _, fun _ _ _ => rfl, fun _ h => .inl h, fun b e h _ => ⟨⟨e, h⟩, rfl⟩, fun id h hh _ => ⟨h, hh, rfl, rfl, rfl⟩⟩
theorem Ext.trans {new2 : Nat → Prop} {β'' : Nat → Option Nat} {σ'' : Nat → Option (Nat × Nat)} {s'' : St0 E N} {w'' : World}
    (x : Ext P new β σ s w β' σ' s' w') (y : Ext P new2 β' σ' s' w' β'' σ'' s'' w'') : Ext P (fun n => new n ∨ new2 n) β σ s w β'' σ'' s'' w'' where
  os := y.os.trans x.os
  tape := y.tape.trans x.tape
  output := y.output.trans x.output
  size := Nat.le_trans x.size y.size
  frame b hb hm := by
    rw [y.frame b (Nat.lt_of_lt_of_le hb x.size) (fun h => (x.mem b h).elim hm (fun h => by omega)), x.frame b hb hm]
  mem b h := (y.mem b h).elim (fun h => x.mem b h) (fun h => .inr (Nat.le_trans x.size h))
  kB b e h hn := by
    obtain ⟨⟨e1, h1⟩, e2⟩ := y.kB b e h (fun h => hn (.inr h))
    obtain ⟨⟨e3, h3⟩, e4⟩ := x.kB b e1 h1 (fun h => hn (.inl h))
    exact ⟨⟨e3, h3⟩, e2.trans e4⟩
  kH id h hh hn := by
    obtain ⟨h1, hh1, a1, a2, a3⟩ := y.kH id h hh (fun h => hn (.inr h))
    obtain ⟨h2, hh2, b1, b2, b3⟩ := x.kH id h1 hh1 (fun h => hn (.inl h))
    exact ⟨h2, hh2, a1.trans b1, a2.trans b2, a3.trans b3⟩
theorem Ext.weaken {new2 : Nat → Prop} (x : Ext P new β σ s w β' σ' s' w') (h : ∀ n, new n → new2 n) : Ext P new2 β σ s w β' σ' s' w' :=
 { x with kB := fun b e hb hn => x.kB b e hb (fun k => hn (h _ k)), kH := fun id e hb hn => x.kH id e hb (fun k => hn (h _ k)) }
structure Sub (s s' : St0 E N) : Prop where
 b : ∀ n e', s'.getB n = some e' → ∃ e, s.getB n = some e ∧ e'.cs = e.cs
 h : ∀ n h', s'.getH n = some h' → ∃ h, s.getH n = some h ∧ h'.e = h.e ∧ h'.l = h.l ∧ h'.nw = h.nw ∧ (h'.frozen = false → h.frozen = false)
theorem Sub.inM (x : Sub s s') {b : Nat} (h : InM β σ s' b) : InM β σ s b := by
 rcases h with ⟨n, e, he, hb⟩ | ⟨id, h, cap, hh, hf, hs⟩
 ·obtain ⟨e0, h0, _⟩ := x.b n e he; exact .inl ⟨n, e0, h0, hb⟩
 ·obtain ⟨h0, hh0, _, _, _, hf0⟩ := x.h id h hh; exact .inr ⟨id, h0, cap, hh0, hf0 hf, hs⟩
theorem Sub.ext (x : Sub s s') (P : Program) (new : Nat → Prop) (β : Nat → Option Nat) (σ : Nat → Option (Nat × Nat)) (w : World) : Ext P new β σ s w β σ s' w where
 os := rfl
 tape := rfl
 output := rfl
 size := Nat.le_refl _
 frame _ _ _ := rfl
 mem b h := .inl (x.inM h)
 kB n e h _ := by obtain ⟨e0, h0, _⟩ := x.b n e h; exact ⟨⟨e0, h0⟩, rfl⟩
 kH n e h _ := by obtain ⟨h0, hh0, h1, h2, _⟩ := x.h n e h; exact ⟨h0, hh0, rfl, h1, by rw [h2]⟩
theorem Sub.mem (x : Sub s s') (m : Mem P n0 β σ s w) : Mem P n0 β σ s' w where
 B n e h := by
  obtain ⟨e0, h0, hc⟩ := x.b n e h
  obtain ⟨blk, cells, el, hb, hh, hr⟩ := m.B n e0 h0
  exact ⟨blk, cells, el, hb, hh, (x.ext P (fun _ => False) β σ w).relCs (fun _ _ => id) (by rw [hc]; exact hr)⟩
 H n e h := by
  obtain ⟨h0, hh0, h1, h2, h3, h4⟩ := x.h n e h
  obtain ⟨t, ts, ht, hts, hr, hm⟩ := m.H n h0 hh0
  refine ⟨t, ts, by rw [h1]; exact ht, by rw [h1]; exact hts, by rw [h2]; exact hr, ?_⟩
  rcases hm with ⟨ha, hb⟩ | ⟨blk, cap, cells, el, ha, hb, hel, hc, hd, he, v, hv, hrep⟩
  ·exact .inl ⟨ha, by rw [h2]; exact hb⟩
  ·refine .inr ⟨blk, cap, cells, el, ha, hb, by rw [h1]; exact hel, hc, by rw [h2]; exact hd, by rw [h3]; exact he, v, by rw [h2]; exact hv, fun i j t' hi hj => ?_⟩
   rw [h2] at hi ⊢
   rw [h3]
   exact (x.ext P (fun _ => False) β σ w).rep (hrep i j t' hi hj)
 uB b b' e e' blk h h' hb hb' := by
  obtain ⟨e0, h0, _⟩ := x.b b e h
  obtain ⟨e1, h1, _⟩ := x.b b' e' h'
  exact m.uB b b' e0 e1 blk h0 h1 hb hb'
 uH b b' e e' blk cap cap' h h' hb hb' := by
  obtain ⟨e0, h0, _⟩ := x.h b e h
  obtain ⟨e1, h1, _⟩ := x.h b' e' h'
  exact m.uH b b' e0 e1 blk cap cap' h0 h1 hb hb'
 uX b e id h blk cap hb hh h1 h2 := by
  obtain ⟨e0, h0, _⟩ := x.b b e hb
  obtain ⟨h3, hh3, _⟩ := x.h id h hh
  exact m.uX b e0 id h3 blk cap h0 hh3 h1 h2
theorem Sub.of_same (hb : ∀ n, s'.getB n = s.getB n) (hh : ∀ n, s'.getH n = s.getH n) : Sub s s' :=
 ⟨fun n e h => ⟨e, by rw [← hb]; exact h, rfl⟩, fun n e h => ⟨e, by rw [← hh]; exact h, rfl, rfl, rfl, id⟩⟩
end
end
end Go.Px
end
section
namespace Go.Px
theorem AA {a b : Nat} : Nat.beq a b = true ↔ a = b := by
 constructor
 ·exact Nat.eq_of_beq_eq_true
 ·rintro rfl; exact Nat.beq_refl a
theorem BD {a b : Nat} : Nat.beq a b = false ↔ a ≠ b := by
 rw [← Bool.not_eq_true, AA]
theorem BL {a b : Nat} : Nat.blt a b = true ↔ a < b := by
 unfold Nat.blt; rw [Nat.ble_eq]; omega
theorem TM.get_set {α : Type} : ∀ (d : Nat) (t : TM α) (k j : Nat) (v : Option α), k < 2 ^ d → j < 2 ^ d →
    TM.get d (TM.set d t k v) j = if j = k then v else TM.get d t j
  | 0, t, k, j, v, hk, hj => by
    have h1 : k = 0 := by omega
    have h2 : j = 0 := by omega
    subst h1; subst h2
    cases v <;> simp [TM.set, TM.get]
  | d + 1, t, k, j, v, hk, hj => by
    have hk2 : k / 2 < 2 ^ d := by rw [Nat.pow_succ] at hk; omega
    have hj2 : j / 2 < 2 ^ d := by rw [Nat.pow_succ] at hj; omega
    have ih := fun t => TM.get_set d t (k / 2) (j / 2) v hk2 hj2
    have hget : TM.get (d + 1) t j = match Nat.beq (j % 2) 0 with
        | true => TM.get d t.kids.1 (j / 2)
        | false => TM.get d t.kids.2 (j / 2) := by
      cases t with
      | node l r => rfl
      | e => cases d <;> simp [TM.get, TM.kids] <;> split <;> rfl
      | leaf a => cases d <;> simp [TM.get, TM.kids] <;> split <;> rfl
    rw [hget]
    simp only [TM.set]
    rcases hb : Nat.beq (k % 2) 0 with _ | _ <;> rcases hc : Nat.beq (j % 2) 0 with _ | _
    all_goals simp only [TM.get, hc, ih]
    all_goals first
      | (have e1 := AA.1 hb; have e2 := BD.1 hc; have : j ≠ k := by intro h; subst h; omega
         rw [if_neg this])
      | (have e1 := BD.1 hb; have e2 := AA.1 hc; have : j ≠ k := by intro h; subst h; omega
         rw [if_neg this])
      | (by_cases hjk : j = k
         · subst hjk; simp
         · have e1 : j / 2 ≠ k / 2 := by
             intro h
             have x1 := hb; have x2 := hc
             first
               | (have := AA.1 x1; have := AA.1 x2; omega)
               | (have := BD.1 x1; have := BD.1 x2; omega)
           rw [if_neg e1, if_neg hjk])
theorem DA {α : Type} (t : TM α) (k j : Nat) (v : Option α) :
    CQ (Fx t k v) j = if j = k ∧ k < Cv then v else CQ t j := by
  unfold Fx CQ
  rcases h1 : Nat.blt j Cv with _ | _
  · have : ¬ (j = k ∧ k < Cv) := by
      rintro ⟨rfl, h⟩; rw [← BL, h1] at h; exact Bool.noConfusion h
    rw [if_neg this]
  · rcases h2 : Nat.blt k Cv with _ | _
    · have : ¬ (j = k ∧ k < Cv) := by
        rintro ⟨rfl, h⟩; rw [h1] at h2; exact Bool.noConfusion h2
      rw [if_neg this]
    · have hk := BL.1 h2
      have hj := BL.1 h1
      simp only []
      rw [TM.get_set Mq t k j v (by simpa [Cv, Mq] using hk) (by simpa [Cv, Mq] using hj)]
      simp [hk]
theorem TM.get_e {α : Type} (d k : Nat) : TM.get d (TM.e : TM α) k = none := by cases d <;> rfl
theorem Rf {α : Type} (k : Nat) : CQ (TM.e : TM α) k = none := by
 unfold CQ; split
 ·exact TM.get_e _ _
 ·rfl
theorem RH {α : Type} : ∀ (l : List (Nat × α)) (k j : Nat), AE (So l k) j = if j = k then none else AE l j
 | [], k, j => by simp [So, AE]
 | (i, a) :: l, k, j => by
  have ih := RH l k j
  simp only [So]
  rcases h : Nat.beq i k with _ | _
  ·have hik := BD.1 h
   simp only [AE]
   rcases h2 : Nat.beq i j with _ | _
   ·exact ih
   ·have := AA.1 h2
    rw [if_neg (by omega)]
  ·have hik := AA.1 h
   simp only [AE, ih]
   by_cases hjk : j = k
   ·rw [if_pos hjk, if_pos hjk]
   ·rw [if_neg hjk, if_neg hjk, BD.2 (by omega)]
theorem BM {α : Type} (l : List (Nat × α)) (k j : Nat) (v : Option α) : AE (O6 l k v) j = if j = k then v else AE l j := by
 cases v with
 | none => simp only [O6]; exact RH l k j
 | some a =>
  simp only [O6, AE]
  rcases h : Nat.beq k j with _ | _
  ·have := BD.1 h
   rw [RH, if_neg (by omega), if_neg (by omega)]
  ·have := AA.1 h
   rw [if_pos this.symm]
theorem PR {α : Type} (p : Nat → Bool) : ∀ (l : List (Nat × α)) (k : Nat), AE (l.filter fun x => p x.1) k = if p k then AE l k else none
 | [], k => by simp [AE]
 | (i, a) :: l, k => by
  have ih := PR p l k
  simp only [List.filter_cons]
  rcases hp : p i with _ | _
  ·simp only [Bool.false_eq_true, if_false, ih, AE]
   rcases h : Nat.beq i k with _ | _
   ·rfl
   ·have := AA.1 h; subst this; simp [hp]
  ·simp only [if_true, AE]
   rcases h : Nat.beq i k with _ | _
   ·exact ih
   ·have := AA.1 h; subst this; simp [hp]
theorem Q9 {α β : Type} (f : α → β) : ∀ (l : List (Nat × α)) (k : Nat), AE (l.map fun (n, a) => (n, f a)) k = (AE l k).map f
 | [], k => rfl
 | (i, a) :: l, k => by
  have ih := Q9 f l k
  simp only [List.map_cons, AE]
  rcases h : Nat.beq i k with _ | _
  ·exact ih
  ·rfl
theorem IB {α : Type} : ∀ (l r : List (Nat × α)) (k : Nat), AE (l ++ r) k = match AE l k with
    | some a => some a
    | none => AE r k
  | [], r, k => rfl
  | (i, a) :: l, r, k => by
    have ih := IB l r k
    simp only [List.cons_append, AE]
    rcases h : Nat.beq i k with _ | _
    · exact ih
    · rfl
theorem VF {α : Type} : ∀ {l : List (Nat × α)} {k : Nat} {a : α}, AE l k = some a → (k, a) ∈ l
 | (i, b) :: l, k, a, h => by
  simp only [AE] at h
  rcases hb : Nat.beq i k with _ | _
  ·rw [hb] at h; exact List.mem_cons_of_mem _ (VF h)
  ·rw [hb] at h
   have := AA.1 hb; subst this
   cases h; exact List.mem_cons_self
 | [], k, a, h => by simp [AE] at h
theorem CT {n : Nat} : ∀ {l : List Nat}, Di n l = true ↔ n ∈ l
 | [] => by simp [Di]
 | m :: l => by
  simp only [Di]
  rcases h : Nat.beq n m with _ | _
  ·rw [CT, List.mem_cons]; have := BD.1 h; simp [this]
  ·have := AA.1 h; simp [this]
theorem HN : ∀ {a b : List Nat}, AM a b = true ↔ a = b
 | [], [] => by simp [AM]
 | a :: l, b :: r => by
  simp only [AM]
  rcases h : Nat.beq a b with _ | _
  ·have := BD.1 h; simp [this]
  ·have := AA.1 h; simp [this, HN]
 | [], _ :: _ => by simp [AM]
 | _ :: _, [] => by simp [AM]
theorem G0 {a b : IntKind} : RG a b = true ↔ a = b := by cases a <;> cases b <;> simp [RG]
theorem US {α : Type} : ∀ (ws : List (Nat × Option α)) (l : List (Nat × α)) (k : Nat), (∀ x ∈ ws, x.1 ≠ k) → AE (A5 l ws) k = AE l k
 | [], l, k, h => rfl
 | (n, v) :: r, l, k, h => by
  simp only [A5]
  rw [US r _ k (fun x hx => h x (List.mem_cons_of_mem _ hx)), BM, if_neg]
  have := h (n, v) List.mem_cons_self
  exact fun e => this e.symm
theorem E8 {α : Type} : ∀ (a b : List (Nat × Option α)) (l : List (Nat × α)), A5 l (a ++ b) = A5 (A5 l a) b
 | [], b, l => rfl
 | (n, v) :: r, b, l => by simp only [List.cons_append, A5]; exact E8 r b _
section
variable {O : Alg} {α β : Type} {s : State O}
theorem RM.run_bind (x : RM O α) (f : α → RM O β) : ∀ (m : Nat), RM.run s (x.bind f) m = match RM.run s x m with
    | .ok (a, m') => RM.run s (f a) m'
    | .error e => .error e := by
  induction x with
  | ret a => intro m; rfl
  | fail w => intro m; rfl
  | t n g ih => intro m; simp only [RM.bind, RM.run]; exact ih _ _
  | b n g ih => intro m; simp only [RM.bind, RM.run]; exact ih _ _
  | h n g ih => intro m; simp only [RM.bind, RM.run]; exact ih _ _
theorem RM.bind_ok {x : RM O α} {f : α → RM O β} {m m' : Nat} {b : β} (h : RM.run s (x.bind f) m = .ok (b, m')) :
    ∃ a m1, RM.run s x m = .ok (a, m1) ∧ RM.run s (f a) m1 = .ok (b, m') := by
  rw [RM.run_bind] at h
  cases hx : RM.run s x m with
  | error e => rw [hx] at h; cases h
  | ok p => obtain ⟨a, m1⟩ := p; rw [hx] at h; exact ⟨a, m1, rfl, h⟩
theorem RM.ret_ok {a b : α} {m m' : Nat} (h : RM.run s (RM.ret a : RM O α) m = .ok (b, m')) : a = b := by
 simp only [RM.run, Except.ok.injEq, Prod.mk.injEq] at h; exact h.1
theorem RM.fail_ok {w : String} {b : α} {m m' : Nat} (h : RM.run s (RM.fail w : RM O α) m = .ok (b, m')) : False := by
 simp [RM.run] at h
theorem RM.guard_ok {b : Bool} {w : String} {u : Unit} {m m' : Nat} (h : RM.run s (RM.guard b w) m = .ok (u, m')) : b = true := by
 cases b
 ·exact (RM.fail_ok h).elim
 ·rfl
theorem RM.ofOpt_ok {x : Option α} {w : String} {a : α} {m m' : Nat} (h : RM.run s (RM.ofOpt w x) m = .ok (a, m')) : x = some a := by
 cases x with
 | none => exact (RM.fail_ok h).elim
 | some b => exact congrArg some (RM.ret_ok h)
theorem RM.t_ok {n : Nat} {f : Option (TV O) → RM O α} {a : α} {m m' : Nat} (h : RM.run s (RM.t n f) m = .ok (a, m')) : ∃ m1, RM.run s (f (s.getT n)) m1 = .ok (a, m') :=
 ⟨_, h⟩
theorem RM.b_ok {n : Nat} {f : Option (BEnt O) → RM O α} {a : α} {m m' : Nat} (h : RM.run s (RM.b n f) m = .ok (a, m')) : ∃ m1, RM.run s (f (s.getB n)) m1 = .ok (a, m') :=
 ⟨_, h⟩
theorem RM.h_ok {n : Nat} {f : Option (HEnt O) → RM O α} {a : α} {m m' : Nat} (h : RM.run s (RM.h n f) m = .ok (a, m')) : ∃ m1, RM.run s (f (s.getH n)) m1 = .ok (a, m') :=
 ⟨_, h⟩
end
section
variable {O : Alg} (s : State O)
theorem State.getT_apply1 (d : Nat) (v : Option (TV O)) (w : Wr O) (hw : w.ts = [(d, v)]) (n : Nat) :
    (s.apply w).getT n = if n = d ∧ d < Cv then v else s.getT n := by
  unfold State.apply State.getT
  rw [hw]
  simp only [State.applyT]
  exact DA _ _ _ _
theorem State.getT_apply0 (w : Wr O) (hw : w.ts = []) (n : Nat) : (s.apply w).getT n = s.getT n := by
 unfold State.apply State.getT; rw [hw]; rfl
theorem State.getB_apply0 (w : Wr O) (hw : w.bs = []) (n : Nat) : (s.apply w).getB n = s.getB n := by
 unfold State.apply State.getB; rw [hw]; rfl
theorem State.getB_apply1 (b : Nat) (v : Option (BEnt O)) (w : Wr O) (hw : w.bs = [(b, v)]) (n : Nat) :
    (s.apply w).getB n = if n = b then v else s.getB n := by
  unfold State.apply State.getB; rw [hw]; exact BM _ _ _ _
theorem State.getH_apply0 (w : Wr O) (hw : w.hs = []) (n : Nat) : (s.apply w).getH n = s.getH n := by
 unfold State.apply State.getH; rw [hw]; rfl
end
section
variable {E : Env} {N : Nat} {P : Program} {n0 : Nz} {nt : Nat} {β : Nat → Option Nat} {σ : Nat → Option (Nat × Nat)} {s : St0 E N} {a : Act} {w : World}
theorem bg : ∀ {gs ctx : List (Nat × Bool)}, W2 gs ctx = true → ∀ x ∈ gs, x ∈ ctx
 | [], _, _, x, hx => by simp at hx
 | (n, b) :: r, ctx, h, x, hx => by
  simp only [W2] at h
  split at h
  ·rename_i hany
   rcases List.mem_cons.1 hx with rfl | hx
   ·rw [List.any_eq_true] at hany
    obtain ⟨⟨m, c⟩, hm, he⟩ := hany
    simp only [Bool.and_eq_true, beq_iff_eq] at he
    have := AA.1 he.1
    rw [this, he.2]; exact hm
   ·exact bg h x hx
  ·cases h
theorem Facts.of_in {gs ctx : List (Nat × Bool)} (h : W2 gs ctx = true) (hf : Facts a ctx) : Facts a gs :=
 fun n b hm => hf n b (bg h _ hm)
theorem Xq {t : TypeId} {v : Value} {c : AC0 E N} (h : Xj P t v = some c) : RelC P n0 β σ s w c v ∧ c.names = [] ∧ v.oneCell' = true := by
 unfold Xj at h
 split at h
 ·rename_i k k' n hk
  split at h
  ·rename_i hkk
   cases h
   exact ⟨by simp only [RelC]; rw [G0.1 hkk], rfl, rfl⟩
  ·cases h
 ·rename_i b hk; cases h; cases b <;> exact ⟨rfl, rfl, rfl⟩
 ·rename_i x hk; cases h; exact ⟨rfl, rfl, rfl⟩
 ·rename_i e hk
  split at h
  ·rename_i ts hts; cases h; exact ⟨⟨t, ts, hk, hts, none, rfl⟩, rfl, rfl⟩
  ·cases h
 ·cases h; exact ⟨rfl, rfl, rfl⟩
 ·cases h
theorem V3 : ∀ {ts : List TypeId} {vs : List Value} {cs : List (AC0 E N)}, PO P ts vs = some cs → RelCs P n0 β σ s w cs vs ∧ AB cs = [] ∧ cs.length = ts.length ∧ ∀ v ∈ vs, v.oneCell' = true
 | [], [], cs, h => by cases h; exact ⟨trivial, rfl, rfl, by simp⟩
 | t :: ts, v :: vs, cs, h => by
  simp only [PO] at h
  split at h
  ·rename_i c r hc hr
   cases h
   obtain ⟨r1, n1, o1⟩ := Xq (n0 := n0) (β := β) (σ := σ) (s := s) (w := w) hc
   obtain ⟨r2, n2, l2, o2⟩ := V3 hr
   exact ⟨⟨r1, r2⟩, by simp [AB, n1, n2], by simp [l2], fun x hx => (List.mem_cons.1 hx).elim (fun e => e ▸ o1) (o2 x)⟩
  ·cases h
 | [], _ :: _, _, h => by simp [PO] at h
 | _ :: _, [], _, h => by simp [PO] at h
theorem Xu {t : TypeId} {v : Value} {x : Val (std E N)} (h : Uu P t v = some x) :
    RelVal P n0 β σ s w x v ∧ AB x.cs = [] ∧ ∀ u ∈ v.cells.toList, u.oneCell' = true := by
  unfold Uu at h
  split at h
  · rename_i cs
    split at h
    · rename_i ts hts
      split at h
      · rename_i l hl
        cases h
        obtain ⟨r, n, _, o⟩ := V3 (n0 := n0) (β := β) (σ := σ) (s := s) (w := w) hl
        exact ⟨⟨r, cs, rfl⟩, n, o⟩
      · cases h
    · cases h
  · rename_i hna
    split at h
    · rename_i c hc
      cases h
      obtain ⟨r, n, o⟩ := Xq (n0 := n0) (β := β) (σ := σ) (s := s) (w := w) hc
      have hcells : v.cells = #[v] := by cases v <;> first | rfl | (exact (hna _ rfl).elim)
      exact ⟨⟨by rw [hcells]; exact ⟨r, trivial⟩, o⟩, by simp [AB, n], by rw [hcells]; simpa using o⟩
    · cases h
theorem Fresh.av {n : Nat} (hf : Fresh a s n) {k : Nat} {tv : TV (std E N)} (h : s.getT k = some tv) (hg : Facts a tv.gs) : n ∉ tv.v.names := hf.t k tv h hg
theorem Qd {ctx : List (Nat × Bool)} {T : TypeId} {x : Operand} {v : AV (std E N)} {m m' : Nat} (hs : Sim P n0 nt β σ s a w) (hf : Facts a ctx)
    (h : RM.run s (ev P ctx T x) m = .ok (v, m')) : RelAV P n0 β σ s w v (a.eval x) ∧ ∀ n, Fresh a s n → n ∉ v.names := by
  cases x with
  | tmp k =>
    obtain ⟨m1, h⟩ := RM.t_ok h
    cases hg : s.getT k with
    | none => rw [hg] at h; exact (RM.fail_ok h).elim
    | some tv =>
      rw [hg] at h
      simp only at h
      split at h
      · rename_i hin
        cases RM.ret_ok h
        refine ⟨?_, fun n hn => hn.t k tv hg (hf.of_in hin)⟩
        rcases hs.T k tv hg with ⟨_, hr⟩ | ⟨hnf, _⟩
        · exact hr
        · exact (hnf (hf.of_in hin)).elim
      · exact (RM.fail_ok h).elim
  | const c =>
    simp only [ev] at h
    cases hx : Uu (O := std E N) P T c with
    | some x =>
      rw [hx] at h
      cases RM.ret_ok h
      obtain ⟨r, n, _⟩ := Xu (n0 := n0) (β := β) (σ := σ) (s := s) (w := w) hx
      exact ⟨r, fun k _ => by simp [AV.names, n]⟩
    | none => rw [hx] at h; exact (RM.fail_ok h).elim
  | func f =>
    unfold ev at h
    cases RM.ret_ok h
    exact ⟨⟨⟨⟨[], rfl, rfl, by simp⟩, trivial⟩, rfl⟩, fun k _ => by simp [AV.names, one, AB, AC.names]⟩
  | global g => exact (RM.fail_ok h).elim
theorem Jd {ctx : List (Nat × Bool)} {T : TypeId} {x : Operand} {v : Val (std E N)} {m m' : Nat} (hs : Sim P n0 nt β σ s a w) (hf : Facts a ctx)
    (h : RM.run s (evV P ctx T x) m = .ok (v, m')) : RelVal P n0 β σ s w v (a.eval x) ∧ ∀ n, Fresh a s n → n ∉ AB v.cs := by
  obtain ⟨y, m1, h1, h2⟩ := RM.bind_ok h
  obtain ⟨r, n⟩ := Qd hs hf h1
  cases y with
  | val u => cases RM.ret_ok h2; exact ⟨r, n⟩
  | tup us => exact (RM.fail_ok h2).elim
theorem BE {v : Value} (h : v.oneCell' = true) : v.cells = #[v] := by cases v <;> first | rfl | (simp [Value.oneCell'] at h)
theorem EU {ctx : List (Nat × Bool)} {T : TypeId} {x : Operand} {c : AC0 E N} {m m' : Nat} (hs : Sim P n0 nt β σ s a w) (hf : Facts a ctx)
    (h : RM.run s (evC P ctx T x) m = .ok (c, m')) : RelC P n0 β σ s w c (a.eval x) ∧ (a.eval x).oneCell' = true ∧ ∀ n, Fresh a s n → n ∉ c.names := by
  obtain ⟨y, m1, h1, h2⟩ := RM.bind_ok h
  obtain ⟨r, n⟩ := Jd hs hf h1
  obtain ⟨ag, cs⟩ := y
  split at h2
  · rename_i c1 hag hcs
    simp only at hag hcs
    subst hag; subst hcs
    cases RM.ret_ok h2
    obtain ⟨r1, r2⟩ := r
    simp only at r2
    rw [BE r2] at r1
    exact ⟨r1.1, r2, fun k hk => by have := n k hk; simpa [AB] using this⟩
  · exact (RM.fail_ok h2).elim
theorem RelC.one {c : AC0 E N} {v : Value} (h : RelC P n0 β σ s w c v) : v.oneCell' = true := by
 cases c with
 | int k i => have h' : v = _ := h; subst h'; rfl
 | bool b => have h' : v = _ := h; subst h'; rfl
 | str x => have h' : v = _ := h; subst h'; rfl
 | nil e => obtain ⟨_, _, _, _, x, rfl⟩ := h; rfl
 | imm e nw l => obtain ⟨t, ht, hr⟩ := h; cases hr; rfl
 | own e id => obtain ⟨⟨x, y, z, rfl⟩, _⟩ := h; rfl
 | ptr b off => obtain ⟨blk, rfl, _⟩ := h; rfl
 | aptr b off n sz i inner => obtain ⟨_, _, blk, rfl, _⟩ := h; rfl
 | eptr id i off => obtain ⟨_, blk, o, rfl, _⟩ := h; rfl
 | iptr e nw l i off => obtain ⟨_, _, _, _, _, _, _, _, _, _, _, rfl⟩ := h; rfl
 | fn f caps => obtain ⟨vs, rfl, _⟩ := h; rfl
 | nilptr => have h' : v = _ := h; subst h'; rfl
theorem RelCs.one : ∀ {cs : List (AC0 E N)} {vs : List Value}, RelCs P n0 β σ s w cs vs → ∀ v ∈ vs, v.oneCell' = true
 | [], [], _, v, hv => by simp at hv
 | c :: cs, x :: vs, h, v, hv => by
  rcases List.mem_cons.1 hv with rfl | hv
  ·exact RelC.one h.1
  ·exact RelCs.one h.2 v hv
 | [], _ :: _, h, _, _ => h.elim
 | _ :: _, [], h, _, _ => h.elim
theorem RelCs.length : ∀ {cs : List (AC0 E N)} {vs : List Value}, RelCs P n0 β σ s w cs vs → cs.length = vs.length
 | [], [], _ => rfl
 | c :: cs, x :: vs, h => by simp [RelCs.length h.2]
 | [], _ :: _, h => h.elim
 | _ :: _, [], h => h.elim
theorem RelCs.get : ∀ {cs : List (AC0 E N)} {vs : List Value}, RelCs P n0 β σ s w cs vs → ∀ (i : Nat) (c : AC0 E N) (v : Value), cs[i]? = some c → vs[i]? = some v → RelC P n0 β σ s w c v
 | c :: cs, x :: vs, h, 0, c', v, hc, hv => by simp at hc hv; subst hc; subst hv; exact h.1
 | c :: cs, x :: vs, h, i + 1, c', v, hc, hv => RelCs.get h.2 i c' v (by simpa using hc) (by simpa using hv)
 | [], _, _, i, c', v, hc, _ => by simp at hc
 | _ :: _, [], h, _, _, _, _, _ => h.elim
theorem YM {ctx : List (Nat × Bool)} {x : Operand} {i : Int} {m m' : Nat} (hs : Sim P n0 nt β σ s a w) (hf : Facts a ctx)
    (h : RM.run s (evI (O := std E N) ctx x) m = .ok (i, m')) : ∃ k, a.eval x = .int k i := by
  cases x with
  | tmp k =>
    obtain ⟨m1, h⟩ := RM.t_ok h
    cases hg : s.getT k with
    | none => rw [hg] at h; exact (RM.fail_ok h).elim
    | some tv =>
      rw [hg] at h
      simp only at h
      split at h
      · rename_i k' i' hin hv
        cases RM.ret_ok h
        rcases hs.T k tv hg with ⟨_, hr⟩ | ⟨hnf, _⟩
        · rw [hv] at hr
          obtain ⟨r1, r2⟩ := hr
          simp only at r2
          rw [BE r2] at r1
          exact ⟨k', r1.1⟩
        · exact (hnf (hf.of_in hin)).elim
      · exact (RM.fail_ok h).elim
  | const c =>
    unfold evI at h
    split at h
    · rename_i k n hc; cases hc; cases RM.ret_ok h; exact ⟨_, rfl⟩
    · rename_i hx; cases hx
    · exact (RM.fail_ok h).elim
  | func f => exact (RM.fail_ok h).elim
  | global g => exact (RM.fail_ok h).elim
theorem UJ : ∀ {gs : List (Nat × Bool)} {g : Option Bool} {m m' : Nat}, Sim P n0 nt β σ s a w → Facts a gs →
    RM.run s (Xe (O := std E N) gs) m = .ok (g, m') → ∀ b, g = some b → b = true
  | [], g, m, m', hs, hf, h, b, hb => by cases RM.ret_ok h; cases hb
  | (n, want) :: r, g, m, m', hs, hf, h, b, hb => by
    obtain ⟨m1, h⟩ := RM.t_ok h
    cases hg : s.getT n with
    | none => rw [hg] at h; exact (RM.fail_ok h).elim
    | some tv =>
      rw [hg] at h
      simp only at h
      split at h
      · rename_i gs' b' heq
        cases heq
        obtain ⟨g1, m2, h1, h2⟩ := RM.bind_ok h
        have ih := UJ hs (fun n b hm => hf n b (List.mem_cons_of_mem _ hm)) h1
        have hn : a.tmps.getD n undef = .bool want := hf n want List.mem_cons_self
        have hb' : b' = want := by
          rcases hs.T n _ hg with ⟨_, hr⟩ | ⟨_, hu⟩
          · obtain ⟨r1, r2⟩ := hr
            simp only at r2
            rw [BE r2] at r1
            have e : a.tmps.getD n undef = .bool b' := r1.1
            rw [hn] at e
            cases e; rfl
          · rw [hu] at hn; cases hn
        have e2 := RM.ret_ok h2
        rw [hb] at e2
        subst hb'
        cases b' <;> cases g1 <;> simp_all
      · exact (RM.fail_ok h).elim
end
end Go.Px
end
