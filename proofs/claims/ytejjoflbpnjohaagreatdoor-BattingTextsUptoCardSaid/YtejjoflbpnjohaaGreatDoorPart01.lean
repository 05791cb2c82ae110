/- Part 1. -/
import GoSem.Step
import Derived.WalkKit
import Derived.Lib.LaidTab
set_option linter.unusedVariables false
set_option linter.unusedSimpArgs false
section
namespace Go.Px
theorem zzj (a b:Bool):((a&&b)=true)=(a=true∧b=true):=Bool.and_eq_true a b
theorem zzk {α:Type} {l:List α} {i:Nat} {a:α}:l.getD i a=l[i]?.getD a:=List.getD_eq_getElem?_getD
theorem zzl {α:Type} {a:α} {l:List α}:a∈a::l:=List.mem_cons_self
theorem zzm {α:Type} (y:α) {a:α} {l:List α}:a∈l→a∈y::l:=List.mem_cons_of_mem y
theorem zzn {α:Type} {l:List α} {i:Nat} (h:i<l.length):l[i]?=some l[i]:=List.getElem?_eq_getElem h
theorem zzo {α β:Type} {x:Option α} {f:α→β} {b:β}:x.map f=some b↔∃ a,x=some a∧f a=b:=Option.map_eq_some_iff
inductive Leaf (I B S L:Type) where
 | int (i:I)
 | bool (b:B)
 | str (s:S)
 | rows (l:L)
structure Alg where
 I:Type
 B:Type
 S:Type
 L:Type
 C:Type
 M:Type
 lit:IntKind→Int→I
 s:IntKind→I→I→I
 x:IntKind→I→I→I
 am:IntKind→I→I→I
 aw:IntKind→I→I→I
 an:IntKind→I→I→I
 au:IntKind→I→I
 v:I→I→B
 l:I→I→B
 d:I→I→B
 k:B
 f:B
 h:B→B
 ad:B→B→B
 ao:B→B→B
 ai:B→I→I→I
 i:B→B→B→B
 ba:B→S→S→S
 bb:B→L→L→L
 o:ByteArray→S
 aj:S→S→B
 bc:S→S→B
 u:S→I
 ax:S→I→I
 ar:S→I→I→S
 af:S→S→S
 ap:S→L
 z:L
 ac:List (List (Leaf I B S L))→L
 ag:L→L→L
 m:L→I
 ae:L→I→Nat→List (Leaf I B S L)→L
 aq:L→I→I→L
 as:I→List (Leaf I B S L)→L
 q:L→I→Nat→I
 rB:L→I→Nat→B
 rS:L→I→Nat→S
 rL:L→I→Nat→L
 bd:Nat→L→List I→I
 be:Nat→L→List I→I
 bf:Nat→L→List I→I→L
 ay:L→S
 az:L→B
 g:C→Nat→I
 n:C→Nat→B
 w:C→Nat→S
 p:C→Nat→L
 aa:C→Nat→B
 t:I→I→B
 al:I→I→I→B
 r:I→Nat→B
 a:List (Leaf I B S L)→M
 ab:String→M
 j:B→M→M
 b:B→M→M→M
 c:M→(C→M)→M
 e:Nat→List Nat→List (Leaf I B S L)→M
 y:((List (Leaf I B S L)→M)→C→M)→List (Leaf I B S L)→M
abbrev Alg.Lf (O:Alg):Type:=Leaf O.I O.B O.S O.L
inductive Cap (O:Alg) where
 | box (b off:Nat)
 | row (e:TypeId) (l:O.L)
inductive AC (O:Alg) where
 | int (k:IntKind) (i:O.I)
 | bool (b:O.B)
 | str (s:O.S)
 | nil (e:TypeId)
 | imm (e:TypeId) (nw:Bool) (l:O.L)
 | own (e:TypeId) (id:Nat)
 | ptr (b off:Nat)
 | aptr (b off n sz:Nat) (i:O.I) (inner:Nat)
 | eptr (id:Nat) (i:O.I) (off:Nat)
 | iptr (e:TypeId) (nw:Bool) (l:O.L) (i:O.I) (off:Nat)
 | fn (f:FuncId) (caps:List (Cap O))
 | nilptr
 | tail (e:TypeId) (id:Nat) (i:O.I)
 | mp (e:TypeId) (id:Nat)
 | any (T:TypeId)
def Cap.ac {O:Alg}:Cap O→AC O
 | .box b off=>.ptr b off
 | .row e l=>.iptr e false l (O.lit .i64 0) 0
def Cap.box? {O:Alg}:Cap O→List Nat
 | .box b _=>[b]
 | .row _ _=>[]
def Hf {O:Alg}:List (Cap O)→List Nat
 | []=>[]
 | c::r=>c.box?++Hf r
structure Val (O:Alg) where
 agg:Bool
 cs:List (AC O)
inductive AV (O:Alg) where
 | val (v:Val O)
 | tup (vs:List (Val O))
structure TV (O:Alg) where
 gs:List (Nat×Bool)
 v:AV O
structure BEnt (O:Alg) where
 cs:List (AC O)
 dirty:Bool
structure HEnt (O:Alg) where
 e:TypeId
 frozen:Bool
 nw:Bool
 l:O.L
 dirty:Bool
inductive TM (α:Type) where
 | e
 | leaf (a:α)
 | node (l r:TM α)
def TM.get {α:Type}:Nat→TM α→Nat→Option α
 | 0,.leaf a,_=>some a
 | d+1,.node l r,k=>match Nat.beq (k % 2) 0 with
  | true=>TM.get d l (k / 2)
  | false=>TM.get d r (k / 2)
 | _,_,_=>none
def TM.kids {α:Type}:TM α→TM α×TM α
 | .node l r=>(l,r)
 | _=>(.e,.e)
def TM.set {α:Type}:Nat→TM α→Nat→Option α→TM α
 | 0,_,_,some a=>.leaf a
 | 0,_,_,none=>.e
 | d+1,t,k,a=>match t.kids with
  | (l,r)=>match Nat.beq (k % 2) 0 with
   | true=>.node (TM.set d l (k / 2) a) r
   | false=>.node l (TM.set d r (k / 2) a)
def AH {α:Type}:List (Nat×α)→Nat→Option α
 | [],_=>none
 | (j,a)::l,k=>match Nat.beq j k with
  | true=>some a
  | false=>AH l k
def Uq {α:Type}:List (Nat×α)→Nat→List (Nat×α)
 | [],_=>[]
 | (j,a)::l,k=>match Nat.beq j k with
  | true=>Uq l k
  | false=>(j,a)::Uq l k
def NF {α:Type} (l:List (Nat×α)) (k:Nat):Option α→List (Nat×α)
 | some a=>(k,a)::Uq l k
 | none=>Uq l k
def Nw:Nat:=9
structure State (O:Alg) where
 tm:TM (TV O)
 bx:List (Nat×BEnt O)
 hp:List (Nat×HEnt O)
 st:Nat
def DG:Nat:=512
def Ci {α:Type} (t:TM α) (n:Nat):Option α:=match Nat.blt n DG with
 | true=>TM.get Nw t n
 | false=>none
def GX {α:Type} (t:TM α) (n:Nat) (v:Option α):TM α:=match Nat.blt n DG with
 | true=>TM.set Nw t n v
 | false=>t
def State.getT {O:Alg} (s:State O) (n:Nat):Option (TV O):=Ci s.tm n
def State.getB {O:Alg} (s:State O) (n:Nat):Option (BEnt O):=AH s.bx n
def State.getH {O:Alg} (s:State O) (n:Nat):Option (HEnt O):=AH s.hp n
structure Wr (O:Alg) where
 ts:List (Nat×Option (TV O)):=[]
 bs:List (Nat×Option (BEnt O)):=[]
 hs:List (Nat×Option (HEnt O)):=[]
def State.applyT {O:Alg} (t:TM (TV O)):List (Nat×Option (TV O))→TM (TV O)
 | []=>t
 | (n,v)::r=>State.applyT (GX t n v) r
def BA {α:Type} (t:List (Nat×α)):List (Nat×Option α)→List (Nat×α)
 | []=>t
 | (n,v)::r=>BA (NF t n v) r
def State.apply {O:Alg} (s:State O) (w:Wr O):State O :=
 { tm:=State.applyT s.tm w.ts,bx:=BA s.bx w.bs,hp:=BA s.hp w.hs,st:=s.st }
def D5 (k:Nat):Nat:=2 ^ k
def RC (f:Nat→Nat) {α:Type}:List (Nat×α)→Nat
 | []=>0
 | (n,_)::r=>D5 (f n) ||| RC f r
def Wr.mask {O:Alg} (w:Wr O):Nat :=
 RC (fun n=>3 * n) w.ts ||| RC (fun n=>3 * n+1) w.bs ||| RC (fun n=>3 * n+2) w.hs
inductive RM (O:Alg) (α:Type) where
 | ret (a:α)
 | fail (w:String)
 | t (n:Nat) (f:Option (TV O)→RM O α)
 | b (n:Nat) (f:Option (BEnt O)→RM O α)
 | h (n:Nat) (f:Option (HEnt O)→RM O α)
def RM.bind {O:Alg} {α β:Type}:RM O α→(α→RM O β)→RM O β
 | .ret a,f=>f a
 | .fail w,_=>.fail w
 | .t n g,f=>.t n fun v=>(g v).bind f
 | .b n g,f=>.b n fun v=>(g v).bind f
 | .h n g,f=>.h n fun v=>(g v).bind f
instance {O:Alg}:Monad (RM O) where
 pure:=RM.ret
 bind:=RM.bind
def RM.run {O:Alg} {α:Type} (s:State O):RM O α→Nat→Except String (α×Nat)
 | .ret a,m=>.ok (a,m)
 | .fail w,_=>.error w
 | .t n g,m=>RM.run s (g (s.getT n)) (m ||| D5 (3 * n))
 | .b n g,m=>RM.run s (g (s.getB n)) (m ||| D5 (3 * n+1))
 | .h n g,m=>RM.run s (g (s.getH n)) (m ||| D5 (3 * n+2))
def RM.ofOpt {O:Alg} {α:Type} (w:String):Option α→RM O α
 | some a=>.ret a
 | none=>.fail w
def RM.guard {O:Alg} (b:Bool) (w:String):RM O Unit:=match b with
 | true=>.ret ()
 | false=>.fail w
inductive LK where
 | int (k:IntKind) | bool | str | sl (e:TypeId) | ptr | fn | other
def Ra:IntKind→IntKind→Bool
 | .i8,.i8 | .i16,.i16 | .i32,.i32 | .i64,.i64 | .u8,.u8 | .u16,.u16 | .u32,.u32 | .u64,.u64=>true
 | _,_=>false
def AJ (P:Program) (t:TypeId):LK:=match P.underlying t with
 | some (.int k)=>.int k
 | some .bool=>.bool
 | some .string=>.str
 | some (.slice e)=>.sl e
 | some (.pointer _)=>.ptr
 | some (.func _ _ _)=>.fn
 | _=>.other
def Dr {α:Type}:Nat→List α→List α
 | 0,_=>[]
 | n+1,l=>l++Dr n l
def Mc {α:Type}:List (Option (List α))→Option (List α)
 | []=>some []
 | none::_=>none
 | some a::r=>match Mc r with
  | some b=>some (a++b)
  | none=>none
def Bb (P:Program):Nat→TypeId→Option (List TypeId)
 | 0,_=>none
 | n+1,t=>match P.underlying t with
  | some (.struct fs)=>Mc (fs.toList.map fun f=>Bb P n f.type)
  | some (.array k e)=>(Bb P n e).map (Dr k)
  | some (.tuple _) | some .invalid | some (.named _ _) | none=>none
  | some _=>some [t]
def CV:Nat:=20
def AO (P:Program) (t:TypeId):Option (List TypeId):=match Bb P CV t with
 | some l=>match Nat.beq l.length (P.cellsOf t)&&Nat.blt 0 l.length with
  | true=>some l
  | false=>none
 | none=>none
def AW (P:Program) (t:TypeId):Bool:=match P.underlying t with
 | some (.struct _) | some (.array _ _)=>true
 | _=>false
def X4 (P:Program) (t:TypeId):Option TypeId:=match P.underlying t with
 | some (.slice e)=>some e
 | _=>none
def wC (P:Program) (n:Nat):TypeId:=P.types.size+2+n
def Af:List Nat→List Nat→Bool
 | [],[]=>true
 | a::l,b::r=>match Nat.beq a b with
  | true=>Af l r
  | false=>false
 | _,_=>false
def Co (n:Nat):List Nat→Bool
 | []=>false
 | m::l=>match Nat.beq n m with
  | true=>true
  | false=>Co n l
def Tm (P:Program) (e:TypeId) (off:Nat) (t:TypeId):Option (List TypeId) :=
 match AO P e,AO P t with
 | some l,some r=>match Af ((l.drop off).take r.length) r with
  | true=>some r
  | false=>none
 | _,_=>none
section
variable {O:Alg} (P:Program)
def UZ (t:TypeId) (v:Value):Option (AC O):=match AJ P t,v with
 | .int k,.int k' n=>match Ra k k' with
  | true=>some (.int k (O.lit k n))
  | false=>none
 | .bool,.bool b=>some (.bool (match b with | true=>O.k | false=>O.f))
 | .str,.string s=>some (.str (O.o s))
 | .sl e,.slice none 0 0=>match AO P e with
  | some _=>some (.nil e)
  | none=>none
 | .ptr,.pointer none=>some .nilptr
 | _,_=>none
def KG:List TypeId→List Value→Option (List (AC O))
 | [],[]=>some []
 | t::ts,v::vs=>match UZ P t v,KG ts vs with
  | some a,some r=>some (a::r)
  | _,_=>none
 | _,_=>none
def O3 (t:TypeId) (v:Value):Option (Val O):=match v with
 | .agg cs=>match AO P t with
  | some ts=>match KG P ts cs.toList with
   | some l=>some { agg:=true,cs:=l }
   | none=>none
  | none=>none
 | v=>match UZ P t v with
  | some c=>some { agg:=false,cs:=[c] }
  | none=>none
def Qn (t:TypeId):Option (Val O):=match P.info? t with
 | some i=>match i.zero with
  | some v=>O3 P t v
  | none=>none
 | none=>none
def OZ (nw:Bool) (l:O.L) (i:O.I):Nat→List TypeId→Option (List (AC O))
 | _,[]=>some []
 | j,t::ts=>match OZ nw l i (j+1) ts with
  | none=>none
  | some r=>match AJ P t with
   | .int k=>some (.int k (O.q l i j)::r)
   | .bool=>some (.bool (O.rB l i j)::r)
   | .str=>some (.str (O.rS l i j)::r)
   | .sl e=>some (.imm e nw (O.rL l i j)::r)
   | _=>none
def As (own:Nat→Bool) (nw:Bool) (c:O.C):Nat→Nat→List TypeId→Option (List (AC O)×List (Nat×HEnt O))
 | _,_,[]=>some ([],[])
 | j,q,t::ts=>match AJ P t with
  | .int k=>(As own nw c (j+1) q ts).map fun (r,h)=>(.int k (O.g c j)::r,h)
  | .bool=>(As own nw c (j+1) q ts).map fun (r,h)=>(.bool (O.n c j)::r,h)
  | .str=>(As own nw c (j+1) q ts).map fun (r,h)=>(.str (O.w c j)::r,h)
  | .sl e=>match own e with
   | true=>(As own nw c (j+1) (q+1) ts).map fun (r,h)=>(.own e q::r,(q,{ e,frozen:=false,nw,l:=O.p c j,dirty:=true })::h)
   | false=>(As own nw c (j+1) q ts).map fun (r,h)=>(.imm e nw (O.p c j)::r,h)
  | _=>none
def sI:List TypeId→Option (List O.Lf)
 | []=>some []
 | t::ts=>match sI ts with
  | none=>none
  | some r=>match AJ P t with
   | .int k=>some (.int (O.lit k 0)::r)
   | .bool=>some (.bool O.f::r)
   | .str=>some (.str (O.o ByteArray.empty)::r)
   | .sl _=>some (.rows O.z::r)
   | _=>none
end
def Z0:List (Nat×Bool)→List (Nat×Bool)→Bool
 | [],_=>true
 | (n,b)::r,ctx=>match ctx.any (fun (m,c)=>Nat.beq n m&&(b==c)) with
  | true=>Z0 r ctx
  | false=>false
inductive StepRes (O:Alg) where
 | plain (as:List O.B) (w:Wr O)
 | call (g:Option O.B) (f:FuncId) (fns:List Nat) (args:List O.Lf) (dflt:List O.Lf) (next:O.C→Option (Wr O))
 | inl (f:FuncId) (args:List (AV O))
structure CI where
 f:FuncId
 fns:List Nat
 own:Bool
 nw:Bool
 gives:List Bool:=[]
 sk:List Nat:=[]
def CI.ow (ci:CI) (e:Nat):Bool:=ci.own && !Co e ci.sk
structure Bld where
 f:FuncId
 k:Nat
 T:TypeId
 u:TypeId
structure Cfg where
 gam:List CI
 imm:Bool:=false
 old:Bool:=false
 ie:List Nat:=[]
 bld:List Bld:=[]
def aU:List Bld→Nat→Option Bld
 | [],_=>none
 | b::l,f=>match Nat.beq b.f f with
  | true=>some b
  | false=>aU l f
def Ue:List CI→Nat→List Nat→Option CI
 | [],_,_=>none
 | c::l,f,fns=>match Nat.beq c.f f&&Af c.fns fns with
  | true=>some c
  | false=>Ue l f fns
section
variable {O:Alg} (P:Program) (cfg:Cfg)
def one (c:AC O):AV O:=.val { agg:=false,cs:=[c] }
def ev (ctx:List (Nat×Bool)) (T:TypeId):Operand→RM O (AV O)
 | .tmp n=>.t n fun
  | some tv=>match Z0 tv.gs ctx with
   | true=>.ret tv.v
   | false => .fail "a guarded temporary"
  | none => .fail "no such temporary"
 | .const v=>match O3 P T v with
  | some v=>.ret (.val v)
  | none => .fail "a constant"
 | .func f=>.ret (one (.fn f []))
 | .global _ => .fail "a global"
def evV (ctx:List (Nat×Bool)) (T:TypeId) (x:Operand):RM O (Val O):=(ev P ctx T x).bind fun
 | .val v=>.ret v
 | .tup _ => .fail "a tuple"
def evC (ctx:List (Nat×Bool)) (T:TypeId) (x:Operand):RM O (AC O):=(evV P ctx T x).bind fun v =>
 match v.agg,v.cs with
 | false,[c]=>.ret c
 | _, _ => .fail "not one cell"
def evI (ctx:List (Nat×Bool)):Operand→RM O (O.I)
 | .const (.int k n)=>.ret (O.lit k n)
 | .tmp n=>.t n fun
  | some tv=>match Z0 tv.gs ctx,tv.v with
   | true,.val ⟨false,[.int _ i]⟩=>.ret i
   | _, _ => .fail "no integer"
  | none => .fail "no such temporary"
 | _ => .fail "no integer"
def bn:List (Nat×Bool)→RM O (Option O.B)
 | []=>.ret none
 | (n,want)::r=>.t n fun
  | some ⟨_,.val ⟨false,[.bool b]⟩⟩=>(bn r).bind fun g =>
   let c:=match want with | true=>b | false=>O.h b
   .ret (some (match g with | none=>c | some g=>O.ad g c))
  | _ => .fail "no guard"
def gW (ops:List Oper) (o:Oper):RM O (List (Nat×Bool)):=match o.guard with
 | none=>.ret []
 | some (j,want)=>match (ops[j]?).bind (·.dst) with
  | some d=>.t d fun
   | some tv=>.ret ((d,want)::tv.gs)
   | none => .fail "no such guard"
  | none => .fail "a guard without a value"
def da (g:Option O.B) (a:O.B):O.B:=match g with
 | none=>a
 | some g=>O.h (O.ad g (O.h a))
def cZ (b:O.B):AC O→AC O→Option (AC O)
 | .int k x,.int k' y=>match Ra k k' with
  | true=>some (.int k (O.ai b x y))
  | false=>none
 | .bool x,.bool y=>some (.bool (O.i b x y))
 | .str x,.str y=>some (.str (O.ba b x y))
 | .imm e nw x,.imm e' nw' y=>match Nat.beq e e' with
  | true=>some (.imm e (nw&&nw') (O.bb b x y))
  | false=>none
 | _,_=>none
def CM (b:O.B):List (AC O)→List (AC O)→Option (List (AC O))
 | [],[]=>some []
 | x::xs,y::ys=>match cZ b x y,CM b xs ys with
  | some c,some r=>some (c::r)
  | _,_=>none
 | _,_=>none
def vD (op:BinOp) (a b:O.I):Option O.B:=match op with
 | .eql=>some (O.d a b)
 | .neq=>some (O.h (O.d a b))
 | .lss=>some (O.l a b)
 | .leq=>some (O.v a b)
 | .gtr=>some (O.l b a)
 | .geq=>some (O.v b a)
 | _=>none
def eqC:AC O→AC O→Option O.B
 | .int k a,.int k' b=>match Ra k k' with
  | true=>some (O.d a b)
  | false=>none
 | .bool a,.bool b=>some (O.ao a b)
 | .str a,.str b=>some (O.aj a b)
 | _,_=>none
def JW:List (AC O)→List (AC O)→Option O.B
 | [],[]=>some O.k
 | [x],[y]=>eqC x y
 | x::xs,y::ys=>match eqC x y,JW xs ys with
  | some a,some r=>some (O.ad a r)
  | _,_=>none
 | _,_=>none
def Ub:LK→AC O→Bool
 | .int k,.int k' _=>Ra k k'
 | .bool,.bool _=>true
 | .str,.str _=>true
 | _,_=>false
def BV:List TypeId→List (AC O)→Bool
 | [],[]=>true
 | t::ts,c::cs=>match Ub (AJ P t) c with
  | true=>BV ts cs
  | false=>false
 | _,_=>false
def VA:Nat→List Field→Bool
 | _,[]=>true
 | off, f :: fs => match Nat.beq f.offset off && (f.name != "_") with
  | true=>VA (off+P.cellsOf f.type) fs
  | false=>false
def Ow:Option (List Nat)→Option (List Nat)→Bool
 | some a,some b=>Af a b
 | _,_=>false
def Uv:Nat→TypeId→Bool
 | 0,_=>false
 | n+1,t=>match P.underlying t with
  | some .bool | some (.int _) | some .string=>Ow (AO P t) (some [t])
  | some (.struct fs) => !P.stoodInHeld t&&VA P 0 fs.toList&&fs.toList.all (fun f=>Uv n f.type)&&Ow (AO P t) (Mc (fs.toList.map fun f=>AO P f.type))
  | some (.array k e)=>Uv n e&&Ow (AO P t) ((AO P e).map (Dr k))
  | _=>false
def HK:Operand→Bool
 | .const (.int _ n) => !(n==0)
 | _=>false
def dN:AC O→RM O (O.Lf×List (Nat×Option (HEnt O))×Bool)
 | .int _ i=>.ret (.int i,[],true)
 | .bool b=>.ret (.bool b,[],true)
 | .str s=>.ret (.str s,[],true)
 | .nil _=>.ret (.rows O.z,[],true)
 | .imm _ nw l=>.ret (.rows l,[],nw)
 | .own _ id=>.h id fun
  | some h=>.ret (.rows h.l,[(id,some { h with frozen:=true,dirty:=true })],h.nw)
  | none => .fail "a slice that is gone"
 | _ => .fail "no data"
def LL:List (AC O)→RM O (List O.Lf×List (Nat×Option (HEnt O))×Bool)
 | []=>.ret ([],[],true)
 | c::r=>(dN c).bind fun (a,h,n)=>(LL r).bind fun (as,hs,ns)=>.ret (a::as,h++hs,n&&ns)
def Ct {α:Type}:List α→Nat→List α→Option (List α)
 | l,_,[]=>some l
 | [],_,_::_=>none
 | x::l,0,y::ys=>(Ct l 0 ys).map (y::·)
 | x::l,n+1,ys=>(Ct l n ys).map (x::·)
def FX {α:Type} (l:List α) (off n:Nat):Option (List α) :=
 let r:=(l.drop off).take n
 match Nat.beq r.length n with
 | true=>some r
 | false=>none
def Qe (f:Nat→Option (List (AC O))) (i:O.I):Nat→Option (List (AC O))
 | 0=>f 0
 | k+1=>match Qe f i k,f (k+1) with
  | some r,some c=>CM (O.d i (O.lit .i64 ((k+1:Nat):Int))) c r
  | _,_=>none
def gj (off sz inner:Nat) (i:O.I) (v:List (AC O)):Nat→List (AC O)→Option (List (AC O))
 | 0,cs=>some cs
 | k+1,cs=>match FX cs (off+k * sz+inner) v.length with
  | none=>none
  | some old=>match CM (O.d i (O.lit .i64 (k:Int))) v old with
   | none=>none
   | some new=>match Ct cs (off+k * sz+inner) new with
    | none=>none
    | some cs=>gj off sz inner i v k cs
def jz (T:TypeId):AC O→RM O (List (AC O))
 | .ptr b off=>.b b fun
  | some e => RM.ofOpt "load" (FX e.cs off (P.cellsOf T))
  | none => .fail "no such variable"
 | .aptr b off n sz i inner=>.b b fun
  | some e =>
   match n with
   | 0 => .fail "an array of no elements"
   | n + 1 => RM.ofOpt "load of an element" (Qe (fun k => FX e.cs (off + k * sz + inner) (P.cellsOf T)) i n)
  | none => .fail "no such variable"
 | .eptr id i off=>.h id fun
  | some h=>match Tm P h.e off T with
   | some ts => RM.ofOpt "load of a row" (OZ P h.nw h.l i off ts)
   | none => .fail "a row of another type"
  | none => .fail "a slice that is gone"
 | .iptr e nw l i off=>match Tm P e off T with
  | some ts => RM.ofOpt "load of a row" (OZ P nw l i off ts)
  | none => .fail "a row of another type"
 | _ => .fail "load no address"
def XO:AC O→RM O (TypeId×O.L×Bool)
 | .nil e=>.ret (e,O.z,true)
 | .imm e nw l=>.ret (e,l,nw)
 | .own _ id=>.h id fun
  | some h=>.ret (h.e,h.l,h.nw)
  | none => .fail "a slice that is gone"
 | _ => .fail "no slice"
def Qx (T:TypeId) (f:Nat):Option Field:=match P.underlying T with
 | some (.struct fs)=>fs.toList[f]?
 | _=>none
def DM (n:Nat):AC O→Option (AC O)
 | .ptr b off=>some (.ptr b (off+n))
 | .aptr b off m sz i inner=>some (.aptr b off m sz i (inner+n))
 | .eptr id i off=>some (.eptr id i (off+n))
 | .iptr e nw l i off=>some (.iptr e nw l i (off+n))
 | _=>none
def X9 (place:Nat→Option (Nat×TypeId)) (ctx:List (Nat×Bool)):List (Nat×Operand)→List (AC O)→RM O (List (AC O))
 | [],cs=>.ret cs
 | (i,x)::r,cs=>match place i with
  | none => .fail "no such part"
  | some (off, T) => (evV P ctx T x).bind fun v => (RM.guard (Nat.beq v.cs.length (P.cellsOf T) && Nat.blt 0 v.cs.length) "a part of another size").bind fun _ =>
   match Ct cs off v.cs with
   | some cs=>X9 place ctx r cs
   | none => .fail "a part that does not fit"
def Hv {α:Type} (n:Nat):Nat→List α→List (List α)
 | 0,_=>[]
 | k+1,l=>l.take n::Hv n k (l.drop n)
def jR:List (List (AC O))→RM O (List (List O.Lf)×List (Nat×Option (HEnt O))×Bool)
 | []=>.ret ([],[],true)
 | c::r=>(LL c).bind fun (a,h,n)=>(jR r).bind fun (as,hs,ns)=>.ret (a::as,h++hs,n&&ns)
def XM (lt:O.I→O.I→O.B):AC O→List (AC O)→Option (AC O)
 | c,[]=>some c
 | .int k x,.int k' y::r=>match Ra k k' with
  | true=>XM lt (.int k (O.ai (lt y x) y x)) r
  | false=>none
 | _,_=>none
def mi (ctx:List (Nat×Bool)) (T:TypeId):List Operand→RM O (List (AC O))
 | []=>.ret []
 | x::r=>(evC P ctx T x).bind fun c=>(mi ctx T r).bind fun l=>.ret (c::l)
def gt:AC O→Bool
 | .int _ _ | .bool _ | .str _ | .nil _=>true
 | _=>false
def BD:LK→AC O→Bool
 | .int k,.int k' _=>Ra k k'
 | .bool,.bool _=>true
 | .str,.str _=>true
 | .sl e,.nil e'=>Nat.beq e e'
 | .sl e,.imm e' _ _=>Nat.beq e e'
 | .sl e,.own e' _=>Nat.beq e e'
 | _,_=>false
def AX:List TypeId→List (AC O)→Bool
 | [],[]=>true
 | t::ts,c::cs=>match BD (AJ P t) c with
  | true=>AX ts cs
  | false=>false
 | _,_=>false
def OC (ts:List TypeId):List (List (AC O))→Bool
 | []=>true
 | r::rs=>match AX P ts r with
  | true=>OC ts rs
  | false=>false
def ZR:Operand→Operand→Bool
 | .tmp a,.tmp b=>Nat.beq a b
 | .const (.int _ a),.const (.int _ b)=>decide (a=b)
 | _,_=>false
def Se:List (AC O)→Bool
 | []=>true
 | .any _::_=>false
 | _::r=>Se r
def bp (T:TypeId):List (AC O)→List (AC O)
 | [.nilptr,.nil e]=>[.any T,.nil e]
 | cs=>cs
def mO (T:TypeId) (v:List (AC O)):AC O→RM O (Wr O)
  | .ptr b off=>.b b fun
    | some e => (RM.guard (Nat.beq v.length (P.cellsOf T) && Nat.blt 0 v.length) "store size").bind fun _ =>
      (RM.ofOpt "store" (Ct e.cs off v)).bind fun cs => (RM.guard (Se cs) "store").bind fun _ => .ret { bs := [(b, some { cs, dirty := true })] }
    | none => .fail "no such variable"
  | .aptr b off n sz i inner=>.b b fun
    | some e =>
      (RM.guard (Nat.beq v.length (P.cellsOf T) && Nat.blt 0 v.length) "store size").bind fun _ =>
      (RM.ofOpt "store of an element" (gj off sz inner i v n e.cs)).bind fun cs => (RM.guard (Se cs) "store").bind fun _ => .ret { bs := [(b, some { cs, dirty := true })] }
    | none => .fail "no such variable"
  | .eptr id i off=>.h id fun
    | some h => (RM.guard (!h.frozen) "a store into a shared slice").bind fun _ =>
      match Tm P h.e off T with
      | some ts => (RM.guard (Nat.beq v.length ts.length && Nat.beq v.length (P.cellsOf T)) "store size").bind fun _ =>
        (LL v).bind fun (ls, fr, nw) => (RM.guard (AX P ts v && !Co id (fr.map (·.1))) "store kinds").bind fun _ =>
          .ret { hs:=fr++[(id,some { h with l:=O.ae h.l i off ls,nw:=h.nw&&nw,dirty:=true })] }
      | none => .fail "a row of another type"
    | none => .fail "a slice that is gone"
  | _ => .fail "store no address"
def gm (ctx:List (Nat×Bool)):List Operand→RM O (List (Cap O))
 | []=>.ret []
 | x::r=>(evC P ctx 0 x).bind fun
  | .ptr b off=>(gm ctx r).bind fun l=>.ret (.box b off::l)
  | _ => .fail "makeFunc captured"
def cW (ctx:List (Nat×Bool)):List TypeId→List Operand→RM O (List (AV O))
 | [],[]=>.ret []
 | t::ts,x::xs=>(ev P ctx t x).bind fun v=>(cW ctx ts xs).bind fun r=>.ret (v::r)
 | _, _ => .fail "arguments"
def Tn (used:List Nat):List (AC O)→RM O (List O.Lf×List Nat)
 | []=>.ret ([],used)
 | .own _ id::r=>.h id fun
  | some h=>match !h.frozen && !Co id used with
   | true=>(Tn (id::used) r).bind fun (ls,u)=>.ret (.rows h.l::ls,u)
   | false => .fail "a slice that cannot be handed over"
  | none => .fail "a slice that is gone"
 | .imm _ _ _ :: _ => .fail "a shared slice cannot be handed over"
 | c::r=>(dN c).bind fun (l,_,_)=>(Tn used r).bind fun (ls,u)=>.ret (l::ls,u)
def oc:AC O→Bool
 | .ptr .. | .aptr .. | .eptr .. | .iptr .. | .fn .. | .nilptr | .tail .. | .any ..=>false
 | _=>true
def H9:List (AV O)→Option (List Nat)
 | []=>some []
 | .val ⟨false,[.fn f _]⟩::r=>(H9 r).map (f::·)
 | .val v::r=>match v.cs.all oc with
  | true=>H9 r
  | false=>none
 | .tup _::_=>none
def dh (n:Nat):List Oper→Option TypeId
 | []=>none
 | o::r=>match o.op with
  | .load T (.tmp m)=>match Nat.beq m n with
   | true=>some T
   | false=>dh n r
  | _=>dh n r
def orT:Option TypeId→Option TypeId→Option TypeId
 | some t,_=>some t
 | none,x=>x
def dD (n:Nat):Code→Option TypeId
 | .region _ ops _=>dh n ops.toList
 | .seq a b | .cond _ a b=>orT (dD n a) (dD n b)
 | .block _ b | .loop b | .scope b=>dD n b
 | _=>none
def ma (b:Code):Nat→Nat→Option (List TypeId)
 | _,0=>some []
 | n,k+1=>match dD n b,ma b (n+1) k with
  | some t,some r=>some (t::r)
  | _,_=>none
def mv (P:Program) (f:FuncId):Option (List TypeId):=match P.funcs[f]? with
 | some fn=>match fn.nfree with
  | 0=>some []
  | k+1=>match fn.body with
   | some b=>ma b fn.params.size (k+1)
   | none=>none
 | none=>none
def jN (T:TypeId):Nat→List TypeInfo→Option TypeId
 | _,[]=>none
 | i,x::r=>match x.desc with
  | .slice e=>match Nat.beq e T with
   | true=>some i
   | false=>jN T (i+1) r
  | _=>jN T (i+1) r
def nT (P:Program) (T:TypeId):Bool:=match jN T 0 P.types.toList with
 | some t=>(match AJ P t with | .sl e=>Nat.beq e T | _=>false)
 | none=>false
def dj:AC O→Bool
 | .int _ _ | .bool _ | .str _=>true
 | _=>false
def jH:List TypeId→List (Cap O)→RM O (List O.Lf)
  | [],[]=>.ret []
  | T::ts,.box b off::r=>.b b fun
    | some e=>match AO P T,FX e.cs off (P.cellsOf T) with
      | some l, some cs => (RM.guard (AX P l cs && cs.all dj && nT P T) "a variable that is taken along").bind fun _ =>
        (LL cs).bind fun (ls,_,_)=>(jH ts r).bind fun more=>.ret (.rows (O.ac [ls])::more)
      | _, _ => .fail "a variable that is taken along"
    | none => .fail "no such variable"
  | _, _ => .fail "what is taken along"
def Ek:List TypeId→List O.Lf→Option (List (Cap O)×List O.Lf)
 | [],ls=>some ([],ls)
 | t::ts,.rows l::ls=>(Ek ts ls).map fun (c,r)=>(.row t l::c,r)
 | _::_,_=>none
def LH:List Bool→List Nat→List (AV O)→RM O (List O.Lf×List (Nat×Option (HEnt O))×List Nat)
 | _,used,[]=>.ret ([],[],used)
 | gv, used, .val ⟨false, [.fn f caps]⟩ :: r => (RM.ofOpt "what is taken along" (mv P f)).bind fun ts => (jH P ts caps).bind fun cl => (LH gv.tail used r).bind fun (ls', fr', u') => .ret (cl ++ ls', fr', u')
 | gv,used,.val v::r=>match gv.headD false with
  | true=>(Tn used v.cs).bind fun (ls,u)=>(LH gv.tail u r).bind fun (ls',fr,u')=>.ret (ls++ls',fr,u')
  | false=>(LL v.cs).bind fun (ls,fr,_)=>(LH gv.tail used r).bind fun (ls',fr',u')=>.ret (ls++ls',fr++fr',u')
 | _, _, .tup _ :: _ => .fail "arguments"
def bq (used:List Nat):List (Nat×Option (HEnt O))→Bool
 | []=>true
 | (n,_)::r => !Co n used&&bq used r
def BU (own:Nat→Bool) (nw:Bool) (c:O.C):Nat→Nat→List TypeId→Option (List (Val O)×List (Nat×HEnt O))
 | _,_,[]=>some ([],[])
 | j,q,t::ts=>match AO P t with
  | none=>none
  | some l=>match As P own nw c j q l with
   | none=>none
   | some (cs,h)=>match BU own nw c (j+l.length) (q+h.length) ts with
    | none=>none
    | some (vs,hs)=>some ({ agg:=AW P t,cs }::vs,h++hs)
def Jg:List (Val O)→AV O
 | [v]=>.val v
 | vs=>.tup vs
def I7 (P:Program):List TypeId→Option (List TypeId)
 | []=>some []
 | t::ts=>match AO P t,I7 P ts with
  | some a,some r=>some (a++r)
  | _,_=>none
def X2 (P:Program):List TypeId→Nat
 | []=>0
 | t::ts=>(match AJ P t with | .sl _=>1 | _=>0)+X2 P ts
def aO (P:Program) (e:TypeId):Bool:=match AO P e with
 | some l=>Nat.beq (X2 P l) 0
 | none=>false
def BS (P:Program) (o:Oper):Nat:=match o.op with
 | .call c=>match c.callee with
  | .builtin _=>1
  | _=>16
 | .alloc _ | .box _ _ | .buildSlice _ _ _ | .makeSlice _ _ _ | .convert _ _ _ | .slice _ _ _ _ _=>1
 | .makeMap _ _ | .mapUpdate _ _ _ _ | .lookup _ _ _ _ | .mapEntry _ _ _ | .entryStore _ _ _ _=>1
 | _=>0
def HB:List TypeId→List (AV O)→Bool
 | [],[]=>true
 | t::ts,v::vs=>(match AJ P t,v with
  | .fn,.val ⟨false,[.fn _ _]⟩=>true
  | .fn,_=>false
  | _,.val ⟨false,[.fn _ _]⟩=>false
  | _,.val v=>match AO P t with
   | some l=>v.agg==AW P t&&AX P l v.cs
   | none=>false
  | _,.tup _=>false)&&HB ts vs
 | _,_=>false
def RB:List (AV O)→Bool
 | []=>true
 | .val ⟨false,[.fn _ (_::_)]⟩::_=>false
 | _::r=>RB r
def sR {α:Type} (g:Option α) (b:Nat→Bool):Nat→Bool:=match g with
 | none=>b
 | some _=>fun _=>false
def kG (ctx:List (Nat×Bool)) (g:Option O.B) (id:Nat) (d:Option Nat) (ci:CI) (fn:Func) (fr:List (Nat×Option (HEnt O))) (u:List Nat):O.C→Option (Wr O):=fun c =>
 match BU P (sR g ci.ow) ci.nw c 0 id fn.resultTypes.toList with
  | none=>none
  | some (vs,nh)=>match Nat.ble nh.length 16 with
   | true=>some { ts:=match d with | some d=>[(d,some ⟨ctx,Jg vs⟩)] | none=>[],hs:=(match ci.nw with | true=>[] | false=>fr)++(u.map (fun n=>(n,none))++nh.map fun (n,h)=>(n,some h)) }
   | false=>none
def ct (gives:List Bool):Bool:=Nat.blt 8 gives.length
def X6 (gives:List Bool) (used:List Nat) (fr:List (Nat×Option (HEnt O))):Bool:=bq used fr&&(!ct gives||used.isEmpty)
def Zg (ctx:List (Nat×Bool)) (g:Option O.B) (id:Nat) (d:Option Nat) (f:FuncId) (caps:List (Cap O)) (args:List (AV O)):RM O (StepRes O) :=
  let inl:RM O (StepRes O):=match g with
    | none=>.ret (.inl f (args++caps.map fun c=>one c.ac))
    | some _ => .fail "a call under a guard that has no contract"
  match caps with
  | _::_=>inl
  | []=>match H9 args with
    | none=>inl
    | some fns=>match Ue cfg.gam f fns with
      | none=>inl
      | some ci=>match P.funcs[f]? with
        | none => .fail "no such function"
        | some fn => (RM.guard (fn.body.isSome && !(fn.name == "runtime.NumGoroutine") && (HB P fn.params.toList args && (ci.nw || RB args))) "a callee").bind fun _ =>
          (LH P ci.gives [] args).bind fun (ls,fr,used)=>match (I7 P fn.resultTypes.toList).bind (sI P),X6 ci.gives used fr with
          | some dm,true=>.ret (.call g f fns ls dm (kG P ctx g id d ci fn fr used))
          | _, _ => .fail "a result that is no data"
abbrev Ju (O:Alg):=List O.B×AV O×List (Nat×Option (HEnt O))
def okP (as:List O.B) (v:AV O):RM O (Ju O):=.ret (as,v,[])
def Oa (T:TypeId) (n:Nat):Bool:=(P.underlying T).isSome&&(AW P T||Nat.beq n 1)
def ph (ctx:List (Nat×Bool)) (ty:TypeId) (n:Nat) (a b:Operand):RM O (Ju O):=.t n fun
  | some tv=>match Z0 tv.gs ctx,tv.v with
    | true,.val ⟨false,[.bool c]⟩ =>
      (evV P ((n,true)::ctx) ty a).bind fun x=>(evV P ((n,false)::ctx) ty b).bind fun y =>
      match x.agg==y.agg,CM c x.cs y.cs with
      | true,some cs=>okP [] (.val { agg:=x.agg,cs })
      | _, _ => .fail "pick"
    | _, _ => .fail "pick no bool"
  | none => .fail "no such temporary"
def np (op:BinOp) (T:TypeId) (y:Operand) (a b:Val O):RM O (Ju O):=match a.agg,b.agg,a.cs,b.cs with
 | false,false,[.int k i],[.int k' j]=>match Ra k k' with
  | false => .fail "operands of different kinds"
  | true=>match op with
   | .add=>okP [] (one (.int k (O.s k i j)))
   | .sub=>okP [] (one (.int k (O.x k i j)))
   | .mul=>okP [] (one (.int k (O.am k i j)))
   | .quo=>okP (match HK y with | true=>[] | false=>[O.h (O.d j (O.lit k 0))]) (one (.int k (O.aw k i j)))
   | .rem=>okP (match HK y with | true=>[] | false=>[O.h (O.d j (O.lit k 0))]) (one (.int k (O.an k i j)))
   | op=>match vD op i j with
    | some c=>okP [] (one (.bool c))
    | none => .fail "an operator on integers"
 | false,false,[.str s],[.str t]=>match op with
  | .eql=>okP [] (one (.bool (O.aj s t)))
  | .neq=>okP [] (one (.bool (O.h (O.aj s t))))
  | .lss=>okP [] (one (.bool (O.bc s t)))
  | .add=>okP [O.r (O.u s) 1,O.r (O.u t) 1] (one (.str (O.af s t)))
  | _ => .fail "an operator on strings"
 | p,q,xs,ys=>match AO P T with
  | none => .fail "an operator"
  | some ts=>match p==AW P T&&q==AW P T&&Uv P CV T && !P.eqGuardType P.depth T&&BV P ts xs&&BV P ts ys,op,JW xs ys with
   | true,.eql,some c=>okP [] (one (.bool c))
   | true,.neq,some c=>okP [] (one (.bool (O.h c)))
   | _, _, _ => .fail "an operator"
def fQ (src dst:TypeId) (c:AC O):RM O (Ju O):=match P.underlying src with
 | none => .fail "convert"
 | some _=>match AJ P dst,c with
  | .int k,.int _ i=>okP [] (one (.int k (O.au k i)))
  | .str,.str s=>okP [] (one (.str s))
  | _, _ => .fail "convert"
def TJ (T:TypeId) (p:AC O) (ix:Operand) (i:O.I):RM O (Ju O):=match P.underlying T with
 | some (.array n e) => (RM.guard (Nat.blt 0 (P.cellsOf e)) "indexAddr element").bind fun _ => match ix with
  | .const (.int _ c)=>match decide (0≤c∧c<n),DM (c.toNat * P.cellsOf e) p with
   | true,some p=>okP [] (one p)
   | _, _ => .fail "indexAddr"
  | _=>match p with
   | .ptr b off=>okP [O.t i (O.lit .i64 n)] (one (.aptr b off n (P.cellsOf e) i 0))
   | _ => .fail "indexAddr an array in an array"
 | some (.slice e)=>match p with
  | .own e' h => (XO (AC.own e' h : AC O)).bind fun (_, l, _) => (RM.guard (Nat.beq e e') "indexAddr element").bind fun _ =>
   okP [O.t i (O.m l)] (one (.eptr h i 0))
  | .imm e' nw l => (RM.guard (Nat.beq e e') "indexAddr element").bind fun _ => okP [O.t i (O.m l)] (one (.iptr e' nw l i 0))
  | .nil e=>okP [O.f] (one (.iptr e true O.z i 0))
  | _ => .fail "indexAddr no slice"
 | _ => .fail "indexAddr type"
def dg (T:TypeId) (v:Val O) (ix:Operand) (i:O.I):RM O (Ju O):=match P.underlying T,v.agg,v.cs with
 | some .string,false,[.str s]=>okP [O.t i (O.u s)] (one (.int .u8 (O.ax s i)))
 | some (.array n e),true,cs=>match ix with
  | .const (.int _ c)=>match decide (0≤c∧c<n),FX cs (c.toNat * P.cellsOf e) (P.cellsOf e) with
   | true, some cs => (RM.guard (Oa P e cs.length) "index size").bind fun _ => okP [] (.val { agg := AW P e, cs })
   | _, _ => .fail "index"
  | _=>match n with
   | 0 => .fail "an array of no elements"
   | n+1=>match Qe (fun k=>FX cs (k * P.cellsOf e) (P.cellsOf e)) i n with
    | some cs => (RM.guard (Oa P e cs.length) "index size").bind fun _ =>
     okP [O.t i (O.lit .i64 ((n+1:Nat):Int))] (.val { agg:=AW P e,cs })
    | none => .fail "index of an array"
 | _, _, _ => .fail "index type"
def cu (ctx:List (Nat×Bool)) (d:O.I):Option Operand→RM O O.I
 | none=>.ret d
 | some x=>evI ctx x
def XI:Option Operand→Bool
 | none=>true
 | some (.const (.int _ n))=>decide (n=0)
 | _=>false
def qN (ctx:List (Nat×Bool)) (e':TypeId) (c:AC O) (lo hi:Option Operand):RM O (Ju O) :=
  (XO c).bind fun (e, l, nw) => (RM.guard (Nat.beq e e') "slice").bind fun _ =>
  (cu ctx (O.lit .i64 0) lo).bind fun a=>(cu ctx (O.m l) hi).bind fun b=>match c with
  | .own _ h=>.h h fun
    | some en=>.ret ([O.al a b (O.m l)],one (.imm e nw (O.aq l a b)),[(h,some { en with frozen:=true,dirty:=true })])
    | none => .fail "a slice that is gone"
  | _=>okP [O.al a b (O.m l)] (one (.imm e nw (O.aq l a b)))
def dP (ctx:List (Nat×Bool)) (T:TypeId) (c:AC O) (lo hi mx:Option Operand):RM O (Ju O):=match mx with
 | some m=>match P.underlying T,c,XI lo,XI hi&&hi.isSome,XI (some m) with
  | some (.slice e'),.imm e _ _,true,true,true=>match Nat.beq e e' with
   | true=>okP [] (one (.nil e))
   | false => .fail "slice"
  | _, _, _, _, _ => .fail "slice with three bounds"
 | none=>match P.underlying T with
  | some .string=>match c with
   | .str s=>(cu ctx (O.lit .i64 0) lo).bind fun l=>(cu ctx (O.u s) hi).bind fun h =>
    okP [O.al l h (O.u s)] (one (.str (O.ar s l h)))
   | _ => .fail "slice"
  | some (.slice e')=>qN ctx e' c lo hi
  | _ => .fail "slice"
def Xg (ctx:List (Nat×Bool)) (ty:TypeId):Op→RM O (Ju O)
  | .move x | .assign x=>(ev P ctx ty x).bind fun v=>okP [] v
  | .pick (.tmp n) a b=>ph P ctx ty n a b
  | .build T parts=>match Qn P T with
    | none => .fail "build"
    | some z=>match z.agg with
      | false => .fail "build"
      | true=>(match P.underlying T with
        | some (.struct fs) => (RM.guard (fs.toList.all fun f => (P.info? f.type).isSome) "build fields").bind fun _ =>
          X9 P (fun i=>(fs.toList[i]?).map fun (f:Field)=>(f.offset,f.type)) ctx parts.toList z.cs
        | some (.array _ e) => (RM.guard (Nat.blt 0 (P.cellsOf e)) "build element").bind fun _ => X9 P (fun i => some (i * P.cellsOf e, e)) ctx parts.toList z.cs
        | _ => .fail "build type").bind fun cs => okP [] (.val { agg := true, cs })
  | .load T a=>(evC P ctx T a).bind fun p=>(jz P T p).bind fun cs =>
    (RM.guard (Oa P T cs.length) "load size").bind fun _ => okP [] (.val { agg := AW P T, cs })
  | .nilCheck x=>(evC P ctx ty x).bind fun p=>match p with
    | .ptr b off=>okP [] (one (.ptr b off))
    | .eptr i x off=>okP [] (one (.eptr i x off))
    | .iptr e nw l i off=>okP [] (one (.iptr e nw l i off))
    | .aptr b off n sz i inner=>okP [] (one (.aptr b off n sz i inner))
    | _ => .fail "nilCheck"
  | .binOp op T x y yT=>(evV P ctx T x).bind fun a=>(evV P ctx yT y).bind fun b=>np P op T y a b
  | .unOp op T x=>(evC P ctx T x).bind fun c=>match op,c with
    | .not,.bool b=>okP [] (one (.bool (O.h b)))
    | .neg,.int k i=>okP [] (one (.int k (O.x k (O.lit k 0) i)))
    | _, _ => .fail "a unary operator"
  | .convert src dst x=>(evC P ctx src x).bind fun c=>fQ P src dst c
  | .extract x i=>(ev P ctx ty x).bind fun
    | .tup vs=>match vs[i]? with
      | some v=>okP [] (.val v)
      | none => .fail "extract"
    | .val _ => .fail "extract"
  | .field T x f=>(evV P ctx T x).bind fun v=>match Qx P T f with
    | none => .fail "field"
    | some fd=>match v.agg,FX v.cs fd.offset (P.cellsOf fd.type) with
      | true, some cs => (RM.guard (Oa P fd.type cs.length) "field size").bind fun _ => okP [] (.val { agg := AW P fd.type, cs })
      | _, _ => .fail "field"
  | .fieldAddr T x f=>(evC P ctx T x).bind fun p=>match Qx P T f with
    | none => .fail "fieldAddr"
    | some fd => (RM.guard (!Nat.beq (P.cellsOf fd.type) 0) "a field of no size").bind fun _ => match DM fd.offset p with
      | some p=>okP [] (one p)
      | none => .fail "fieldAddr no address"
  | .indexAddr T x ix=>(evC P ctx T x).bind fun p=>(evI ctx ix).bind fun i=>TJ P T p ix i
  | .index T x ix=>(evV P ctx T x).bind fun v=>(evI ctx ix).bind fun i=>dg P T v ix i
  | .slice T x lo hi mx=>(evC P ctx T x).bind fun c=>dP P ctx T c lo hi mx
  | .makeFunc (.func f) first caps=>match first.toList with
    | []=>(gm P ctx caps.toList).bind fun l=>okP [] (one (.fn f l))
    | _ => .fail "makeFunc"
  | .call c=>match c.callee with
    | .builtin .len=>match c.args.toList,c.argTypes.toList with
      | [x],[T]=>match P.underlying T with
        | some (.array n _)=>okP [] (one (.int .i64 (O.lit .i64 n)))
        | some .string=>(evC P ctx T x).bind fun
          | .str s=>okP [] (one (.int .i64 (O.u s)))
          | _ => .fail "len"
        | some (.slice _)=>(evC P ctx T x).bind fun v=>(XO v).bind fun (_,l,_)=>okP [] (one (.int .i64 (O.m l)))
        | _ => .fail "len"
      | _, _ => .fail "len"
    | .builtin .min=>(mi P ctx ty c.args.toList).bind fun
      | v::u::r=>match XM O.l v (u::r) with
        | some m=>okP [] (one m)
        | none => .fail "min"
      | _ => .fail "min"
    | .builtin .max=>(mi P ctx ty c.args.toList).bind fun
      | v::u::r=>match XM (fun a b=>O.l b a) v (u::r) with
        | some m=>okP [] (one m)
        | none => .fail "max"
      | _ => .fail "max"
    | _ => .fail "call"
  | _ => .fail "an operation"
abbrev uU (O:Alg):=List O.B×AC O×Wr O
def I3 (ctx:List (Nat×Bool)) (id:Nat):Op→RM O (uU O)
  | .alloc T=>match Qn P T with
    | some v => (RM.guard (Nat.beq v.cs.length (P.cellsOf T) && Se v.cs) "alloc size").bind fun _ => .ret ([], .ptr id 0, { bs := [(id, some { cs := bp T v.cs, dirty := true })] })
    | none => .fail "alloc"
  | .box T x => (evV P ctx T x).bind fun v => (RM.guard (Se v.cs) "a variable").bind fun _ => .ret ([], .ptr id 0, { bs := [(id, some { cs := v.cs, dirty := true })] })
  | .buildSlice T len parts=>match X4 P T with
    | none => .fail "buildSlice"
    | some e=>match Qn P e,AO P e with
      | some z, some ts => (RM.guard (Nat.ble (len * P.cellsOf e) 100000 && Nat.beq z.cs.length (P.cellsOf e)) "buildSlice size").bind fun _ =>
        (X9 P (fun i=>some (i * P.cellsOf e,e)) ctx parts.toList (Dr len z.cs)).bind fun cs =>
        (jR (Hv (P.cellsOf e) len cs)).bind fun (rows, fr, nw) => (RM.guard (OC P ts (Hv (P.cellsOf e) len cs)) "buildSlice kinds").bind fun _ =>
        .ret ([],.own e id,{ hs:=fr++[(id,some { e,frozen:=false,nw,l:=O.ac rows,dirty:=true })] })
      | _, _ => .fail "buildSlice zero"
  | .makeSlice T len cap=>match X4 P T with
    | none => .fail "makeSlice"
    | some e=>match Qn P e,P.info? e,AO P e with
      | some z, some ti, some ts => (evI ctx len).bind fun n => (RM.guard (ZR len cap && OC P ts [z.cs] && z.cs.all gt) "makeSlice cap").bind fun _ =>
        (LL z.cs).bind fun (ls,_,_) =>
        .ret ([O.r n ti.bytes],.own e id,{ hs:=[(id,some { e,frozen:=false,nw:=true,l:=O.as n ls,dirty:=true })] })
      | _, _, _ => .fail "makeSlice zero"
  | .call c=>match c.callee,c.args.toList,c.argTypes.toList with
    | .builtin .append,[x,y],[T,U]=>match X4 P T,X4 P U with
      | some e, some e' => (RM.guard (Nat.beq T U) "append types").bind fun _ => (evC P ctx T x).bind fun a => (evC P ctx U y).bind fun b =>
        (XO b).bind fun (eb,lb,nb') =>
        let nb:=nb'||aO P e
        match P.info? e,AO P e,Qn (O:=O) P e with
        | some ti, some _, some z => (RM.guard (Nat.beq e eb && Nat.beq z.cs.length (P.cellsOf e)) "append elements").bind fun _ => match a with
          | .nil ea => (RM.guard (Nat.beq e ea) "append elements").bind fun _ =>
            .ret ([O.r (O.m lb) ti.bytes],.own e id,{ hs:=[(id,some { e,frozen:=false,nw:=nb,l:=lb,dirty:=true })] })
          | .own ea i=>.h i fun
            | some h => (RM.guard (!h.frozen && Nat.beq e ea && Nat.beq e h.e) "append to a shared slice").bind fun _ =>
              .ret ([O.r (O.m (O.ag h.l lb)) ti.bytes],.own e id,
                { hs:=[(i,none),(id,some { e,frozen:=false,nw:=h.nw&&nb,l:=O.ag h.l lb,dirty:=true })] })
            | none => .fail "append a slice that is gone"
          | _ => .fail "append to a slice that came in"
        | _, _, _ => .fail "append type"
      | _, _ => .fail "append types"
    | _, _, _ => .fail "call"
  | .convert src dst x=>(evC P ctx src x).bind fun c=>match AJ P src,AJ P dst,c with
    | .str,.sl e,.str s=>match AJ P e,AO P e with
      | .int .u8,some [t]=>match AJ P t with
        | .int .u8=>.ret ([],.imm e true (O.ap s),{})
        | _ => .fail "convert"
      | _, _ => .fail "convert"
    | _, _, _ => .fail "convert"
  | _ => .fail "an operation"
def oI:Op→Bool
 | .alloc _ | .box _ _ | .buildSlice _ _ _ | .makeSlice _ _ _=>true
 | .convert _ dst _=>match AJ P dst with
  | .sl _=>true
  | _=>false
 | .call c=>match c.callee with
  | .builtin .append=>true
  | _=>false
 | _=>false
def ZJ:List (Nat×Option (HEnt O))→RM O (List (Nat×Option (HEnt O)))
 | []=>.ret []
 | (n,_)::r=>.h n fun
  | some h=>(ZJ r).bind fun l=>.ret ((n,some { h with frozen:=true,dirty:=true })::l)
  | none => .fail "a slice that is gone"
def sF (ctx:List (Nat×Bool)) (id:Nat):Op→RM O (AC O)
 | .buildSlice T len parts=>(I3 P ctx id (.buildSlice T len parts)).bind fun (as,c,w)=>match as,c,w.hs,w.bs with
  | [],.own e q,[(j,some h)],[]=>match Nat.beq q id&&(Nat.beq j id&&Nat.beq e h.e) with
   | true=>.ret (.imm e h.nw h.l)
   | false => .fail "a literal under a guard"
  | _, _, _, _ => .fail "a literal under a guard"
 | _ => .fail "an operation under a guard"
inductive Spec where
 | bld (b:Bld) (x:Operand) (r:List Operand)
def UT (cfg:Cfg):Op→Option Spec
 | .call ⟨.value (.func f),args,_⟩=>match aU cfg.bld f,args.toList with
  | some b,x::r=>some (.bld b x r)
  | _,_=>none
 | _=>none
def ck (u:TypeId):Bool:=match AJ P u,AO P u with
 | .int .u8,some [t]=>(match AJ P t with | .int .u8=>true | _=>false)
 | _,_=>false
def oF (u:TypeId):AC O→RM O (O.L×Bool×List (Nat×Option (HEnt O)))
 | .nil e => (RM.guard (Nat.beq e u) "a builder").bind fun _ => .ret (O.z, true, [])
 | .own e q=>.h q fun
  | some en => (RM.guard (!en.frozen && (Nat.beq e u && Nat.beq en.e u)) "a builder").bind fun _ => .ret (en.l, en.nw, [(q, none)])
  | none => .fail "a slice that is gone"
 | _ => .fail "a builder"
def ga (b:Bld):AC O→RM O (Nat×O.L×Bool×List (Nat×Option (HEnt O)))
 | .ptr n off=>.b n fun
  | some e=>match e.cs with
   | [.any T, c] => (RM.guard (Nat.beq T b.T && (Nat.beq off 0 && ck P b.u)) "a builder").bind fun _ => (oF b.u c).bind fun (l, nw, g) => .ret (n, l, nw, g)
   | _ => .fail "a builder"
  | none => .fail "no such variable"
 | _ => .fail "a builder"
def gO (ctx:List (Nat×Bool)) (id d:Nat) (b:Bld) (c:AC O) (new:O.L) (v:AV O):RM O (Option (StepRes O)) :=
  (ga P b c).bind fun (n,l,nw,g)=>.ret (some (.plain [O.r (O.m (O.ag l new)) 1]
    { ts:=[(d,some ⟨ctx,v⟩)],bs:=[(n,some { cs:=[.any b.T,.own b.u id],dirty:=true })],hs:=g++[(id,some { e:=b.u,frozen:=false,nw,l:=O.ag l new,dirty:=true })] }))
def gh (ctx:List (Nat×Bool)) (id:Nat) (d:Option Nat) (b:Bld) (c:AC O) (r:List Operand):RM O (Option (StepRes O)):=match P.funcs[b.f]? with
 | none => .fail "no such function"
 | some fn => (RM.guard (fn.body.isSome && !(fn.name == "runtime.NumGoroutine")) "a callee without a body").bind fun _ => match b.k, r, d with
  | 0,[y],some d=>(evC P ctx (fn.params[1]?.getD 0) y).bind fun
   | .str s=>gO P ctx id d b c (O.ap s) (.tup [{ agg:=false,cs:=[.int .i64 (O.u s)] },{ agg:=false,cs:=[.any 0] }])
   | _ => .fail "a builder"
  | 1,[y],some d=>(evC P ctx (fn.params[1]?.getD 0) y).bind fun
   | .int .u8 i=>gO P ctx id d b c (O.ac [[.int i]]) (one (.any 0))
   | _ => .fail "a builder"
  | 2,[],some d=>(ga P b c).bind fun (n,l,nw,g)=>.ret (some (.plain [O.r (O.m l) 1,O.az l] { ts:=[(d,some ⟨ctx,one (.str (O.ay l))⟩)],hs:=g }))
  | _, _, _ => .fail "a builder"
def cE (ctx:List (Nat×Bool)) (id:Nat) (d:Option Nat):Spec→RM O (Option (StepRes O))
 | .bld b x r=>(evC P ctx 0 x).bind fun c=>gh P ctx id d b c r
def YD (ctx:List (Nat×Bool)) (g:Option O.B) (o:Oper) (id:Nat):RM O (StepRes O):=match o.op,oI P o.op with
 | .store T a x,_=>match g with
  | some _ => .fail "a store under a guard"
  | none=>(evC P ctx T a).bind fun p=>(evV P ctx T x).bind fun v=>(mO P T v.cs p).bind fun w=>match o.dst with
   | none=>.ret (.plain [] w)
   | some _ => .fail "a store with a value"
 | .call ⟨.value f,args,_⟩,_=>(ev P ctx 0 f).bind fun
  | .val ⟨false,[.fn f caps]⟩=>match P.funcs[f]? with
   | none => .fail "no such function"
   | some fn => (RM.guard (fn.body.isSome && !(fn.name == "runtime.NumGoroutine")) "a callee without a body").bind fun _ => (cW P ctx (fn.params.toList.take args.size) args.toList).bind fun args => Zg P cfg ctx g id o.dst f caps args
  | _ => .fail "call no function"
 | op,true=>match g,o.dst with
  | none,some d=>(I3 P ctx id op).bind fun (as,c,w)=>.ret (.plain as { w with ts:=[(d,some ⟨ctx,one c⟩)] })
  | some _,some d=>(sF P ctx id op).bind fun c=>.ret (.plain [] { ts:=[(d,some ⟨ctx,one c⟩)] })
  | _, none => .fail "an operation under a guard"
 | op,false=>match o.dst with
  | some d=>(Xg P ctx o.type op).bind fun (as,v,fr)=>(ZJ fr).bind fun fr=>.ret (.plain (as.map (da g)) { ts:=[(d,some ⟨ctx,v⟩)],hs:=fr })
  | none => .fail "an operation without a value"
def qb (ctx:List (Nat×Bool)) (g:Option O.B) (o:Oper) (id:Nat):RM O (StepRes O):=match g,UT cfg o.op with
 | none,some sp=>(cE P ctx id o.dst sp).bind fun
  | some r=>.ret r
  | none=>YD P cfg ctx g o id
 | _,_=>YD P cfg ctx g o id
def M9 (ops:List Oper) (o:Oper) (id:Nat):RM O (StepRes O) :=
  (gW ops o).bind fun ctx=>(bn ctx).bind fun g=>qb P cfg ctx g o id
end
structure Ms where
 t:Nat
 r:Nat
def Ms.or (a b:Ms):Ms:=⟨a.t ||| b.t,a.r ||| b.r⟩
def VC:Option Ms→Option Ms→Option Ms
 | some a,some b=>some (a.or b)
 | some a,none=>some a
 | none,b=>b
def cf (a:Ms):Option Ms→Option Ms
 | some b=>some (a.or b)
 | none=>none
structure An where
 nrm:Option Ms
 ret:Option Ms
 exts:List (Nat×Ms)
def A7:List (Nat×Ms)→Nat→Option Ms
 | [],_=>none
 | (j,m)::l,k=>match Nat.beq j k with
  | true=>some m
  | false=>A7 l k
def L3:List (Nat×Ms)→Nat→List (Nat×Ms)
 | [],_=>[]
 | (j,m)::l,k=>match Nat.beq j k with
  | true=>L3 l k
  | false=>(j,m)::L3 l k
def UB (l:List (Nat×Ms)) (k:Nat) (m:Ms):List (Nat×Ms):=match A7 l k with
 | some m'=>(k,m'.or m)::L3 l k
 | none=>(k,m)::l
def Qt:List (Nat×Ms)→List (Nat×Ms)→List (Nat×Ms)
 | [],r=>r
 | (k,m)::l,r=>Qt l (UB r k m)
def Ty (ops:List Oper):Nat→Nat→Nat
 | 0,t=>t
 | n+1,t=>match ops.find? (fun o=>match o.dst with | some d=>Nat.beq d t | none=>false) with
  | some o=>match o.op with
   | .fieldAddr _ (.tmp x) _ | .indexAddr _ (.tmp x) _ | .nilCheck (.tmp x) | .move (.tmp x) | .load _ (.tmp x) | .assign (.tmp x)=>Ty ops n x
   | _=>t
  | none=>t
def mX (P:Program) (all:List Oper):Operand→Nat
 | .tmp a=>match all.find? (fun o=>match o.dst with | some d=>Nat.beq d a | none=>false) with
  | some o=>match AJ P o.type with
   | .ptr | .fn=>D5 (Ty all 40 a)
   | _=>0
  | none=>0
 | _=>0
def rV (P:Program) (all:List Oper):Operand→List Operand→Nat
 | .func f,.tmp a::_=>match P.funcs[f]? with
  | some fn=>match fn.params[0]? with
   | some t=>match AJ P t with
    | .ptr=>D5 (Ty all 40 a)
    | _=>0
   | none=>0
  | none=>0
 | _,_=>0
def ic (P:Program) (all:List Oper):List Oper→Nat
 | []=>0
 | o::r=>(match o.op with
  | .store _ (.tmp a) _=>D5 (Ty all 40 a)
  | .mapUpdate _ (.tmp a) _ _ | .mapEntry _ (.tmp a) _ | .entryStore _ (.tmp a) _ _=>D5 (Ty all 40 a)
  | .call c=>match c.callee with
   | .value f=>c.args.toList.foldl (fun m x=>m ||| mX P all x) (mX P all f) ||| rV P all f c.args.toList
   | .builtin .append=>match c.args.toList with
    | .tmp a::_=>D5 (Ty all 40 a)
    | _=>0
   | _=>0
  | _=>0) ||| ic P all r
def YA:List Oper→Nat
 | []=>0
 | o::r=>(match o.dst with | some d=>D5 d | none=>0) ||| YA r
def an (P:Program):Code→An
 | .skip=>⟨some ⟨0,0⟩,none,[]⟩
 | .region _ ops _=>⟨some ⟨YA ops.toList,ic P ops.toList ops.toList⟩,none,[]⟩
 | .seq a b=>match an P a with
  | ⟨none,r,e⟩=>⟨none,r,e⟩
  | ⟨some m,r,e⟩=>match an P b with
   | ⟨n',r',e'⟩=>⟨cf m n',VC r (cf m r'),Qt (e'.map fun (k,x)=>(k,m.or x)) e⟩
 | .cond _ a b=>match an P a,an P b with
  | ⟨n,r,e⟩,⟨n',r',e'⟩=>⟨VC n n',VC r r',Qt e e'⟩
 | .block id b=>match an P b with
  | ⟨n,r,e⟩=>⟨VC n (A7 e id),r,L3 e id⟩
 | .loop b=>match an P b with
  | ⟨n,r,e⟩=>⟨none,match n with | some m=>cf m r | none=>r,match n with | some m=>e.map (fun (k,x)=>(k,m.or x)) | none=>e⟩
 | .exit id=>⟨none,none,[(id,⟨0,0⟩)]⟩
 | .ret=>⟨none,some ⟨0,0⟩,[]⟩
 | _=>⟨none,none,[]⟩
structure Cn where
 nrm:Nat
 ret:Nat
 exts:List (Nat×Nat)
def oJ:List (Nat×Nat)→Nat→Nat
 | [],_=>0
 | (j,m)::l,k=>match Nat.beq j k with
  | true=>m+oJ l k
  | false=>oJ l k
def cnt:Code→Cn
 | .skip | .region ..=>⟨1,0,[]⟩
 | .seq a b=>match cnt a,cnt b with
  | ⟨0,r,e⟩,_=>⟨0,r,e⟩
  | ⟨n,r,e⟩,⟨n',r',e'⟩=>⟨n',r+r',e++e'⟩
 | .cond _ a b=>match cnt a,cnt b with
  | ⟨n,r,e⟩,⟨n',r',e'⟩=>⟨n+n',r+r',e++e'⟩
 | .block id b=>match cnt b with
  | ⟨n,r,e⟩=>⟨n+oJ e id,r,e.filter fun (k,_) => !Nat.beq k id⟩
 | .loop b=>match cnt b with
  | ⟨n,r,e⟩=>⟨0,(match r with | 0=>0 | _=>1),e.map fun (k,_)=>(k,1)⟩
 | .exit id=>⟨0,0,[(id,1)]⟩
 | .ret=>⟨0,1,[]⟩
 | _=>⟨0,0,[]⟩
def jb:Operand→Nat
 | .tmp t=>D5 t
 | _=>0
def Kr (nt:Nat):List Oper→Bool
 | []=>true
 | o::r=>(match o.dst with | some d=>Nat.blt d nt | none=>true)&&Kr nt r
def Cb (nt:Nat):Code→Bool
 | .region _ ops _=>Kr nt ops.toList
 | .seq a b=>Cb nt a&&Cb nt b
 | .cond _ a b=>Cb nt a&&Cb nt b
 | .block _ b=>Cb nt b
 | .loop b=>Cb nt b
 | _=>true
def gx:List Oper→Nat
 | []=>0
 | o::r=>o.op.operands.toList.foldl (fun m x=>m ||| jb x) 0 ||| gx r
def S8:Code→Nat
 | .region _ ops _=>gx ops.toList
 | .seq a b=>S8 a ||| S8 b
 | .cond c a b=>jb c ||| S8 a ||| S8 b
 | .block _ b | .loop b | .scope b=>S8 b
 | _=>0
def UA:Code→Nat
 | .region _ ops _=>ops.size
 | .seq a b=>UA a+UA b
 | .cond _ a b=>4+UA a+UA b
 | .block _ b=>UA b
 | .loop _=>1000
 | _=>0
inductive Ex where
 | nrm
 | ext (id:Nat)
 | ret
structure Lv where
 nrm:Nat
 ret:Nat
 exts:List (Nat×Nat)
def sO:List (Nat×Nat)→Nat→Nat
 | [],_=>0
 | (j,m)::l,k=>match Nat.beq j k with
  | true=>m
  | false=>sO l k
def Lv.of (lv:Lv):Ex→Nat
 | .nrm=>lv.nrm
 | .ret=>lv.ret
 | .ext id=>sO lv.exts id
def Lv.all (lv:Lv):Nat:=lv.exts.foldl (fun m (_,x)=>m ||| x) (lv.nrm ||| lv.ret)
inductive SlotC where
 | int (k:IntKind) | bool | str | own (e:TypeId) (nw:Bool) | imm (e:TypeId) (nw:Bool) | any (T:TypeId)
inductive Slot where
 | t (n:Nat) (agg:Bool) (cs:List SlotC)
 | b (id:Nat) (cs:List SlotC)
def nN (cfg:Cfg) (e:Nat):Bool:=cfg.imm||Co e cfg.ie
def vm {O:Alg} (s:State O) (cfg:Cfg):AC O→Option SlotC
 | .int k _=>some (.int k)
 | .bool _=>some .bool
 | .str _=>some .str
 | .any T=>some (.any T)
 | .nil e=>some (match nN cfg e with | true=>.imm e (!cfg.old) | false=>.own e (!cfg.old))
 | .imm e nw _=>some (.imm e (nw && !cfg.old))
 | .own e id=>match s.getH id with
  | some h=>some (match h.frozen||nN cfg e with | true=>.imm e (h.nw && !cfg.old) | false=>.own e (h.nw && !cfg.old))
  | none=>none
 | _=>none
def kK {O:Alg} (s:State O) (cfg:Cfg):List (AC O)→Option (List SlotC)
 | []=>some []
 | c::r=>match vm s cfg c,kK s cfg r with
  | some a,some l=>some (a::l)
  | _,_=>none
section
variable {O:Alg} (P:Program) (cfg:Cfg)
def dl (s:State O) (n:Nat):List Nat:=match s.getT n with
 | some ⟨_,.val ⟨false,[.ptr b _]⟩⟩=>[b]
 | some ⟨_,.val ⟨false,[.aptr b _ _ _ _ _]⟩⟩=>[b]
 | some ⟨_,.val ⟨false,[.fn _ caps]⟩⟩=>Hf caps
 | _=>[]
def vb (s:State O) (n:Nat):Bool:=match s.getT n with
 | some ⟨_,.val ⟨false,[.fn _ _]⟩⟩=>true
 | _=>false
def uW (s:State O) (n:Nat):List Nat:=match s.getT n with
 | some ⟨_,.val ⟨false,[.eptr id _ _]⟩⟩=>[id]
 | some ⟨_,.val ⟨false,[.mp _ id]⟩⟩=>[id]
 | _=>[]
def uz (s:State O) (hid:List Nat) (n:Nat):Bool:=match s.getT n with
 | some ⟨_,.val ⟨false,[.own _ id]⟩⟩ => !Co id hid
 | _=>false
def Ku (s:State O):List Nat→List Nat→List (Nat×TypeId×Bool)
 | [],_=>[]
 | n::r,seen=>match Co n seen with
  | true=>Ku s r seen
  | false=>match s.getH n with
   | none=>Ku s r seen
   | some h=>match h.frozen with
    | true=>Ku s r seen
    | false=>(n,h.e,h.nw)::Ku s r (n::seen)
def Mx (m:Nat):Nat→List Nat→List Nat
 | 0,acc=>match m.testBit 0 with | true=>0::acc | false=>acc
 | n+1,acc=>Mx m n (match m.testBit (n+1) with | true=>(n+1)::acc | false=>acc)
def UI (m:Nat):Nat:=m.log2
def Ji (s:State O):List Nat→List Nat→Option (List Slot)
 | [],_=>some []
 | b::r,seen=>match Co b seen with
  | true=>Ji s r seen
  | false=>match s.getB b with
   | none=>Ji s r seen
   | some e=>match kK s cfg e.cs,Ji s r (b::seen) with
    | some cs,some l=>some (.b b cs::l)
    | _,_=>none
def Ld (s:State O):List Nat→List Slot
 | []=>[]
 | n::r=>match s.getT n with
  | some ⟨[],.val v⟩=>match kK s cfg v.cs with
   | some cs=>.t n v.agg cs::Ld s r
   | none=>Ld s r
  | _=>Ld s r
def YB (s:State O) (m:Nat):List Nat:=Mx m (UI m) []
def hOf (s:State O) (m:Ms):List (Nat×TypeId×Bool):=Ku s (((YB s m.r).map (uW s)).flatten) []
def pN (s:State O) (m:Ms) (live:Nat):Option (List Slot) :=
 let rs:=YB s m.r
 let tmps:=(m.t ||| rs.foldl (fun a n=>match uz s ((hOf s m).map (·.1)) n with | true=>a ||| D5 n | false=>a) 0) &&& live
 match Ji cfg s (((rs.filter fun n=>live.testBit n||(Co 60000 cfg.ie&&vb s n)).map (dl s)).flatten) [] with
 | some l=>some (Ld cfg s (Mx tmps (UI tmps) [])++l)
 | none=>none
def CW (s:State O) (m:Ms):List Nat:=((YB s m.r).map (dl s)).flatten
def gf:List (AC O)→List Nat
 | []=>[]
 | .own _ id::r=>id::gf r
 | _::r=>gf r
def sS (s:State O):List Nat→List Nat
 | []=>[]
 | n::r=>(match s.getT n with | some ⟨_,.val v⟩=>gf v.cs | _=>[])++sS s r
def sJ (s:State O):List Nat→List Nat
 | []=>[]
 | b::r=>(match s.getB b with | some e=>gf e.cs | none=>[])++sJ s r
def aL (s:State O) (m:Ms):List Nat:=sS s (Mx (m.t ||| m.r) (UI (m.t ||| m.r)) [])++sJ s (CW s m)
def bh (s:State O) (m:Ms):List Nat:=aL s m++(hOf s m).map (·.1)
def Ob (s:State O) (ids:List Nat):List (Nat×HEnt O):=s.hp.filter fun (n,_) => !Co n ids
def MS (s:State O) (bs:List Nat):List (Nat×BEnt O):=s.bx.filter fun (n,_) => !Co n bs
def cleanB (l:List (Nat×BEnt O)):List (Nat×BEnt O):=l.map fun (n,e)=>(n,{ e with dirty:=false })
def cleanH (l:List (Nat×HEnt O)):List (Nat×HEnt O):=l.map fun (n,e)=>(n,{ e with dirty:=false })
def JO (s:State O) (keep:List Nat) (used:List Nat):SlotC→AC O→Except String (O.Lf×List Nat)
 | .int k, .int k' i => match Ra k k' with | true => .ok (.int i, used) | false => .error "a slot of another kind"
 | .bool,.bool b=>.ok (.bool b,used)
 | .str,.str x=>.ok (.str x,used)
 | .any T, .any T' => match Nat.beq T T' with | true => .ok (.bool O.k, used) | false => .error "a slot of another type"
 | .own e _, .nil e' => match Nat.beq e e' with | true => .ok (.rows O.z, used) | false => .error "a slot of another element"
 | .imm e _, .nil e' => match Nat.beq e e' with | true => .ok (.rows O.z, used) | false => .error "a slot of another element"
 | .own e nw,.own e' id=>match s.getH id with
  | some h=>match Nat.beq e e'&&Nat.beq e h.e && !h.frozen&&(h.nw || !nw) && !Co id used && !Co id keep with
   | true=>.ok (.rows h.l,id::used)
   | false => .error "an owned slot that is shared"
  | none => .error "a slot whose slice is gone"
 | .own _ _, .imm _ _ _ => .error "an owned slot that is not owned"
 | .imm e nw, .imm e' nw' l => match Nat.beq e e' && (nw' || !nw) with | true => .ok (.rows l, used) | false => .error "a shared slot"
 | .imm e nw,.own e' id=>match s.getH id with
  | some h=>match Nat.beq e e'&&Nat.beq e h.e&&(h.nw || !nw)&&(h.frozen || !Co id keep) && !Co id used with
   | true=>.ok (.rows h.l,match h.frozen with | true=>used | false=>id::used)
   | false => .error "a shared slot of an owned slice"
  | none => .error "a slot whose slice is gone"
 | _, _ => .error "a slot"
def GQ (s:State O) (keep used:List Nat):List SlotC→List (AC O)→Except String (List O.Lf×List Nat)
 | [],[]=>.ok ([],used)
 | a::as,c::cs=>match JO s keep used a c with
  | .error e=>.error e
  | .ok (l,u)=>match GQ s keep u as cs with
   | .error e=>.error e
   | .ok (ls,u)=>.ok (l::ls,u)
 | _, _ => .error "slots"
def HV (s:State O) (keep:List Nat):List Nat→List Slot→Except String (List O.Lf)
 | _,[]=>.ok []
 | used,.t n agg cs::r=>match s.getT n with
  | some ⟨[],.val v⟩=>match v.agg==agg,GQ s keep used cs v.cs with
   | true,.ok (ls,u)=>match HV s keep u r with
    | .ok more=>.ok (ls++more)
    | .error e=>.error e
   | true, .error e => .error (e ++ " t" ++ toString n)
   | false, _ => .error "a slot s form"
  | _ => .error ("a slot that is not there t" ++ toString n)
 | used,.b b cs::r=>match s.getB b with
  | some e=>match GQ s keep used cs e.cs with
   | .ok (ls,u)=>match HV s keep u r with
    | .ok more=>.ok (ls++more)
    | .error e=>.error e
   | .error er => .error (er ++ " box")
  | none => .error "a slot s variable is gone"
def PC (s:State O):List (Nat×BEnt O)→Bool
 | []=>true
 | (n,_)::r=>match s.getB n with
  | some e=>match e.dirty with
   | true=>false
   | false=>PC s r
  | none=>false
def PK (s:State O):List (Nat×HEnt O)→Bool
 | []=>true
 | (n,_)::r=>match s.getH n with
  | some e=>match e.dirty with
   | true=>false
   | false=>PK s r
  | none=>false
def Gy (c:O.C) (j q:Nat):SlotC→AC O×List (Nat×HEnt O)
 | .int k=>(.int k (O.g c j),[])
 | .bool=>(.bool (O.n c j),[])
 | .str=>(.str (O.w c j),[])
 | .own e nw=>(.own e q,[(q,{ e,frozen:=false,nw,l:=O.p c j,dirty:=true })])
 | .imm e nw=>(.imm e nw (O.p c j),[])
 | .any T=>(.any T,[])
def K6 (c:O.C):Nat→Nat→List SlotC→List (AC O)×List (Nat×HEnt O)
 | _,_,[]=>([],[])
 | j,q,a::as=>match Gy c j q a with
  | (x,h)=>match K6 c (j+1) (q+h.length) as with
   | (xs,hs)=>(x::xs,h++hs)
def Ba (c:O.C):Nat→Nat→List Slot→State O→State O
 | _,q,[],s=>{ s with st:=q }
 | j,q,.t n agg cs::r,s=>match K6 c j q cs with
  | (xs,hs)=>Ba c (j+cs.length) (q+hs.length) r { s with tm:=GX s.tm n (some ⟨[],.val { agg,cs:=xs }⟩),hp:=hs++s.hp }
 | j,q,.b b cs::r,s=>match K6 c j q cs with
  | (xs,hs)=>Ba c (j+cs.length) (q+hs.length) r { s with bx:=NF s.bx b (some { cs:=xs,dirty:=true }),hp:=hs++s.hp }
def gZ (t:TM (TV O)):List Nat→TM (TV O)
 | []=>t
 | n::r=>gZ (GX t n none) r
structure Way (O:Alg) where
 e:Ex
 slots:List Slot
 base:State O
 hs:List (Nat×TypeId×Bool)
def XU (s:State O):List (Nat×TypeId×Bool)→Except String (List O.Lf)
 | []=>.ok []
 | (n,e,nw)::r=>match s.getH n with
  | none => .error "a kept slice is gone"
  | some h=>match Nat.beq h.e e&&(!h.frozen&&h.nw==nw) with
   | false => .error "a kept slice"
   | true=>match XU s r with
    | .ok ls=>.ok (.rows h.l::ls)
    | .error e=>.error e
def OD (c:O.C):Nat→List (Nat×TypeId×Bool)→List (Nat×HEnt O)
 | _,[]=>[]
 | j,(n,e,nw)::r=>(n,{ e,frozen:=false,nw,l:=O.p c j,dirty:=true })::OD c (j+1) r
def Way.keep (w:Way O):List Nat:=w.hs.map (·.1)++w.base.hp.map (·.1)
def Way.baseC (w:Way O) (c:O.C) (j:Nat):State O:={ w.base with hp:=OD c j w.hs++w.base.hp }
def Way.encL (w:Way O) (s':State O):Except String (List O.Lf):=match XU s' w.hs with
 | .error e=>.error e
 | .ok a=>match HV s' w.keep [] w.slots with
  | .error e=>.error e
  | .ok b=>.ok (a++b)
def LW (s:State O) (e:Ex) (m:Ms) (live:Nat):Except String (Way O):=match pN cfg s m live with
  | none => .error "a layout"
  | some sl => .ok { e, slots := sl, base :=
      { tm:=gZ s.tm (Mx m.t (UI m.t) []),bx:=MS s (CW s m),hp:=Ob s (bh s m),st:=s.st },hs:=hOf s m }
def Way.enc (w:Way O) (tag:Option Nat) (s':State O):O.M :=
 match PC s' w.base.bx,PK s' w.base.hp with
 | true,true=>match w.encL s' with
  | .ok ls=>O.a (match tag with | some t=>.int (O.lit .i64 t)::ls | none=>ls)
  | .error e=>O.ab e
 | _, _ => O.ab "memory that a join does not know"
def Way.dec (w:Way O) (tagged:Bool) (c:O.C):State O:=Ba c ((match tagged with | true=>1 | false=>0)+w.hs.length) w.base.st w.slots (w.baseC c (match tagged with | true=>1 | false=>0))
def XC (s:State O) (lv:Lv) (e:Ex):Option Ms→Except String (List (Way O))
 | none=>.ok []
 | some m=>match LW cfg s e m (lv.of e) with
  | .ok w=>.ok [w]
  | .error e=>.error e
def Ts (s:State O) (lv:Lv):List (Nat×Ms)→Except String (List (Way O))
 | []=>.ok []
 | (id,m)::r=>match XC cfg s lv (.ext id) (some m),Ts s lv r with
  | .ok a,.ok b=>.ok (a++b)
  | .error e,_=>.error e
  | _,.error e=>.error e
def Tv (s:State O) (a:An) (lv:Lv):Except String (List (Way O)) :=
 match XC cfg s lv .nrm a.nrm,XC cfg s lv .ret a.ret,Ts cfg s lv a.exts with
 | .ok x,.ok y,.ok z=>.ok (x++y++z)
 | .error e,_,_=>.error e
 | _,.error e,_=>.error e
 | _,_,.error e=>.error e
def qi:Ex→Ex→Bool
 | .nrm,.nrm=>true
 | .ret,.ret=>true
 | .ext a,.ext b=>Nat.beq a b
 | _,_=>false
def J6 (tagged:Bool) (e:Ex) (s':State O):Nat→List (Way O)→O.M
 | _, [] => O.ab "a way out that was not seen"
 | i,w::r=>match qi e w.e with
  | true=>w.enc (match tagged with | true=>some i | false=>none) s'
  | false=>J6 tagged e s' (i+1) r
def LZ (c:O.C) (k:Ex→State O→O.M) (tagged:Bool):Nat→List (Way O)→O.M
 | _, [] => O.ab "no way out"
 | _,[w]=>k w.e (w.dec tagged c)
 | i,w::r=>O.b (O.aa c i) (k w.e (w.dec tagged c)) (LZ c k tagged (i+1) r)
def cleaned (s:State O):State O:={ s with bx:=cleanB s.bx,hp:=cleanH s.hp }
def scope (a:An) (lv:Lv) (s:State O) (run:State O→(Ex→State O→O.M)→O.M) (k:Ex→State O→O.M):O.M :=
 match Tv cfg s a lv with
 | .error e=>O.ab e
 | .ok ws =>
  let tagged:=Nat.blt 1 ws.length
  O.c (run (cleaned s) fun e s'=>J6 tagged e s' 0 ws) fun c=>LZ c k tagged 0 ws
def B1:List Oper→List Nat→List Nat
 | [],acc=>acc
 | o::r,acc=>B1 r (acc++[o.after.toList.foldl (fun s e=>match e.ground with
  | .textOnly _ | .gcOnly _=>s
  | _=>s ||| D5 e.on ||| acc.getD e.on 0) 0])
def OA (bs:List Nat) (ms:List (Nat×Nat)):Bool :=
 let rec inner (j bj rj wj:Nat):Nat→List (Nat×Nat)→Bool
  | _,[]=>true
  | i,(r,w)::l=>match Nat.ble j i with
   | true=>true
   | false=>match bj.testBit i||(Nat.beq (w &&& (rj ||| wj)) 0&&Nat.beq (wj &&& r) 0) with
    | true=>inner j bj rj wj (i+1) l
    | false=>false
 let rec outer:Nat→List Nat→List (Nat×Nat)→Bool
  | j,b::bs,(r,w)::l=>match inner j b r w 0 ms with
   | true=>outer (j+1) bs l
   | false=>false
  | _,_,_=>true
 outer 0 bs ms
def bR:List Nat→Bool
 | []=>true
 | n::l => !Co n l&&bR l
def Sm:List O.B→O.M→O.M
 | [],m=>m
 | a::r,m=>O.j a (Sm r m)
def GU:TM (TV O)→TM (TV O)
 | .e=>.e
 | .leaf a=>match a.gs with
  | []=>.leaf a
  | _=>.e
 | .node l r=>.node (GU l) (GU r)
def EI (ops:List Oper):Nat→List Nat→List Oper→Bool
 | i,b::bs,o::r=>match o.guard with
  | none=>EI ops (i+1) bs r
  | some (j,_)=>Nat.blt j i&&b.testBit j&&(match (ops[j]?).bind (·.dst) with | some _=>true | none=>false)&&EI ops (i+1) bs r
 | _,_,[]=>true
 | _,[],_::_=>false
def Wk:Nat→List Oper→Bool
 | _,[]=>true
 | i,o::r=>(o.after.toList.all fun e=>match e.ground with
  | .textOnly _ | .gcOnly _=>true
  | _=>Nat.blt e.on i)&&Wk (i+1) r
def G1 (inl : FuncId → List (AV O) → State O → (AV O → State O → O.M) → O.M) (all : List Oper) (draw : Bool) :
    List Oper→Nat→State O→List (Nat×Nat)→(State O→List (Nat×Nat)→O.M)→O.M
  | [],id,s,ms,k=>k { s with st:=id } ms
  | o::r,id,s,ms,k=>match RM.run s (M9 P cfg all o id) 0 with
    | .error e=>O.ab e
    | .ok (.plain as w,rd)=>Sm as (G1 inl all draw r (id+BS P o) (s.apply w) (ms++[(rd,w.mask)]) k)
    | .ok (.call g f fns args dm next,rd) =>
      let m:=O.e f fns args
      O.c (match g with | none=>m | some g=>O.b g m (O.a dm)) fun c=>match next c with
        | none => O.ab "a result"
        | some w=>G1 inl all draw r (id+BS P o) (s.apply w) (ms++[(rd,w.mask)]) k
    | .ok (.inl f args,rd)=>match draw with
      | true => O.ab ("a call that has no contract in a region that draws " ++ toString f)
      | false=>inl f args { s with st:=id+BS P o } fun v s' =>
        G1 inl all draw r s'.st (match o.dst with | some d=>{ s' with tm:=GX s'.tm d (some ⟨[],v⟩) } | none=>s') (ms++[(0,0)]) k
def Ad:List Oper→List Nat
 | []=>[]
 | o::r=>match o.dst with | some d=>d::Ad r | none=>Ad r
def I8 (inl:FuncId→List (AV O)→State O→(AV O→State O→O.M)→O.M) (ops:List Oper) (draw:Bool) (s:State O) (k:State O→O.M):O.M :=
 match bR (Ad ops)&&(EI ops 0 (B1 ops []) ops&&Wk 0 ops) with
 | false => O.ab "a temporary that is written twice"
 | true=>G1 P cfg inl ops draw ops s.st s [] fun s' ms =>
  match !draw||OA (B1 ops []) ms with
  | false => O.ab "an order that is open"
  | true=>k { s' with tm:=GU s'.tm }
def nD (s:State O):Operand→Option O.B
 | .tmp n=>match s.getT n with
  | some ⟨[],.val ⟨false,[.bool b]⟩⟩=>some b
  | _=>none
 | .const (.bool b)=>some (match b with | true=>O.k | false=>O.f)
 | _=>none
def nG (head:Way O) (ws:List (Way O)) (tagged:Bool) (self:List O.Lf→O.M):Ex→State O→O.M:=fun e s'=>match e with
 | .nrm=>match PC s' head.base.bx,PK s' head.base.hp with
  | true,true=>match head.encL s' with
   | .ok ls=>self ls
   | .error e=>O.ab e
  | _, _ => O.ab "memory that a loop does not know"
 | e=>J6 tagged e s' 0 ws
def eT (o:Oper):Bool:=match o.op,o.guard with
 | .panic _,none=>true
 | _,_=>false
def X (inl:FuncId→List (AV O)→State O→(AV O→State O→O.M)→O.M):Code→Bool→Lv→State O→(Ex→State O→O.M)→O.M
 | .skip,_,_,s,k=>k .nrm s
 | .region _ ops draw,_,_,s,k=>match ops.toList.any eT with
  | true=>O.j O.f (O.a [])
  | false=>I8 P cfg inl ops.toList draw s fun s'=>k .nrm s'
 | .seq a b,light,lv,s,k=>X inl a (light&&Nat.ble (UA b) 6) { lv with nrm:=S8 b ||| lv.all } s fun e s'=>match e with
  | .nrm=>X inl b light lv s' k
  | e=>k e s'
 | .cond c a b,light,lv,s,k=>match nD s c with
  | none => O.ab "a condition"
  | some x=>match light||Nat.blt ((cnt a).nrm+(cnt b).nrm) 2 with
   | true=>O.b x (X inl a light lv s k) (X inl b light lv s k)
   | false=>scope cfg (an P (.cond c a b)) lv s (fun s k=>O.b x (X inl a true lv s k) (X inl b true lv s k)) k
 | .block id b,light,lv,s,k =>
  let lv':Lv:={ lv with exts:=(id,lv.nrm)::lv.exts }
  let k':Ex→State O→O.M:=fun e s'=>match e with
   | .ext i=>match Nat.beq i id with
    | true=>k .nrm s'
    | false=>k e s'
   | e=>k e s'
  match light||Nat.blt ((cnt b).nrm+oJ (cnt b).exts id) 2 with
  | true=>X inl b light lv' s k'
  | false=>scope cfg (an P b) lv' s (fun s k=>X inl b true lv' s k) k'
 | .loop b,_,lv,s,k =>
  let a:=an P b
  let lvb:Lv:={ lv with nrm:=S8 b ||| lv.all }
  match a.nrm with
  | none => O.ab "a loop of one round"
  | some m=>match LW cfg s .nrm m lvb.nrm,Tv cfg s (an P (.loop b)) lv with
   | .ok head,.ok ws =>
    let tagged:=Nat.blt 1 ws.length
    match head.encL s with
    | .error e=>O.ab e
    | .ok ls=>O.c (O.y (fun self c=>X inl b true lvb (cleaned (head.dec false c)) (nG head ws tagged self)) ls) fun c=>LZ c k tagged 0 ws
   | .error e,_=>O.ab e
   | _,.error e=>O.ab e
 | .exit id,_,_,s,k=>k (.ext id) s
 | .ret,_,_,s,k=>k .ret s
 | _, _, _, _, _ => O.ab "code"
def hZ (s:State O):ResultVar→Option (Val O)
 | .tmp t=>match s.getT t with
  | some ⟨[],.val v⟩=>some v
  | _=>none
 | .cell a T=>match s.getT a with
  | some ⟨[],.val ⟨false,[.ptr b off]⟩⟩=>match s.getB b with
   | some e=>match FX e.cs off (P.cellsOf T) with
    | some cs=>match Oa P T cs.length with
     | true=>some { agg:=AW P T,cs }
     | false=>none
    | none=>none
   | none=>none
  | _=>none
def L4 (s:State O):List ResultVar→Option (List (Val O))
 | []=>some []
 | r::rs=>match hZ P s r,L4 s rs with
  | some v,some l=>some (v::l)
  | _,_=>none
def N0:List ResultVar→Nat
 | []=>0
 | .tmp t::r=>D5 t ||| N0 r
 | .cell t _::r=>D5 t ||| N0 r
def Bk:Nat→List (AV O)→TM (TV O)→TM (TV O)
 | _,[],t=>t
 | i,v::r,t=>Bk (i+1) r (GX t i (some ⟨[],v⟩))
def il (cfg:Cfg):List TypeId→Option (List SlotC)
 | []=>some []
 | t::ts=>match il cfg ts with
  | none=>none
  | some r=>match AJ P t with
   | .int k=>some (.int k::r)
   | .bool=>some (.bool::r)
   | .str=>some (.str::r)
   | .sl e=>some ((match nN cfg e with | false=>.own e false | true=>.imm e false)::r)
   | _=>none
def HN:List TypeId→List (AC O)→Option (List (Val O))
 | [],_=>some []
 | t::ts,cs=>match AO P t with
  | none=>none
  | some l=>match HN ts (cs.drop l.length) with
   | none=>none
   | some r=>some ({ agg:=AW P t,cs:=cs.take l.length }::r)
def Mm:List TypeId→List (Val O)→Bool
 | [],[]=>true
 | t::ts,v::vs=>(match AO P t with
  | some l=>v.agg==AW P t&&AX P l v.cs
  | none=>false)&&Mm ts vs
 | _,_=>false
def So:Ex→Bool
 | .ext _=>true
 | _=>false
def iH (a:An):Ms:=match VC a.nrm a.ret with
 | some m=>m
 | none=>⟨0,0⟩
def eZ (rec':Code→Bool→Lv→State O→(Ex→State O→O.M)→O.M) (f:FuncId) (args:List (AV O)) (s:State O) (k:AV O→State O→O.M):O.M :=
  match P.funcs[f]? with
  | none => O.ab "no such function"
  | some fn=>match fn.body with
    | none => O.ab ("a function without a body " ++ fn.name)
    | some body=>match Cb fn.ntmps body with
     | false => O.ab "temporaries"
     | true =>
      let s1:State O:={ s with tm:=Bk 0 args .e }
      let live:=N0 fn.results.toList ||| (D5 args.length - 1)
      let lv:Lv:={ nrm:=live,ret:=live,exts:=[] }
      let c:=cnt body
      match Nat.blt (c.nrm+c.ret) 2 with
      | true=>rec' body false lv s1 fun e s'=>match So e,L4 P s' fn.results.toList with
        | false,some vs=>k (Jg vs) { s' with tm:=s.tm }
        | _, _ => O.ab "results"
      | false =>
        let a:=an P body
        let m:Ms:=iH a
        match Ji cfg s1 (CW s1 m) [],(I7 P fn.resultTypes.toList).bind (il P cfg) with
        | some sl,some rs =>
          let base:State O:={ s with bx:=MS s (CW s1 m),hp:=Ob s (aL s1 m) }
          let keep:=base.hp.map (·.1)
          O.c (rec' body true lv (cleaned s1) fun e s'=>match So e,L4 P s' fn.results.toList with
            | true, _ | _, none => O.ab "results"
            | false,some vs=>match Mm P fn.resultTypes.toList vs&&PC s' base.bx,PK s' base.hp,GQ s' keep [] rs ((vs.map (·.cs)).flatten) with
              | true,true,.ok (ls,used)=>match HV s' keep used sl with
                | .ok more=>O.a (ls++more)
                | .error e=>O.ab e
              | true, true, .error e => O.ab (e ++ " of a result of " ++ fn.name)
              | _, _, _ => O.ab "memory that a call does not know") fun c =>
            match K6 c 0 base.st rs with
            | (xs,hs)=>match HN P fn.resultTypes.toList xs with
              | none => O.ab "results"
              | some vs=>k (Jg vs) (Ba c rs.length (base.st+hs.length) sl { base with hp:=hs++base.hp })
        | _, _ => O.ab "a layout of a call"
def XL:Nat→Code→Bool→Lv→State O→(Ex→State O→O.M)→O.M
 | 0 => fun _ _ _ _ _ => O.ab "too deep"
 | n+1=>X P cfg (eZ P cfg (XL n))
def Al (give:Bool):Nat→List TypeId→List O.Lf→Option (List (AC O)×List (Nat×HEnt O)×List O.Lf)
 | _,[],ls=>some ([],[],ls)
 | q,t::ts,l::ls=>match AJ P t,l with
  | .int k,.int i=>(Al give q ts ls).map fun (cs,h,r)=>(.int k i::cs,h,r)
  | .bool,.bool b=>(Al give q ts ls).map fun (cs,h,r)=>(.bool b::cs,h,r)
  | .str,.str s=>(Al give q ts ls).map fun (cs,h,r)=>(.str s::cs,h,r)
  | .sl e,.rows l=>match give with
   | false=>(Al give q ts ls).map fun (cs,h,r)=>(.imm e false l::cs,h,r)
   | true=>(Al give (q+1) ts ls).map fun (cs,h,r)=>(.own e q::cs,(q,{ e,frozen:=false,nw:=false,l,dirty:=true })::h,r)
  | _,_=>none
 | _,_::_,[]=>none
def A8:List Bool→Nat→List TypeId→List Nat→List O.Lf→Option (List (AV O)×List (Nat×HEnt O))
 | _,_,[],[],[]=>some ([],[])
 | gv,q,t::ts,fns,ls=>match AJ P t with
  | .fn=>match fns with
   | f::fns=>match mv P f with
    | some cts=>match Ek cts ls with
     | some (caps,ls)=>(A8 gv.tail q ts fns ls).map fun (r,h)=>(one (.fn f caps)::r,h)
     | none=>none
    | none=>none
   | []=>none
  | _=>match AO P t with
   | none=>none
   | some l=>match Al P (gv.headD false) q l ls with
    | none=>none
    | some (cs,h,ls)=>(A8 gv.tail (q+h.length) ts fns ls).map fun (r,hs)=>(.val { agg:=AW P t,cs }::r,h++hs)
 | _,_,[],_,_=>none
def Qh {α:Type} (l:α):Except String (List α)→Except String (List α)
 | .ok ls=>.ok (l::ls)
 | .error e=>.error e
def D0 (s:State O) (own:Nat→Bool) (nw:Bool) (used:List Nat):List (AC O)→Except String (List O.Lf)
 | []=>.ok []
 | c::r=>match c with
  | .int _ i=>Qh (.int i) (D0 s own nw used r)
  | .bool b=>Qh (.bool b) (D0 s own nw used r)
  | .str x=>Qh (.str x) (D0 s own nw used r)
  | .nil _=>Qh (.rows O.z) (D0 s own nw used r)
  | .imm e n l=>match !own e&&(n || !nw) with
   | true=>Qh (.rows l) (D0 s own nw used r)
   | false => .error "a result that is not fresh"
  | .own e id=>match s.getH id with
   | some h=>match (!own e || !h.frozen)&&(h.frozen || !Co id used)&&(h.nw || !nw) with
    | true=>Qh (.rows h.l) (D0 s own nw (id::used) r)
    | false => .error "a result that is shared"
   | none => .error "a result that is gone"
  | _ => .error "a result that is no data"
def nY (own:Nat→Bool) (s:State O):State O:={ s with hp:=s.hp.map fun (n,h)=>(n,{ h with frozen:=h.frozen || !own h.e }) }
def oM (own:Nat→Bool) (nw:Bool) (fn:Func) (e:Ex) (s':State O):O.M:=match So e,L4 P s' fn.results.toList with
 | true, _ | _, none => O.ab "results"
 | false,some rs=>match Mm P fn.resultTypes.toList rs,D0 s' own nw [] ((rs.map (·.cs)).flatten) with
  | true,.ok ls=>O.a ls
  | true,.error e=>O.ab e
  | false, _ => O.ab "results of other kinds"
def dp (own:Nat→Bool) (nw:Bool) (fn:Func):Ex→State O→O.M:=fun e s0=>oM P own nw fn e (nY own s0)
def XF (own:Nat→Bool) (nw:Bool) (gives:List Bool) (f:FuncId) (fns:List Nat) (args:List O.Lf):O.M:=match P.funcs[f]? with
  | none => O.ab "no such function"
  | some fn=>match fn.body,A8 P gives 1 fn.params.toList fns args with
    | some body,some (vs,hs)=>match Cb fn.ntmps body with
     | false => O.ab "temporaries"
     | true =>
      let lv:Lv:={ nrm:=N0 fn.results.toList,ret:=N0 fn.results.toList,exts:=[] }
      XL P cfg 6 body true lv { tm:=Bk 0 vs .e,bx:=[],hp:=hs,st:=1+hs.length } (dp P own nw fn)
    | none, _ => O.ab "no body"
    | _, none => O.ab "parameters"
end
inductive PV where
 | int (n:Int)
 | bool (b:Bool)
 | str (s:ByteArray)
 | rows (l:List (List PV))
 deriving Inhabited
abbrev Rows:=List (List PV)
abbrev AR:=Leaf Int Bool ByteArray Rows
def Leaf.pv:AR→PV
 | .int i=>.int i
 | .bool b=>.bool b
 | .str s=>.str s
 | .rows l=>.rows l
def PV.leaf:PV→AR
 | .int i=>.int i
 | .bool b=>.bool b
 | .str s=>.str s
 | .rows l=>.rows l
@[simp] theorem PV.pv_leaf (p:PV):p.leaf.pv=p:=by cases p<;>rfl
@[simp] theorem Leaf.leaf_pv (p:AR):p.pv.leaf=p:=by cases p<;>rfl
def pvI:PV→Int
 | .int n=>n
 | _=>0
def pvB:PV→Bool
 | .bool b=>b
 | _=>false
def pvS:PV→ByteArray
 | .str s=>s
 | _=>ByteArray.empty
def pvL:PV→Rows
 | .rows l=>l
 | _=>[]
@[simp] theorem tN (n:Int):pvI (.int n)=n:=rfl
@[simp] theorem wE (b:Bool):pvB (.bool b)=b:=rfl
@[simp] theorem wI (s:ByteArray):pvS (.str s)=s:=rfl
@[simp] theorem wG (l:Rows):pvL (.rows l)=l:=rfl
def AA (r:List PV) (j:Nat):PV:=r.getD j (.int 0)
def Aa (l:Rows) (i:Nat):List PV:=l.getD i []
def AB (l:Rows) (i j:Nat):PV:=AA (Aa l i) j
def BE (r:List PV):Nat→List PV→List PV
 | _,[]=>r
 | off,p::ps=>BE (r.set off p) (off+1) ps
def K8 (s:ByteArray) (i:Int):Int:=((s.data.toList.getD i.toNat 0).toNat:Int)
def Ar (s:ByteArray):Rows:=s.data.toList.map fun b=>[PV.int b.toNat]
abbrev Env:=Nat→List Nat→List PV→Option (List PV)
def Dt (F:(List AR→Option (List PV))→List PV→Option (List PV)):Nat→List PV→Option (List PV)
 | 0,_=>none
 | n+1,c=>F (fun ls=>Dt F n (ls.map Leaf.pv)) c
def iLe (a b:Int):Bool:=decide (a≤b)
def iLt (a b:Int):Bool:=decide (a<b)
def iIn (i n:Int):Bool:=decide (0≤i∧i<n)
def iRg (a b n:Int):Bool:=decide (0≤a∧a≤b∧b≤n)
def iSm (n:Int) (b:Nat):Bool:=decide (0≤n∧n≤17592186044416∧n * b≤17592186044416∧b≤1048576)
def oo (n:Nat) (r:List PV):List Int:=(r.take n).map pvI
def dn (n:Nat) (k:List Int):Rows→Nat
 | []=>0
 | r::L=>cond (k==oo n r) 0 (dn n k L+1)
def wA (n:Nat) (v:Int) (r:List PV):List PV:=BE r n [.int v]
def vx (k:List Int) (v:Int):List PV:=k.map .int++[.int v]
def vy (n:Nat) (k:List Int) (L:Rows):Int:=pvI (AB L (dn n k L) n)
def v8 (n:Nat) (k:List Int) (v:Int) (L:Rows):Rows:=cond (Nat.blt (dn n k L) L.length) (L.set (dn n k L) (wA n v (Aa L (dn n k L)))) (L++[vx k v])
def mu (l:Rows):ByteArray:=⟨(l.map fun r=>(pvI (AA r 0)).toNat.toUInt8).toArray⟩
def OH (l:Rows):Bool:=l.all fun r=>decide (0≤pvI (AA r 0)∧pvI (AA r 0)<256)
@[reducible] def std (E:Env) (N:Nat):Alg where
 I:=Int
 B:=Bool
 S:=ByteArray
 L:=Rows
 C:=List PV
 M:=Option (List PV)
 lit _ n:=n
 s k a b:=k.wrap (a+b)
 x k a b:=k.wrap (a - b)
 am k a b:=k.wrap (a * b)
 aw k a b:=k.wrap (a.tdiv b)
 an _ a b:=a.tmod b
 au k a:=k.wrap a
 v a b:=iLe a b
 l a b:=iLt a b
 d a b:=a==b
 k:=true
 f:=false
 h b := !b
 ad a b:=a&&b
 ao a b:=a==b
 ai b x y:=cond b x y
 i b x y:=cond b x y
 ba b x y:=cond b x y
 bb b x y:=cond b x y
 o s:=s
 aj a b:=a.toList==b.toList
 bc a b:=Op.bytesLess a.toList b.toList
 u s:=s.size
 ax s i:=K8 s i
 ar s l h:=s.extract l.toNat h.toNat
 af a b:=a++b
 ap s:=Ar s
 z:=[]
 ac rows:=rows.map (·.map Leaf.pv)
 ag a b:=a++b
 m l:=l.length
 ae l i off r:=l.set i.toNat (BE (Aa l i.toNat) off (r.map Leaf.pv))
 aq l a b:=(l.take b.toNat).drop a.toNat
 as n r:=List.replicate n.toNat (r.map Leaf.pv)
 q l i j:=pvI (AB l i.toNat j)
 rB l i j:=pvB (AB l i.toNat j)
 rS l i j:=pvS (AB l i.toNat j)
 rL l i j:=pvL (AB l i.toNat j)
 bd n l ks:=(dn n ks l:Int)
 be n l ks:=vy n ks l
 bf n l ks z:=v8 n ks z l
 ay l:=mu l
 az l:=OH l
 g c j:=pvI (AA c j)
 n c j:=pvB (AA c j)
 w c j:=pvS (AA c j)
 p c j:=pvL (AA c j)
 aa c j:=pvI (AA c 0)==(j:Int)
 t i n:=iIn i n
 al a b n:=iRg a b n
 r n b:=iSm n b
 a ls:=some (ls.map Leaf.pv)
 ab _:=none
 j b m:=cond b m none
 b b x y:=cond b x y
 c m k:=m.bind k
 e f fns ls:=E f fns (ls.map Leaf.pv)
 y F ls:=Dt F N (ls.map Leaf.pv)
inductive Rep (P:Program) (w:World) (St:Nat→Prop):TypeId→Value→PV→Prop
  | int {t:TypeId} {k:IntKind} {n:Int} (h:AJ P t=.int k):Rep P w St t (.int k n) (.int n)
  | bool {t:TypeId} {b:Bool} (h:AJ P t=.bool):Rep P w St t (.bool b) (.bool b)
  | str {t:TypeId} {s:ByteArray} (h:AJ P t=.str):Rep P w St t (.string s) (.str s)
  | sl {t e : TypeId} {ts : List TypeId} {a : Option Addr} {len cap : Nat} {l : Rows} (v : Nat → Nat → Value)
      (h:AJ P t=.sl e) (hts:AO P e=some ts) (hl:l.length=len) (hr:∀ r∈l,r.length=ts.length) (hc:len≤cap)
      (hm:len=0∨∃ b off,a=some ⟨b,off,none⟩∧St b∧b<w.heap.size ∧
        ∀ i j,i<len→j<ts.length→w.cell? ⟨b,off+(i * ts.length+j),none⟩=some (v i j))
      (hv:∀ i j t',i<len→ts[j]?=some t'→Rep P w St t' (v i j) (AB l i j)) :
      Rep P w St t (.slice a len cap) (.rows l)
theorem Rep.mono {P : Program} {w w' : World} {St St' : Nat → Prop} {t : TypeId} {v : Value} {p : PV} (h : Rep P w St t v p)
    (hw:∀ b,St b→b<w.heap.size→w'.heap[b]?=w.heap[b]?∧b<w'.heap.size) (hs:∀ b,St b→b<w.heap.size→St' b):Rep P w' St' t v p:=by
  induction h with
  | int h=>exact .int h
  | bool h=>exact .bool h
  | str h=>exact .str h
  | sl v h hts hl hr hc hm hv ih =>
    refine .sl v h hts hl hr hc ?_ (fun i j t' hi hj=>ih i j t' hi hj)
    rcases hm with hm | ⟨b,off,ha,hb,hlt,hcell⟩
    · exact .inl hm
    · refine .inr ⟨b,off,ha,hs b hb hlt,(hw b hb hlt).2,fun i j hi hj=>?_⟩;rw [World.cell?_of_block (w:=w) (hw b hb hlt).1];exact hcell i j hi hj
section
variable {E:Env} {N:Nat}
abbrev St0 (E:Env) (N:Nat):=State (std E N)
abbrev AC0 (E:Env) (N:Nat):=AC (std E N)
def InM (β:Nat→Option Nat) (σ:Nat→Option (Nat×Nat)) (s:St0 E N) (blk:Nat):Prop :=
  (∃ b e,s.getB b=some e∧β b=some blk)∨(∃ id h cap,s.getH id=some h∧h.frozen=false∧σ id=some (blk,cap))
structure Nz where
 n:Nat
 U:Nat→Prop
def Old (n0:Nz) (nw:Bool) (blk:Nat):Prop:=(nw=true→n0.n≤blk)∧(n0.n≤blk∨n0.U blk)
theorem Old.mono {n0:Nz} {nw nw':Bool} {blk:Nat} (h:Old n0 nw blk) (hh:nw'=true→nw=true):Old n0 nw' blk:=⟨fun e=>h.1 (hh e),h.2⟩
theorem Old.new {n0:Nz} {nw:Bool} {blk:Nat} (h:n0.n≤blk):Old n0 nw blk:=⟨fun _=>h,.inl h⟩
def StB (n0:Nz) (β:Nat→Option Nat) (σ:Nat→Option (Nat×Nat)) (s:St0 E N) (nw:Bool) (blk:Nat):Prop :=
 ¬ InM β σ s blk∧Old n0 nw blk
def R3 (β:Nat→Option Nat) (s:St0 E N) (b off:Nat) (v:Value):Prop :=
 ∃ blk,v=.pointer (some ⟨blk,off,none⟩)∧∀ e,s.getB b=some e→β b=some blk
def vQ (P:Program) (n0:Nz) (β:Nat→Option Nat) (σ:Nat→Option (Nat×Nat)) (s:St0 E N) (w:World) (e:TypeId) (l:Rows) (v:Value):Prop :=
 0<l.length∧∃ t ts blk boff len cap,AJ P t=.sl e∧AO P e=some ts∧Rep P w (StB n0 β σ s false) t (.slice (some ⟨blk,boff,none⟩) len cap) (.rows l)∧v=.pointer (some ⟨blk,boff,none⟩)
def RE (P:Program) (n0:Nz) (β:Nat→Option Nat) (σ:Nat→Option (Nat×Nat)) (s:St0 E N) (w:World):Cap (std E N)→Value→Prop
 | .box b off,v=>R3 β s b off v
 | .row e l,v=>vQ P n0 β σ s w e l v
def jZ (σ:Nat→Option (Nat×Nat)) (id:Nat) (n:Nat) (v:Value):Prop :=
  (∃ blk cap,σ id=some (blk,cap)∧v=.slice (some ⟨blk,0,none⟩) n cap)∨(σ id=none∧n=0∧∃ a,v=.slice a 0 0)
def RelC (P:Program) (n0:Nz) (β:Nat→Option Nat) (σ:Nat→Option (Nat×Nat)) (s:St0 E N) (w:World):AC0 E N→Value→Prop
  | .int k i,v=>v=.int k i
  | .bool b,v=>v=.bool b
  | .str x,v=>v=.string x
  | .nil e,v=>∃ t ts,AJ P t=.sl e∧AO P e=some ts∧∃ a,v=.slice a 0 0
  | .imm e nw l,v=>∃ t,AJ P t=.sl e∧Rep P w (StB n0 β σ s nw) t v (.rows l)
  | .own e id,v=>(∃ t,AJ P t=.sl e∧∃ a len cap,v=.slice a len cap)∧∀ h,s.getH id=some h→h.e=e∧jZ σ id h.l.length v
  | .ptr b off,v=>R3 β s b off v
  | .aptr b off n sz i inner,v=>0≤i∧i<(n:Int)∧R3 β s b (off+i.toNat * sz+inner) v
  | .eptr id i off, v => 0 ≤ i ∧ ∃ blk o, v = .pointer (some ⟨blk, o, none⟩) ∧ ∀ h, s.getH id = some h → i < (h.l.length : Int) ∧
      ∃ ts cap,AO P h.e=some ts∧σ id=some (blk,cap)∧(0<cap∧∃ t,AJ P t=.sl h.e)∧o=i.toNat * ts.length+off
  | .iptr e nw l i off, v => 0 ≤ i ∧ i < (l.length : Int) ∧ ∃ t ts blk boff len cap, AJ P t = .sl e ∧ AO P e = some ts ∧
      Rep P w (StB n0 β σ s nw) t (.slice (some ⟨blk,boff,none⟩) len cap) (.rows l)∧v=.pointer (some ⟨blk,boff+(i.toNat * ts.length+off),none⟩)
  | .fn f caps, v => ∃ vs : List Value, v = .func (.func f) #[] vs.toArray ∧ vs.length = caps.length ∧
      ∀ (i:Nat) (c:Cap (std E N)),caps[i]?=some c→∃ x:Value,vs[i]?=some x∧RE P n0 β σ s w c x
  | .nilptr,v=>v=.pointer none
  | .tail e id i, v => 0 ≤ i ∧ (∃ t, AJ P t = .sl e ∧ ∃ a len cap, v = .slice a len cap) ∧ ∀ h, s.getH id = some h → h.e = e ∧ i ≤ (h.l.length : Int) ∧ ∃ a cap, v = .slice a (h.l.length - i.toNat) cap ∧
      (h.l.length=i.toNat∨∃ blk cap2 ts,AO P e=some ts∧σ id=some (blk,cap2)∧a=some ⟨blk,i.toNat * ts.length,none⟩)
  | .any T,v=>v.oneCell'=true
  | .mp e id,v=>((∀ t,AJ P t≠.sl e)∧∃ r,v=.map (some r))∧∀ h,s.getH id=some h→h.e=e∧∃ r,σ id=some (r,0)∧v=.map (some r)
def RelCs (P:Program) (n0:Nz) (β:Nat→Option Nat) (σ:Nat→Option (Nat×Nat)) (s:St0 E N) (w:World):List (AC0 E N)→List Value→Prop
 | [],[]=>True
 | c::cs,v::vs=>RelC P n0 β σ s w c v∧RelCs P n0 β σ s w cs vs
 | _,_=>False
def RelVal (P:Program) (n0:Nz) (β:Nat→Option Nat) (σ:Nat→Option (Nat×Nat)) (s:St0 E N) (w:World) (x:Val (std E N)) (v:Value):Prop :=
 RelCs P n0 β σ s w x.cs v.cells.toList∧match x.agg with
  | true=>∃ cs,v=.agg cs
  | false=>v.oneCell'=true
def RelVals (P:Program) (n0:Nz) (β:Nat→Option Nat) (σ:Nat→Option (Nat×Nat)) (s:St0 E N) (w:World):List (Val (std E N))→List Value→Prop
 | [],[]=>True
 | c::cs,v::vs=>RelVal P n0 β σ s w c v∧RelVals P n0 β σ s w cs vs
 | _,_=>False
def RelAV (P:Program) (n0:Nz) (β:Nat→Option Nat) (σ:Nat→Option (Nat×Nat)) (s:St0 E N) (w:World):AV (std E N)→Value→Prop
 | .val x,v=>RelVal P n0 β σ s w x v
 | .tup xs,v=>∃ vs,v=.tuple vs∧RelVals P n0 β σ s w xs vs.toList
def Facts (a:Act) (gs:List (Nat×Bool)):Prop:=∀ n b,(n,b)∈gs→a.tmps.getD n undef=.bool b
def vw (P:Program) (n0:Nz) (β:Nat→Option Nat) (σ:Nat→Option (Nat×Nat)) (s:St0 E N) (a:Act) (w:World) (tv:TV (std E N)) (v:Value):Prop :=
  (Facts a tv.gs∧RelAV P n0 β σ s w tv.v v)∨(¬ Facts a tv.gs∧v=undef)
def BH (blk:Nat) (cells:Array Value) (el:TypeId):List (AC0 E N)→Prop
 | .any T::_=>el=T∧∃ p v,cells=#[p,v]∧(p=.pointer none∨p=.pointer (some ⟨blk,0,none⟩))∧(v=.slice none 0 0∨∃ a n c,v=.slice a n c∧0<c)
 | _=>True
theorem BH.of_noAny {blk:Nat} {cells:Array Value} {el:TypeId} {cs:List (AC0 E N)} (h:Se cs=true):BH blk cells el cs:=by
 cases cs with
 | nil=>trivial
 | cons c r=>cases c<;>first | trivial | (simp [Se] at h)
def nL (P:Program) (n0:Nz) (β:Nat→Option Nat) (σ:Nat→Option (Nat×Nat)) (s:St0 E N) (w:World) (b:Nat) (e:BEnt (std E N)):Prop :=
 ∃ blk cells el,β b=some blk∧w.heap[blk]?=some (.cells cells el (0,0))∧RelCs P n0 β σ s w e.cs cells.toList∧BH blk cells el e.cs
def v7 (a:List Int):Value:=.agg (a.map (Value.int .i64)).toArray
def ent (n:Nat) (i:Nat) (r:List PV):MapEntry:={ key:=v7 (oo n r),val:=.int .i64 (pvI (AA r n)),born:=i }
def uq (n:Nat):Nat→Rows→List MapEntry
 | _,[]=>[]
 | i,r::L=>ent n i r::uq n (i+1) L
def sG (w:World) (n r:Nat) (L:Rows):Prop:=w.heap[r]?=some (.map (uq n 0 L).toArray L.length)
def RelM (P:Program) (n0:Nz) (σ:Nat→Option (Nat×Nat)) (w:World) (id:Nat) (h:HEnt (std E N)):Prop :=
 ∃ n r,h.e=wC P n∧(∀ t,AJ P t≠.sl h.e)∧σ id=some (r,0)∧sG w n r h.l∧(∀ x∈h.l,x.length=n+1)∧Old n0 h.nw r
def vz (P:Program) (n0:Nz) (β:Nat→Option Nat) (σ:Nat→Option (Nat×Nat)) (s:St0 E N) (w:World) (id:Nat) (h:HEnt (std E N)):Prop :=
  ∃ t ts,AJ P t=.sl h.e∧AO P h.e=some ts∧(∀ r∈h.l,r.length=ts.length) ∧
    ((σ id=none∧h.l=[]) ∨
      ∃ blk cap cells el,σ id=some (blk,cap)∧w.heap[blk]?=some (.cells cells el (0,0))∧el=h.e∧cells.size=cap * ts.length∧h.l.length≤cap ∧
        Old n0 h.nw blk ∧
        ∃ v:Nat→Nat→Value,(∀ i j,i<h.l.length→j<ts.length→cells[i * ts.length+j]?=some (v i j)) ∧
          ∀ i j t',i<h.l.length→ts[j]?=some t'→Rep P w (StB n0 β σ s h.nw) t' (v i j) (AB h.l i j))
def RelH (P:Program) (n0:Nz) (β:Nat→Option Nat) (σ:Nat→Option (Nat×Nat)) (s:St0 E N) (w:World) (id:Nat) (h:HEnt (std E N)):Prop :=
 vz P n0 β σ s w id h∨RelM P n0 σ w id h
theorem RelM.view {P : Program} {n0 n0' : Nz} {σ σ' : Nat → Option (Nat × Nat)} {w w' : World} {id q : Nat} {h0 h1 : HEnt (std E N)} (h : RelM P n0 σ w id h0) (he : h1.e = h0.e) (hl : h1.l = h0.l)
    (hs:σ' q=σ id) (hw:∀ blk cap,σ id=some (blk,cap)→w'.heap[blk]?=w.heap[blk]?) (ho:∀ blk cap,σ id=some (blk,cap)→Old n0 h0.nw blk→Old n0' h1.nw blk):RelM P n0' σ' w' q h1:=by
  obtain ⟨n,r,a1,a3,a4,a5,a6,a7⟩:=h;refine ⟨n,r,he.trans a1,by rw [he];exact a3,hs.trans a4,?_,by rw [hl];exact a6,ho r 0 a4 a7⟩;unfold sG;rw [hw r 0 a4,hl];exact a5
theorem RelM.noCap {P:Program} {n0:Nz} {σ:Nat→Option (Nat×Nat)} {w:World} {id blk cap:Nat} {h:HEnt (std E N)} (m:RelM P n0 σ w id h) (hs:σ id=some (blk,cap)) (hc:0<cap):False:=by
 obtain ⟨n,r,a1,a3,a4,a5,a6,a7⟩:=m;rw [hs] at a4;cases a4;exact Nat.lt_irrefl 0 hc
theorem RelM.noSl {P:Program} {n0:Nz} {σ:Nat→Option (Nat×Nat)} {w:World} {id:Nat} {h:HEnt (std E N)} (m:RelM P n0 σ w id h) {t:TypeId} (ht:AJ P t=.sl h.e):False:=by
 obtain ⟨n,r,a1,a3,a4,a5,a6,a7⟩:=m;exact a3 t ht
theorem RelM.blk {P:Program} {n0:Nz} {σ:Nat→Option (Nat×Nat)} {w:World} {id:Nat} {h:HEnt (std E N)} (m:RelM P n0 σ w id h) {blk cap:Nat} (hs:σ id=some (blk,cap)):(∃ o,w.heap[blk]?=some o)∧Old n0 h.nw blk:=by
 obtain ⟨n,r,a1,a3,a4,a5,a6,a7⟩:=m;rw [hs] at a4;cases a4;exact ⟨⟨_,a5⟩,a7⟩
structure Mem (P:Program) (n0:Nz) (β:Nat→Option Nat) (σ:Nat→Option (Nat×Nat)) (s:St0 E N) (w:World):Prop where
 B:∀ b e,s.getB b=some e→nL P n0 β σ s w b e
 H:∀ id h,s.getH id=some h→RelH P n0 β σ s w id h
 uB:∀ b b' e e' blk,s.getB b=some e→s.getB b'=some e'→β b=some blk→β b'=some blk→b=b'
 uH:∀ id id' h h' blk cap cap',s.getH id=some h→s.getH id'=some h'→σ id=some (blk,cap)→σ id'=some (blk,cap')→id=id'
 uX:∀ b e id h blk cap,s.getB b=some e→s.getH id=some h→β b=some blk→σ id=some (blk,cap)→False
def Np : String := "internal/strconv.uint64pow10"
def X3:List Int:=(List.range 20).map fun i=>((10 ^ i:Nat):Int)
def Kept (P:Program) (β:Nat→Option Nat) (σ:Nat→Option (Nat×Nat)) (s:St0 E N) (w:World):Prop :=
 ∀ g,P.globalNamed Np=some g→Lib.TabIs P w Np .u64 X3∧¬ InM β σ s g
structure Sim (P:Program) (n0:Nz) (nt:Nat) (β:Nat→Option Nat) (σ:Nat→Option (Nat×Nat)) (s:St0 E N) (a:Act) (w:World):Prop where
 n0le:n0.n≤w.heap.size
 size:a.tmps.size=nt
 T:∀ n tv,s.getT n=some tv→vw P n0 β σ s a w tv (a.tmps.getD n undef)
 M:Mem P n0 β σ s w
 kept:Kept P β σ s w
def AC.names:AC0 E N→List Nat
 | .own _ id=>[id]
 | .ptr b _=>[b]
 | .aptr b _ _ _ _ _=>[b]
 | .eptr id _ _=>[id]
 | .fn _ caps=>Hf caps
 | .tail _ id _=>[id]
 | .mp _ id=>[id]
 | _=>[]
def AF:List (AC0 E N)→List Nat
 | []=>[]
 | c::r=>c.names++AF r
def Bh:List (Val (std E N))→List Nat
 | []=>[]
 | v::r=>AF v.cs++Bh r
def AV.names:AV (std E N)→List Nat
 | .val v=>AF v.cs
 | .tup vs=>Bh vs
theorem RJ {b o:Nat}:∀ {caps:List (Cap (std E N))} {i:Nat},caps[i]?=some (.box b o)→b∈Hf caps
 | [],i,h=>by simp at h
 | c::r,0,h=>by simp at h;subst h;exact List.mem_append_left _ zzl
 | c::r,i+1,h=>List.mem_append_right _ (RJ (i:=i) (by simpa using h))
structure Fresh (a:Act) (s:St0 E N) (n:Nat):Prop where
 t:∀ k tv,s.getT k=some tv→Facts a tv.gs→n∉tv.v.names
 b:∀ k e,s.getB k=some e→n≠k∧n∉AF e.cs
 h:∀ k e,s.getH k=some e→n≠k
structure Ext (P : Program) (new : Nat → Prop) (β : Nat → Option Nat) (σ : Nat → Option (Nat × Nat)) (s : St0 E N) (w : World)
    (β':Nat→Option Nat) (σ':Nat→Option (Nat×Nat)) (s':St0 E N) (w':World):Prop where
  os:w'.os=w.os
  tape:w'.tape=w.tape
  output:w'.output=w.output
  size:w.heap.size≤w'.heap.size
  frame:∀ b,b<w.heap.size→¬ InM β σ s b→w'.heap[b]?=w.heap[b]?
  mem:∀ b,InM β' σ' s' b→InM β σ s b∨w.heap.size≤b
  kB:∀ b e',s'.getB b=some e'→¬ new b→(∃ e,s.getB b=some e)∧β' b=β b
  kH:∀ id h',s'.getH id=some h'→¬ new id→∃ h,s.getH id=some h∧σ' id=σ id∧h'.e=h.e∧((∃ t,AJ P t=.sl h.e)→h'.l.length=h.l.length)
section
variable {P:Program} {n0:Nz} {nt:Nat} {new:Nat→Prop} {β β':Nat→Option Nat} {σ σ':Nat→Option (Nat×Nat)} {s s':St0 E N} {w w':World} {a:Act}
theorem A9 {w:World} {b:Nat} {o:Obj} (h:w.heap[b]?=some o):b<w.heap.size:=by
 rcases Nat.lt_or_ge b w.heap.size with h' | h'
 ·exact h'
 ·simp [Array.getElem?_eq_none h'] at h
theorem Kept.ext (k:Kept P β σ s w) (x:Ext P new β σ s w β' σ' s' w'):Kept P β' σ' s' w':=fun g hg=>by
 obtain ⟨h1,h2⟩:=k g hg;unfold Lib.TabIs World.var? at h1 ⊢;rw [hg] at h1 ⊢;simp only [Option.bind_some] at h1 ⊢;have hlt:g<w.heap.size:=by
  rcases Nat.lt_or_ge g w.heap.size with h | h
  ·exact h
  ·rw [Array.getElem?_eq_none h] at h1;cases h1
 refine ⟨by rw [x.frame g hlt h2];exact h1,fun hm=>(x.mem g hm).elim h2 (fun h=>by omega)⟩
theorem Ext.rep (x : Ext P new β σ s w β' σ' s' w') {nw : Bool} {t : TypeId} {v : Value} {p : PV} (h : Rep P w (StB n0 β σ s nw) t v p) :
    Rep P w' (StB n0 β' σ' s' nw) t v p :=
  h.mono (fun b hb hlt=>⟨x.frame b hlt hb.1,Nat.lt_of_lt_of_le hlt x.size⟩)
    (fun b hb hlt=>⟨fun hm=>(x.mem b hm).elim hb.1 (fun h=>by omega),hb.2⟩)
theorem Ext.ptr (x:Ext P new β σ s w β' σ' s' w') {b off:Nat} {v:Value} (hn:¬ new b) (h:R3 β s b off v):R3 β' s' b off v:=by
 obtain ⟨blk,rfl,hb⟩:=h;refine ⟨blk,rfl,fun e he=>?_⟩;obtain ⟨⟨e0,h0⟩,h1⟩:=x.kB b e he hn;rw [h1];exact hb e0 h0
theorem Ext.relC (x : Ext P new β σ s w β' σ' s' w') {c : AC0 E N} {v : Value} (hn : ∀ n ∈ c.names, ¬ new n) (h : RelC P n0 β σ s w c v) :
    RelC P n0 β' σ' s' w' c v:=by
  cases c with
  | int k i=>exact h
  | bool b=>exact h
  | str x=>exact h
  | nil e=>exact h
  | nilptr=>exact h
  | any T=>exact h
  | imm e nw l=>obtain ⟨t,ht,hr⟩:=h;exact ⟨t,ht,x.rep hr⟩
  | own e id =>
    obtain ⟨h1,h2⟩:=h;refine ⟨h1,fun h' hh=>?_⟩;obtain ⟨h0,hh0,hs,he,hl⟩:=x.kH id h' hh (hn id (by simp [AC.names]));obtain ⟨e1,o1⟩:=h2 h0 hh0;refine ⟨he.trans e1,?_⟩;have hl:=hl (by obtain ⟨te,hte,_⟩:=h1;exact ⟨te,by rw [e1];exact hte⟩);unfold jZ at o1 ⊢;rw [hs,hl];exact o1
  | ptr b off=>exact x.ptr (hn b (by simp [AC.names])) h
  | aptr b off n sz i inner=>exact ⟨h.1,h.2.1,x.ptr (hn b (by simp [AC.names])) h.2.2⟩
  | eptr id i off =>
    obtain ⟨h0,blk,o,hv,hk⟩:=h;refine ⟨h0,blk,o,hv,fun h' hh=>?_⟩;obtain ⟨e0,hh0,hs,he,hl⟩:=x.kH id h' hh (hn id (by simp [AC.names]));obtain ⟨hi,ts,cap,hts,hsg,hcp,ho⟩:=hk e0 hh0;have hl:=hl hcp.2;exact ⟨by rw [hl];exact hi,ts,cap,by rw [he];exact hts,by rw [hs];exact hsg,by rw [he];exact hcp,ho⟩
  | iptr e nw l i off =>
    obtain ⟨h0,h1,t,ts,blk,boff,len,cap,ht,hts,hr,hv⟩:=h;exact ⟨h0,h1,t,ts,blk,boff,len,cap,ht,hts,x.rep hr,hv⟩
  | fn f caps =>
    obtain ⟨vs,hv,hl,hp⟩:=h;refine ⟨vs,hv,hl,fun i c hc=>?_⟩;obtain ⟨y,hy,hr⟩:=hp i c hc;cases c with
    | box b o=>exact ⟨y,hy,x.ptr (hn b (RJ hc)) hr⟩
    | row e l =>
      obtain ⟨h1,t,ts,blk,boff,len,cap,ht,hts,hr,hv⟩:=hr;exact ⟨y,hy,h1,t,ts,blk,boff,len,cap,ht,hts,x.rep hr,hv⟩
  | tail e id i =>
    obtain ⟨h0,hv,hk⟩:=h;refine ⟨h0,hv,fun h' hh=>?_⟩;obtain ⟨e0,hh0,hs,he,hl⟩:=x.kH id h' hh (hn id (by simp [AC.names]));obtain ⟨h1,hi,hq⟩:=hk e0 hh0;obtain ⟨te,hte,_⟩:=hv;have hl:=hl ⟨te,by rw [h1];exact hte⟩;exact ⟨he.trans h1,by rw [hl];exact hi,by rw [hl,hs];exact hq⟩
  | mp e id =>
    obtain ⟨hv,hk⟩:=h;refine ⟨hv,fun h' hh=>?_⟩;obtain ⟨e0,hh0,hs,he,_⟩:=x.kH id h' hh (hn id (by simp [AC.names]));obtain ⟨h1,r,h2,h3⟩:=hk e0 hh0;exact ⟨he.trans h1,r,by rw [hs];exact h2,h3⟩
theorem Ext.relCs (x : Ext P new β σ s w β' σ' s' w') : ∀ {cs : List (AC0 E N)} {vs : List Value}, (∀ n ∈ AF cs, ¬ new n) → RelCs P n0 β σ s w cs vs →
    RelCs P n0 β' σ' s' w' cs vs
  | [],[],_,h=>h
  | c::cs,v::vs,hn,h=>⟨x.relC (fun n hm=>hn n (by simp [AF,hm])) h.1,x.relCs (fun n hm=>hn n (by simp [AF,hm])) h.2⟩
  | [],_::_,_,h=>h.elim
  | _::_,[],_,h=>h.elim
theorem Ext.relVal (x : Ext P new β σ s w β' σ' s' w') {y : Val (std E N)} {v : Value} (hn : ∀ n ∈ AF y.cs, ¬ new n) (h : RelVal P n0 β σ s w y v) :
    RelVal P n0 β' σ' s' w' y v:=⟨x.relCs hn h.1,h.2⟩
theorem Ext.relVals (x : Ext P new β σ s w β' σ' s' w') : ∀ {cs : List (Val (std E N))} {vs : List Value}, (∀ n ∈ Bh cs, ¬ new n) → RelVals P n0 β σ s w cs vs →
    RelVals P n0 β' σ' s' w' cs vs
  | [],[],_,h=>h
  | c::cs,v::vs,hn,h=>⟨x.relVal (fun n hm=>hn n (by simp [Bh,hm])) h.1,x.relVals (fun n hm=>hn n (by simp [Bh,hm])) h.2⟩
  | [],_::_,_,h=>h.elim
  | _::_,[],_,h=>h.elim
theorem Ext.relAV (x : Ext P new β σ s w β' σ' s' w') {y : AV (std E N)} {v : Value} (hn : ∀ n ∈ y.names, ¬ new n) (h : RelAV P n0 β σ s w y v) :
    RelAV P n0 β' σ' s' w' y v:=by
  cases y with
  | val y=>exact x.relVal hn h
  | tup ys=>obtain ⟨vs,hv,hr⟩:=h;exact ⟨vs,hv,x.relVals hn hr⟩
theorem Ext.refl (P:Program) (new:Nat→Prop) (β:Nat→Option Nat) (σ:Nat→Option (Nat×Nat)) (s:St0 E N) (w:World):Ext P new β σ s w β σ s w :=
 ⟨rfl,rfl,rfl,Nat.le_refl _,fun _ _ _=>rfl,fun _ h=>.inl h,fun b e h _=>⟨⟨e,h⟩,rfl⟩,fun id h hh _=>⟨h,hh,rfl,rfl,fun _=>rfl⟩⟩
theorem Ext.trans {new2 : Nat → Prop} {β'' : Nat → Option Nat} {σ'' : Nat → Option (Nat × Nat)} {s'' : St0 E N} {w'' : World}
    (x:Ext P new β σ s w β' σ' s' w') (y:Ext P new2 β' σ' s' w' β'' σ'' s'' w''):Ext P (fun n=>new n∨new2 n) β σ s w β'' σ'' s'' w'' where
  os:=y.os.trans x.os
  tape:=y.tape.trans x.tape
  output:=y.output.trans x.output
  size:=Nat.le_trans x.size y.size
  frame b hb hm:=by
    rw [y.frame b (Nat.lt_of_lt_of_le hb x.size) (fun h=>(x.mem b h).elim hm (fun h=>by omega)),x.frame b hb hm]
  mem b h:=(y.mem b h).elim (fun h=>x.mem b h) (fun h=>.inr (Nat.le_trans x.size h))
  kB b e h hn:=by
    obtain ⟨⟨e1,h1⟩,e2⟩:=y.kB b e h (fun h=>hn (.inr h));obtain ⟨⟨e3,h3⟩,e4⟩:=x.kB b e1 h1 (fun h=>hn (.inl h));exact ⟨⟨e3,h3⟩,e2.trans e4⟩
  kH id h hh hn:=by
    obtain ⟨h1,hh1,a1,a2,a3⟩:=y.kH id h hh (fun h=>hn (.inr h));obtain ⟨h2,hh2,b1,b2,b3⟩:=x.kH id h1 hh1 (fun h=>hn (.inl h));exact ⟨h2,hh2,a1.trans b1,a2.trans b2,fun hx=>(a3 (by rw [b2];exact hx)).trans (b3 hx)⟩
theorem Ext.weaken {new2:Nat→Prop} (x:Ext P new β σ s w β' σ' s' w') (h:∀ n,new n→new2 n):Ext P new2 β σ s w β' σ' s' w' :=
 { x with kB:=fun b e hb hn=>x.kB b e hb (fun k=>hn (h _ k)),kH:=fun id e hb hn=>x.kH id e hb (fun k=>hn (h _ k)) }
structure Sub (s s':St0 E N):Prop where
 b:∀ n e',s'.getB n=some e'→∃ e,s.getB n=some e∧e'.cs=e.cs
 h:∀ n h',s'.getH n=some h'→∃ h,s.getH n=some h∧h'.e=h.e∧h'.l=h.l∧h'.nw=h.nw∧(h'.frozen=false→h.frozen=false)
theorem Sub.inM (x:Sub s s') {b:Nat} (h:InM β σ s' b):InM β σ s b:=by
 rcases h with ⟨n,e,he,hb⟩ | ⟨id,h,cap,hh,hf,hs⟩
 ·obtain ⟨e0,h0,_⟩:=x.b n e he;exact .inl ⟨n,e0,h0,hb⟩
 ·obtain ⟨h0,hh0,_,_,_,hf0⟩:=x.h id h hh;exact .inr ⟨id,h0,cap,hh0,hf0 hf,hs⟩
theorem Sub.ext (x:Sub s s') (P:Program) (new:Nat→Prop) (β:Nat→Option Nat) (σ:Nat→Option (Nat×Nat)) (w:World):Ext P new β σ s w β σ s' w where
 os:=rfl
 tape:=rfl
 output:=rfl
 size:=Nat.le_refl _
 frame _ _ _:=rfl
 mem b h:=.inl (x.inM h)
 kB n e h _:=by obtain ⟨e0,h0,_⟩:=x.b n e h;exact ⟨⟨e0,h0⟩,rfl⟩
 kH n e h _:=by obtain ⟨h0,hh0,h1,h2,_⟩:=x.h n e h;exact ⟨h0,hh0,rfl,h1,fun _=>by rw [h2]⟩
theorem Sub.mem (x:Sub s s') (m:Mem P n0 β σ s w):Mem P n0 β σ s' w where
 B n e h:=by
  obtain ⟨e0,h0,hc⟩:=x.b n e h;obtain ⟨blk,cells,el,hb,hh,hr,hbh⟩:=m.B n e0 h0;exact ⟨blk,cells,el,hb,hh,(x.ext P (fun _=>False) β σ w).relCs (fun _ _=>id) (by rw [hc];exact hr),by rw [hc];exact hbh⟩
 H n e h:=by
  obtain ⟨h0,hh0,h1,h2,h3,h4⟩:=x.h n e h
  rcases m.H n h0 hh0 with ⟨t,ts,ht,hts,hr,hm⟩ | hM
  case inr=>exact .inr (hM.view h1 h2 rfl (fun _ _ _=>rfl) (fun _ _ _ ho=>by rw [h3];exact ho))
  refine .inl ⟨t,ts,by rw [h1];exact ht,by rw [h1];exact hts,by rw [h2];exact hr,?_⟩
  rcases hm with ⟨ha,hb⟩ | ⟨blk,cap,cells,el,ha,hb,hel,hc,hd,he,v,hv,hrep⟩
  ·exact .inl ⟨ha,by rw [h2];exact hb⟩
  ·refine .inr ⟨blk,cap,cells,el,ha,hb,by rw [h1];exact hel,hc,by rw [h2];exact hd,by rw [h3];exact he,v,by rw [h2];exact hv,fun i j t' hi hj=>?_⟩;rw [h2] at hi ⊢;rw [h3];exact (x.ext P (fun _=>False) β σ w).rep (hrep i j t' hi hj)
 uB b b' e e' blk h h' hb hb':=by
  obtain ⟨e0,h0,_⟩:=x.b b e h;obtain ⟨e1,h1,_⟩:=x.b b' e' h';exact m.uB b b' e0 e1 blk h0 h1 hb hb'
 uH b b' e e' blk cap cap' h h' hb hb':=by
  obtain ⟨e0,h0,_⟩:=x.h b e h;obtain ⟨e1,h1,_⟩:=x.h b' e' h';exact m.uH b b' e0 e1 blk cap cap' h0 h1 hb hb'
 uX b e id h blk cap hb hh h1 h2:=by
  obtain ⟨e0,h0,_⟩:=x.b b e hb;obtain ⟨h3,hh3,_⟩:=x.h id h hh;exact m.uX b e0 id h3 blk cap h0 hh3 h1 h2
theorem Sub.of_same (hb:∀ n,s'.getB n=s.getB n) (hh:∀ n,s'.getH n=s.getH n):Sub s s' :=
 ⟨fun n e h=>⟨e,by rw [← hb];exact h,rfl⟩,fun n e h=>⟨e,by rw [← hh];exact h,rfl,rfl,rfl,id⟩⟩
end
end
end Go.Px
end
