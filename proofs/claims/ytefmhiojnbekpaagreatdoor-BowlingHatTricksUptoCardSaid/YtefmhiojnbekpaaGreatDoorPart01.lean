/- Part 1. -/
import GoSem.Step
import Derived.WalkKit
import Derived.Lib.LaidTab
set_option linter.unusedVariables false
set_option linter.unusedSimpArgs false
section
namespace Go.Px
theorem zzk (a b:Bool):((a&&b)=true)=(a=true∧b=true):=Bool.and_eq_true a b
theorem zzl {α:Type} {l:List α} {i:Nat} {a:α}:l.getD i a=l[i]?.getD a:=List.getD_eq_getElem?_getD
theorem zzm {α:Type} {a:α} {l:List α}:a∈a::l:=List.mem_cons_self
theorem zzn {α:Type} (y:α) {a:α} {l:List α}:a∈l→a∈y::l:=List.mem_cons_of_mem y
theorem zzo {α:Type} {l:List α} {i:Nat} (h:i<l.length):l[i]?=some l[i]:=List.getElem?_eq_getElem h
theorem zzp {α β:Type} {x:Option α} {f:α→β} {b:β}:x.map f=some b↔∃ a,x=some a∧f a=b:=Option.map_eq_some_iff
inductive Leaf (I B S L:Type) where
 | int (i:I)
 | bool (b:B)
 | str (s:S)
 | rows (l:L)
structure Alg where
 I:Type
 B:Type
 S:Type
 L:Type
 C:Type
 M:Type
 lit:IntKind→Int→I
 p:IntKind→I→I→I
 s:IntKind→I→I→I
 af:IntKind→I→I→I
 aq:IntKind→I→I→I
 al:IntKind→I→I→I
 az:IntKind→I→I
 t:I→I→B
 m:I→I→B
 d:I→I→B
 j:B
 e:B
 f:B→B
 x:B→B→B
 aj:B→B→B
 ae:B→I→I→I
 i:B→B→B→B
 ba:B→S→S→S
 bb:B→L→L→L
 v:ByteArray→S
 ao:S→S→B
 bc:S→S→B
 ag:S→I
 ax:S→I→I
 bd:S→I→I→S
 ap:S→S→S
 ay:S→L
 u:L
 ab:List (List (Leaf I B S L))→L
 ac:L→L→L
 l:L→I
 y:L→I→Nat→List (Leaf I B S L)→L
 ak:L→I→I→L
 an:I→List (Leaf I B S L)→L
 q:L→I→Nat→I
 rB:L→I→Nat→B
 rS:L→I→Nat→S
 rL:L→I→Nat→L
 au:Nat→L→List I→I
 av:Nat→L→List I→I
 aw:Nat→L→List I→I→L
 h:C→Nat→I
 k:C→Nat→B
 cS:C→Nat→S
 o:C→Nat→L
 aa:C→Nat→B
 r:I→I→B
 am:I→I→I→B
 z:I→Nat→B
 a:List (Leaf I B S L)→M
 ad:String→M
 n:B→M→M
 b:B→M→M→M
 c:M→(C→M)→M
 g:Nat→List Nat→List (Leaf I B S L)→M
 w:((List (Leaf I B S L)→M)→C→M)→List (Leaf I B S L)→M
abbrev Alg.Lf (O:Alg):Type:=Leaf O.I O.B O.S O.L
inductive AC (O:Alg) where
 | int (k:IntKind) (i:O.I)
 | bool (b:O.B)
 | str (s:O.S)
 | nil (e:TypeId)
 | imm (e:TypeId) (nw:Bool) (l:O.L)
 | own (e:TypeId) (id:Nat)
 | ptr (b off:Nat)
 | aptr (b off n sz:Nat) (i:O.I) (inner:Nat)
 | eptr (id:Nat) (i:O.I) (off:Nat)
 | iptr (e:TypeId) (nw:Bool) (l:O.L) (i:O.I) (off:Nat)
 | fn (f:FuncId) (caps:List (Nat×Nat))
 | nilptr
 | tail (e:TypeId) (id:Nat) (i:O.I)
 | mp (e:TypeId) (id:Nat)
structure Val (O:Alg) where
 agg:Bool
 cs:List (AC O)
inductive AV (O:Alg) where
 | val (v:Val O)
 | tup (vs:List (Val O))
structure TV (O:Alg) where
 gs:List (Nat×Bool)
 v:AV O
structure BEnt (O:Alg) where
 cs:List (AC O)
 dirty:Bool
structure HEnt (O:Alg) where
 e:TypeId
 frozen:Bool
 nw:Bool
 l:O.L
 dirty:Bool
inductive TM (α:Type) where
 | e
 | leaf (a:α)
 | node (l r:TM α)
def TM.get {α:Type}:Nat→TM α→Nat→Option α
 | 0,.leaf a,_=>some a
 | d+1,.node l r,k=>match Nat.beq (k % 2) 0 with
  | true=>TM.get d l (k / 2)
  | false=>TM.get d r (k / 2)
 | _,_,_=>none
def TM.kids {α:Type}:TM α→TM α×TM α
 | .node l r=>(l,r)
 | _=>(.e,.e)
def TM.set {α:Type}:Nat→TM α→Nat→Option α→TM α
 | 0,_,_,some a=>.leaf a
 | 0,_,_,none=>.e
 | d+1,t,k,a=>match t.kids with
  | (l,r)=>match Nat.beq (k % 2) 0 with
   | true=>.node (TM.set d l (k / 2) a) r
   | false=>.node l (TM.set d r (k / 2) a)
def AL {α:Type}:List (Nat×α)→Nat→Option α
 | [],_=>none
 | (j,a)::l,k=>match Nat.beq j k with
  | true=>some a
  | false=>AL l k
def dJ {α:Type}:List (Nat×α)→Nat→List (Nat×α)
 | [],_=>[]
 | (j,a)::l,k=>match Nat.beq j k with
  | true=>dJ l k
  | false=>(j,a)::dJ l k
def Py {α:Type} (l:List (Nat×α)) (k:Nat):Option α→List (Nat×α)
 | some a=>(k,a)::dJ l k
 | none=>dJ l k
def Q5:Nat:=9
structure State (O:Alg) where
 tm:TM (TV O)
 bx:List (Nat×BEnt O)
 hp:List (Nat×HEnt O)
 st:Nat
def Du:Nat:=512
def DG {α:Type} (t:TM α) (n:Nat):Option α:=match Nat.blt n Du with
 | true=>TM.get Q5 t n
 | false=>none
def HX {α:Type} (t:TM α) (n:Nat) (v:Option α):TM α:=match Nat.blt n Du with
 | true=>TM.set Q5 t n v
 | false=>t
def State.getT {O:Alg} (s:State O) (n:Nat):Option (TV O):=DG s.tm n
def State.getB {O:Alg} (s:State O) (n:Nat):Option (BEnt O):=AL s.bx n
def State.getH {O:Alg} (s:State O) (n:Nat):Option (HEnt O):=AL s.hp n
structure Wr (O:Alg) where
 ts:List (Nat×Option (TV O)):=[]
 bs:List (Nat×Option (BEnt O)):=[]
 hs:List (Nat×Option (HEnt O)):=[]
def State.applyT {O:Alg} (t:TM (TV O)):List (Nat×Option (TV O))→TM (TV O)
 | []=>t
 | (n,v)::r=>State.applyT (HX t n v) r
def BE {α:Type} (t:List (Nat×α)):List (Nat×Option α)→List (Nat×α)
 | []=>t
 | (n,v)::r=>BE (Py t n v) r
def State.apply {O:Alg} (s:State O) (w:Wr O):State O :=
 { tm:=State.applyT s.tm w.ts,bx:=BE s.bx w.bs,hp:=BE s.hp w.hs,st:=s.st }
def Dv (k:Nat):Nat:=2 ^ k
def V8 (f:Nat→Nat) {α:Type}:List (Nat×α)→Nat
 | []=>0
 | (n,_)::r=>Dv (f n) ||| V8 f r
def Wr.mask {O:Alg} (w:Wr O):Nat :=
 V8 (fun n=>3 * n) w.ts ||| V8 (fun n=>3 * n+1) w.bs ||| V8 (fun n=>3 * n+2) w.hs
inductive RM (O:Alg) (α:Type) where
 | ret (a:α)
 | fail (w:String)
 | t (n:Nat) (f:Option (TV O)→RM O α)
 | b (n:Nat) (f:Option (BEnt O)→RM O α)
 | h (n:Nat) (f:Option (HEnt O)→RM O α)
def RM.bind {O:Alg} {α β:Type}:RM O α→(α→RM O β)→RM O β
 | .ret a,f=>f a
 | .fail w,_=>.fail w
 | .t n g,f=>.t n fun v=>(g v).bind f
 | .b n g,f=>.b n fun v=>(g v).bind f
 | .h n g,f=>.h n fun v=>(g v).bind f
instance {O:Alg}:Monad (RM O) where
 pure:=RM.ret
 bind:=RM.bind
def RM.run {O:Alg} {α:Type} (s:State O):RM O α→Nat→Except String (α×Nat)
 | .ret a,m=>.ok (a,m)
 | .fail w,_=>.error w
 | .t n g,m=>RM.run s (g (s.getT n)) (m ||| Dv (3 * n))
 | .b n g,m=>RM.run s (g (s.getB n)) (m ||| Dv (3 * n+1))
 | .h n g,m=>RM.run s (g (s.getH n)) (m ||| Dv (3 * n+2))
def RM.ofOpt {O:Alg} {α:Type} (w:String):Option α→RM O α
 | some a=>.ret a
 | none=>.fail w
def RM.guard {O:Alg} (b:Bool) (w:String):RM O Unit:=match b with
 | true=>.ret ()
 | false=>.fail w
inductive LK where
 | int (k:IntKind) | bool | str | sl (e:TypeId) | ptr | fn | other
def Vs:IntKind→IntKind→Bool
 | .i8,.i8 | .i16,.i16 | .i32,.i32 | .i64,.i64 | .u8,.u8 | .u16,.u16 | .u32,.u32 | .u64,.u64=>true
 | _,_=>false
def AM (P:Program) (t:TypeId):LK:=match P.underlying t with
 | some (.int k)=>.int k
 | some .bool=>.bool
 | some .string=>.str
 | some (.slice e)=>.sl e
 | some (.pointer _)=>.ptr
 | some (.func _ _ _)=>.fn
 | _=>.other
def EO {α:Type}:Nat→List α→List α
 | 0,_=>[]
 | n+1,l=>l++EO n l
def P3 {α:Type}:List (Option (List α))→Option (List α)
 | []=>some []
 | none::_=>none
 | some a::r=>match P3 r with
  | some b=>some (a++b)
  | none=>none
def Bd (P:Program):Nat→TypeId→Option (List TypeId)
 | 0,_=>none
 | n+1,t=>match P.underlying t with
  | some (.struct fs)=>P3 (fs.toList.map fun f=>Bd P n f.type)
  | some (.array k e)=>(Bd P n e).map (EO k)
  | some (.tuple _) | some .invalid | some (.named _ _) | none=>none
  | some _=>some [t]
def C6:Nat:=20
def AU (P:Program) (t:TypeId):Option (List TypeId):=match Bd P C6 t with
 | some l=>match Nat.beq l.length (P.cellsOf t)&&Nat.blt 0 l.length with
  | true=>some l
  | false=>none
 | none=>none
def AW (P:Program) (t:TypeId):Bool:=match P.underlying t with
 | some (.struct _) | some (.array _ _)=>true
 | _=>false
def US (P:Program) (t:TypeId):Option TypeId:=match P.underlying t with
 | some (.slice e)=>some e
 | _=>none
def OG (P:Program):Nat→List Field→Bool
 | _,[]=>true
 | off, f :: fs => match Nat.beq f.offset off && (f.name != "_"), P.underlying f.type with
  | true,some (.int .i64)=>OG P (off+1) fs
  | _,_=>false
def bB (P:Program) (K:TypeId) (n:Nat):Bool:=match P.underlying K with
 | some (.struct fs)=>OG P 0 fs.toList&&Nat.beq fs.toList.length n && !P.stoodInHeld K
 | _=>false
def QZ (P:Program) (T:TypeId) (n:Nat):Bool:=match P.underlying T with
 | some (.map K V)=>bB P K n&&(match P.underlying V with | some (.int .i64)=>true | _=>false)&&(match P.info? V with
  | some i=>(match i.zero with | some (.int .i64 z)=>z==0 | _=>false)
  | none=>false)
 | _=>false
def noSl (P:Program) (T:TypeId):Bool:=P.types.toList.all fun i=>match i.desc with
 | .slice e => !Nat.beq e T
 | _=>true
def DP (P:Program) (n:Nat):TypeId:=P.types.size+2+n
def KK (P:Program) (T:TypeId):TypeId×TypeId:=match P.underlying T with
 | some (.map K V)=>(K,V)
 | _=>(T,T)
def AF:List Nat→List Nat→Bool
 | [],[]=>true
 | a::l,b::r=>match Nat.beq a b with
  | true=>AF l r
  | false=>false
 | _,_=>false
def Cx (n:Nat):List Nat→Bool
 | []=>false
 | m::l=>match Nat.beq n m with
  | true=>true
  | false=>Cx n l
def Za (P:Program) (e:TypeId) (off:Nat) (t:TypeId):Option (List TypeId) :=
 match AU P e,AU P t with
 | some l,some r=>match AF ((l.drop off).take r.length) r with
  | true=>some r
  | false=>none
 | _,_=>none
section
variable {O:Alg} (P:Program)
def oV (t:TypeId) (v:Value):Option (AC O):=match AM P t,v with
 | .int k,.int k' n=>match Vs k k' with
  | true=>some (.int k (O.lit k n))
  | false=>none
 | .bool,.bool b=>some (.bool (match b with | true=>O.j | false=>O.e))
 | .str,.string s=>some (.str (O.v s))
 | .sl e,.slice none 0 0=>match AU P e with
  | some _=>some (.nil e)
  | none=>none
 | .ptr,.pointer none=>some .nilptr
 | _,_=>none
def U2:List TypeId→List Value→Option (List (AC O))
 | [],[]=>some []
 | t::ts,v::vs=>match oV P t v,U2 ts vs with
  | some a,some r=>some (a::r)
  | _,_=>none
 | _,_=>none
def hG (t:TypeId) (v:Value):Option (Val O):=match v with
 | .agg cs=>match AU P t with
  | some ts=>match U2 P ts cs.toList with
   | some l=>some { agg:=true,cs:=l }
   | none=>none
  | none=>none
 | v=>match oV P t v with
  | some c=>some { agg:=false,cs:=[c] }
  | none=>none
def W3 (t:TypeId):Option (Val O):=match P.info? t with
 | some i=>match i.zero with
  | some v=>hG P t v
  | none=>none
 | none=>none
def RC (nw:Bool) (l:O.L) (i:O.I):Nat→List TypeId→Option (List (AC O))
 | _,[]=>some []
 | j,t::ts=>match RC nw l i (j+1) ts with
  | none=>none
  | some r=>match AM P t with
   | .int k=>some (.int k (O.q l i j)::r)
   | .bool=>some (.bool (O.rB l i j)::r)
   | .str=>some (.str (O.rS l i j)::r)
   | .sl e=>some (.imm e nw (O.rL l i j)::r)
   | _=>none
def Az (own:Nat→Bool) (nw:Bool) (c:O.C):Nat→Nat→List TypeId→Option (List (AC O)×List (Nat×HEnt O))
 | _,_,[]=>some ([],[])
 | j,q,t::ts=>match AM P t with
  | .int k=>(Az own nw c (j+1) q ts).map fun (r,h)=>(.int k (O.h c j)::r,h)
  | .bool=>(Az own nw c (j+1) q ts).map fun (r,h)=>(.bool (O.k c j)::r,h)
  | .str=>(Az own nw c (j+1) q ts).map fun (r,h)=>(.str (O.cS c j)::r,h)
  | .sl e=>match own e with
   | true=>(Az own nw c (j+1) (q+1) ts).map fun (r,h)=>(.own e q::r,(q,{ e,frozen:=false,nw,l:=O.o c j,dirty:=true })::h)
   | false=>(Az own nw c (j+1) q ts).map fun (r,h)=>(.imm e nw (O.o c j)::r,h)
  | _=>none
def AEY:List TypeId→Option (List O.Lf)
 | []=>some []
 | t::ts=>match AEY ts with
  | none=>none
  | some r=>match AM P t with
   | .int k=>some (.int (O.lit k 0)::r)
   | .bool=>some (.bool O.e::r)
   | .str=>some (.str (O.v ByteArray.empty)::r)
   | .sl _=>some (.rows O.u::r)
   | _=>none
end
def aV:List (Nat×Bool)→List (Nat×Bool)→Bool
 | [],_=>true
 | (n,b)::r,ctx=>match ctx.any (fun (m,c)=>Nat.beq n m&&(b==c)) with
  | true=>aV r ctx
  | false=>false
inductive StepRes (O:Alg) where
 | plain (as:List O.B) (w:Wr O)
 | call (g:Option O.B) (f:FuncId) (fns:List Nat) (args:List O.Lf) (dflt:List O.Lf) (next:O.C→Option (Wr O))
 | inl (f:FuncId) (args:List (AV O))
structure CI where
 f:FuncId
 fns:List Nat
 own:Bool
 nw:Bool
 gives:List Bool:=[]
 sk:List Nat:=[]
def CI.ow (ci:CI) (e:Nat):Bool:=ci.own && !Cx e ci.sk
structure Cfg where
 gam:List CI
 imm:Bool:=false
 old:Bool:=false
 ie:List Nat:=[]
def Z8:List CI→Nat→List Nat→Option CI
 | [],_,_=>none
 | c::l,f,fns=>match Nat.beq c.f f&&AF c.fns fns with
  | true=>some c
  | false=>Z8 l f fns
section
variable {O:Alg} (P:Program) (cfg:Cfg)
def one (c:AC O):AV O:=.val { agg:=false,cs:=[c] }
def ev (ctx:List (Nat×Bool)) (T:TypeId):Operand→RM O (AV O)
 | .tmp n=>.t n fun
  | some tv=>match aV tv.gs ctx with
   | true=>.ret tv.v
   | false => .fail "a guarded temporary"
  | none => .fail "no such temporary"
 | .const v=>match hG P T v with
  | some v=>.ret (.val v)
  | none => .fail "a constant"
 | .func f=>.ret (one (.fn f []))
 | .global _ => .fail "a global"
def evV (ctx:List (Nat×Bool)) (T:TypeId) (x:Operand):RM O (Val O):=(ev P ctx T x).bind fun
 | .val v=>.ret v
 | .tup _ => .fail "a tuple"
def evC (ctx:List (Nat×Bool)) (T:TypeId) (x:Operand):RM O (AC O):=(evV P ctx T x).bind fun v =>
 match v.agg,v.cs with
 | false,[c]=>.ret c
 | _, _ => .fail "not one cell"
def evI (ctx:List (Nat×Bool)):Operand→RM O (O.I)
 | .const (.int k n)=>.ret (O.lit k n)
 | .tmp n=>.t n fun
  | some tv=>match aV tv.gs ctx,tv.v with
   | true,.val ⟨false,[.int _ i]⟩=>.ret i
   | _, _ => .fail "no integer"
  | none => .fail "no such temporary"
 | _ => .fail "no integer"
def ox:List (Nat×Bool)→RM O (Option O.B)
 | []=>.ret none
 | (n,want)::r=>.t n fun
  | some ⟨_,.val ⟨false,[.bool b]⟩⟩=>(ox r).bind fun g =>
   let c:=match want with | true=>b | false=>O.f b
   .ret (some (match g with | none=>c | some g=>O.x g c))
  | _ => .fail "no guard"
def oU (ops:List Oper) (o:Oper):RM O (List (Nat×Bool)):=match o.guard with
 | none=>.ret []
 | some (j,want)=>match (ops[j]?).bind (·.dst) with
  | some d=>.t d fun
   | some tv=>.ret ((d,want)::tv.gs)
   | none => .fail "no such guard"
  | none => .fail "a guard without a value"
def sH (g:Option O.B) (a:O.B):O.B:=match g with
 | none=>a
 | some g=>O.f (O.x g (O.f a))
def oW (b:O.B):AC O→AC O→Option (AC O)
 | .int k x,.int k' y=>match Vs k k' with
  | true=>some (.int k (O.ae b x y))
  | false=>none
 | .bool x,.bool y=>some (.bool (O.i b x y))
 | .str x,.str y=>some (.str (O.ba b x y))
 | .imm e nw x,.imm e' nw' y=>match Nat.beq e e' with
  | true=>some (.imm e (nw&&nw') (O.bb b x y))
  | false=>none
 | _,_=>none
def Cs (b:O.B):List (AC O)→List (AC O)→Option (List (AC O))
 | [],[]=>some []
 | x::xs,y::ys=>match oW b x y,Cs b xs ys with
  | some c,some r=>some (c::r)
  | _,_=>none
 | _,_=>none
def AGB (op:BinOp) (a b:O.I):Option O.B:=match op with
 | .eql=>some (O.d a b)
 | .neq=>some (O.f (O.d a b))
 | .lss=>some (O.m a b)
 | .leq=>some (O.t a b)
 | .gtr=>some (O.m b a)
 | .geq=>some (O.t b a)
 | _=>none
def eqC:AC O→AC O→Option O.B
 | .int k a,.int k' b=>match Vs k k' with
  | true=>some (O.d a b)
  | false=>none
 | .bool a,.bool b=>some (O.aj a b)
 | .str a,.str b=>some (O.ao a b)
 | _,_=>none
def K0:List (AC O)→List (AC O)→Option O.B
 | [],[]=>some O.j
 | [x],[y]=>eqC x y
 | x::xs,y::ys=>match eqC x y,K0 xs ys with
  | some a,some r=>some (O.x a r)
  | _,_=>none
 | _,_=>none
def aO:LK→AC O→Bool
 | .int k,.int k' _=>Vs k k'
 | .bool,.bool _=>true
 | .str,.str _=>true
 | _,_=>false
def Bf:List TypeId→List (AC O)→Bool
 | [],[]=>true
 | t::ts,c::cs=>match aO (AM P t) c with
  | true=>Bf ts cs
  | false=>false
 | _,_=>false
def bp:Nat→List Field→Bool
 | _,[]=>true
 | off, f :: fs => match Nat.beq f.offset off && (f.name != "_") with
  | true=>bp (off+P.cellsOf f.type) fs
  | false=>false
def SZ:Option (List Nat)→Option (List Nat)→Bool
 | some a,some b=>AF a b
 | _,_=>false
def bW:Nat→TypeId→Bool
 | 0,_=>false
 | n+1,t=>match P.underlying t with
  | some .bool | some (.int _) | some .string=>SZ (AU P t) (some [t])
  | some (.struct fs) => !P.stoodInHeld t&&bp P 0 fs.toList&&fs.toList.all (fun f=>bW n f.type)&&SZ (AU P t) (P3 (fs.toList.map fun f=>AU P f.type))
  | some (.array k e)=>bW n e&&SZ (AU P t) ((AU P e).map (EO k))
  | _=>false
def IY:Operand→Bool
 | .const (.int _ n) => !(n==0)
 | _=>false
def rD:AC O→RM O (O.Lf×List (Nat×Option (HEnt O))×Bool)
 | .int _ i=>.ret (.int i,[],true)
 | .bool b=>.ret (.bool b,[],true)
 | .str s=>.ret (.str s,[],true)
 | .nil _=>.ret (.rows O.u,[],true)
 | .imm _ nw l=>.ret (.rows l,[],nw)
 | .own _ id=>.h id fun
  | some h=>.ret (.rows h.l,[(id,some { h with frozen:=true,dirty:=true })],h.nw)
  | none => .fail "a slice that is gone"
 | _ => .fail "no data"
def Ph:List (AC O)→RM O (List O.Lf×List (Nat×Option (HEnt O))×Bool)
 | []=>.ret ([],[],true)
 | c::r=>(rD c).bind fun (a,h,n)=>(Ph r).bind fun (as,hs,ns)=>.ret (a::as,h++hs,n&&ns)
def DQ {α:Type}:List α→Nat→List α→Option (List α)
 | l,_,[]=>some l
 | [],_,_::_=>none
 | x::l,0,y::ys=>(DQ l 0 ys).map (y::·)
 | x::l,n+1,ys=>(DQ l n ys).map (x::·)
def IH {α:Type} (l:List α) (off n:Nat):Option (List α) :=
 let r:=(l.drop off).take n
 match Nat.beq r.length n with
 | true=>some r
 | false=>none
def UL (f:Nat→Option (List (AC O))) (i:O.I):Nat→Option (List (AC O))
 | 0=>f 0
 | k+1=>match UL f i k,f (k+1) with
  | some r,some c=>Cs (O.d i (O.lit .i64 ((k+1:Nat):Int))) c r
  | _,_=>none
def yI (off sz inner:Nat) (i:O.I) (v:List (AC O)):Nat→List (AC O)→Option (List (AC O))
 | 0,cs=>some cs
 | k+1,cs=>match IH cs (off+k * sz+inner) v.length with
  | none=>none
  | some old=>match Cs (O.d i (O.lit .i64 (k:Int))) v old with
   | none=>none
   | some new=>match DQ cs (off+k * sz+inner) new with
    | none=>none
    | some cs=>yI off sz inner i v k cs
def xt (T:TypeId):AC O→RM O (List (AC O))
 | .ptr b off=>.b b fun
  | some e => RM.ofOpt "load" (IH e.cs off (P.cellsOf T))
  | none => .fail "no such variable"
 | .aptr b off n sz i inner=>.b b fun
  | some e =>
   match n with
   | 0 => .fail "an array of no elements"
   | n + 1 => RM.ofOpt "load of an element" (UL (fun k => IH e.cs (off + k * sz + inner) (P.cellsOf T)) i n)
  | none => .fail "no such variable"
 | .eptr id i off=>.h id fun
  | some h=>match Za P h.e off T with
   | some ts => RM.ofOpt "load of a row" (RC P h.nw h.l i off ts)
   | none => .fail "a row of another type"
  | none => .fail "a slice that is gone"
 | .iptr e nw l i off=>match Za P e off T with
  | some ts => RM.ofOpt "load of a row" (RC P nw l i off ts)
  | none => .fail "a row of another type"
 | _ => .fail "load no address"
def gN:AC O→RM O (TypeId×O.L×Bool)
 | .nil e=>.ret (e,O.u,true)
 | .imm e nw l=>.ret (e,l,nw)
 | .own _ id=>.h id fun
  | some h=>.ret (h.e,h.l,h.nw)
  | none => .fail "a slice that is gone"
 | _ => .fail "no slice"
def U5 (T:TypeId) (f:Nat):Option Field:=match P.underlying T with
 | some (.struct fs)=>fs.toList[f]?
 | _=>none
def EJ (n:Nat):AC O→Option (AC O)
 | .ptr b off=>some (.ptr b (off+n))
 | .aptr b off m sz i inner=>some (.aptr b off m sz i (inner+n))
 | .eptr id i off=>some (.eptr id i (off+n))
 | .iptr e nw l i off=>some (.iptr e nw l i (off+n))
 | _=>none
def jf (place:Nat→Option (Nat×TypeId)) (ctx:List (Nat×Bool)):List (Nat×Operand)→List (AC O)→RM O (List (AC O))
 | [],cs=>.ret cs
 | (i,x)::r,cs=>match place i with
  | none => .fail "no such part"
  | some (off, T) => (evV P ctx T x).bind fun v => (RM.guard (Nat.beq v.cs.length (P.cellsOf T) && Nat.blt 0 v.cs.length) "a part of another size").bind fun _ =>
   match DQ cs off v.cs with
   | some cs=>jf place ctx r cs
   | none => .fail "a part that does not fit"
def JP {α:Type} (n:Nat):Nat→List α→List (List α)
 | 0,_=>[]
 | k+1,l=>l.take n::JP n k (l.drop n)
def v7:List (List (AC O))→RM O (List (List O.Lf)×List (Nat×Option (HEnt O))×Bool)
 | []=>.ret ([],[],true)
 | c::r=>(Ph c).bind fun (a,h,n)=>(v7 r).bind fun (as,hs,ns)=>.ret (a::as,h++hs,n&&ns)
def hP (lt:O.I→O.I→O.B):AC O→List (AC O)→Option (AC O)
 | c,[]=>some c
 | .int k x,.int k' y::r=>match Vs k k' with
  | true=>hP lt (.int k (O.ae (lt y x) y x)) r
  | false=>none
 | _,_=>none
def ABW (ctx:List (Nat×Bool)) (T:TypeId):List Operand→RM O (List (AC O))
 | []=>.ret []
 | x::r=>(evC P ctx T x).bind fun c=>(ABW ctx T r).bind fun l=>.ret (c::l)
def nC:AC O→Bool
 | .int _ _ | .bool _ | .str _ | .nil _=>true
 | _=>false
def BU:LK→AC O→Bool
 | .int k,.int k' _=>Vs k k'
 | .bool,.bool _=>true
 | .str,.str _=>true
 | .sl e,.nil e'=>Nat.beq e e'
 | .sl e,.imm e' _ _=>Nat.beq e e'
 | .sl e,.own e' _=>Nat.beq e e'
 | _,_=>false
def Ac:List TypeId→List (AC O)→Bool
 | [],[]=>true
 | t::ts,c::cs=>match BU (AM P t) c with
  | true=>Ac ts cs
  | false=>false
 | _,_=>false
def Kt (ts:List TypeId):List (List (AC O))→Bool
 | []=>true
 | r::rs=>match Ac P ts r with
  | true=>Kt ts rs
  | false=>false
def my:Operand→Operand→Bool
 | .tmp a,.tmp b=>Nat.beq a b
 | .const (.int _ a),.const (.int _ b)=>decide (a=b)
 | _,_=>false
def AAP (T:TypeId) (v:List (AC O)):AC O→RM O (Wr O)
  | .ptr b off=>.b b fun
    | some e => (RM.guard (Nat.beq v.length (P.cellsOf T) && Nat.blt 0 v.length) "store size").bind fun _ =>
      (RM.ofOpt "store" (DQ e.cs off v)).bind fun cs => .ret { bs := [(b, some { cs, dirty := true })] }
    | none => .fail "no such variable"
  | .aptr b off n sz i inner=>.b b fun
    | some e =>
      (RM.guard (Nat.beq v.length (P.cellsOf T) && Nat.blt 0 v.length) "store size").bind fun _ =>
      (RM.ofOpt "store of an element" (yI off sz inner i v n e.cs)).bind fun cs => .ret { bs := [(b, some { cs, dirty := true })] }
    | none => .fail "no such variable"
  | .eptr id i off=>.h id fun
    | some h => (RM.guard (!h.frozen) "a store into a shared slice").bind fun _ =>
      match Za P h.e off T with
      | some ts => (RM.guard (Nat.beq v.length ts.length && Nat.beq v.length (P.cellsOf T)) "store size").bind fun _ =>
        (Ph v).bind fun (ls, fr, nw) => (RM.guard (Ac P ts v && !Cx id (fr.map (·.1))) "store kinds").bind fun _ =>
          .ret { hs:=fr++[(id,some { h with l:=O.y h.l i off ls,nw:=h.nw&&nw,dirty:=true })] }
      | none => .fail "a row of another type"
    | none => .fail "a slice that is gone"
  | _ => .fail "store no address"
def xQ (ctx:List (Nat×Bool)):List Operand→RM O (List (Nat×Nat))
 | []=>.ret []
 | x::r=>(evC P ctx 0 x).bind fun
  | .ptr b off=>(xQ ctx r).bind fun l=>.ret ((b,off)::l)
  | _ => .fail "makeFunc captured"
def qD (ctx:List (Nat×Bool)):List TypeId→List Operand→RM O (List (AV O))
 | [],[]=>.ret []
 | t::ts,x::xs=>(ev P ctx t x).bind fun v=>(qD ctx ts xs).bind fun r=>.ret (v::r)
 | _, _ => .fail "arguments"
def Ze (used:List Nat):List (AC O)→RM O (List O.Lf×List Nat)
 | []=>.ret ([],used)
 | .own _ id::r=>.h id fun
  | some h=>match !h.frozen && !Cx id used with
   | true=>(Ze (id::used) r).bind fun (ls,u)=>.ret (.rows h.l::ls,u)
   | false => .fail "a slice that cannot be handed over"
  | none => .fail "a slice that is gone"
 | .imm _ _ _ :: _ => .fail "a shared slice cannot be handed over"
 | c::r=>(rD c).bind fun (l,_,_)=>(Ze used r).bind fun (ls,u)=>.ret (l::ls,u)
def ACq:AC O→Bool
 | .ptr .. | .aptr .. | .eptr .. | .iptr .. | .fn .. | .nilptr | .tail ..=>false
 | _=>true
def JH:List (AV O)→Option (List Nat)
 | []=>some []
 | .val ⟨false,[.fn f []]⟩::r=>(JH r).map (f::·)
 | .val v::r=>match v.cs.all ACq with
  | true=>JH r
  | false=>none
 | .tup _::_=>none
def M4:List Bool→List Nat→List (AV O)→RM O (List O.Lf×List (Nat×Option (HEnt O))×List Nat)
 | _,used,[]=>.ret ([],[],used)
 | gv,used,.val ⟨false,[.fn f []]⟩::r=>M4 gv.tail used r
 | gv,used,.val v::r=>match gv.headD false with
  | true=>(Ze used v.cs).bind fun (ls,u)=>(M4 gv.tail u r).bind fun (ls',fr,u')=>.ret (ls++ls',fr,u')
  | false=>(Ph v.cs).bind fun (ls,fr,_)=>(M4 gv.tail used r).bind fun (ls',fr',u')=>.ret (ls++ls',fr++fr',u')
 | _, _, .tup _ :: _ => .fail "arguments"
def qU (used:List Nat):List (Nat×Option (HEnt O))→Bool
 | []=>true
 | (n,_)::r => !Cx n used&&qU used r
def BR (own:Nat→Bool) (nw:Bool) (c:O.C):Nat→Nat→List TypeId→Option (List (Val O)×List (Nat×HEnt O))
 | _,_,[]=>some ([],[])
 | j,q,t::ts=>match AU P t with
  | none=>none
  | some l=>match Az P own nw c j q l with
   | none=>none
   | some (cs,h)=>match BR own nw c (j+l.length) (q+h.length) ts with
    | none=>none
    | some (vs,hs)=>some ({ agg:=AW P t,cs }::vs,h++hs)
def LH:List (Val O)→AV O
 | [v]=>.val v
 | vs=>.tup vs
def Ku (P:Program):List TypeId→Option (List TypeId)
 | []=>some []
 | t::ts=>match AU P t,Ku P ts with
  | some a,some r=>some (a++r)
  | _,_=>none
def jg (P:Program):List TypeId→Nat
 | []=>0
 | t::ts=>(match AM P t with | .sl _=>1 | _=>0)+jg P ts
def oH (P:Program) (e:TypeId):Bool:=match AU P e with
 | some l=>Nat.beq (jg P l) 0
 | none=>false
def Bj (P:Program) (o:Oper):Nat:=match o.op with
 | .call c=>match c.callee with
  | .builtin _=>1
  | _=>16
 | .alloc _ | .box _ _ | .buildSlice _ _ _ | .makeSlice _ _ _ | .convert _ _ _ | .slice _ _ _ _ _=>1
 | .makeMap _ _ | .mapUpdate _ _ _ _ | .lookup _ _ _ _ | .mapEntry _ _ _ | .entryStore _ _ _ _=>1
 | _=>0
def H8:List TypeId→List (AV O)→Bool
 | [],[]=>true
 | t::ts,v::vs=>(match AM P t,v with
  | .fn,.val ⟨false,[.fn _ []]⟩=>true
  | .fn,_=>false
  | _,.val ⟨false,[.fn _ []]⟩=>false
  | _,.val v=>match AU P t with
   | some l=>v.agg==AW P t&&Ac P l v.cs
   | none=>false
  | _,.tup _=>false)&&H8 ts vs
 | _,_=>false
def AEf {α:Type} (g:Option α) (b:Nat→Bool):Nat→Bool:=match g with
 | none=>b
 | some _=>fun _=>false
def wW (ctx:List (Nat×Bool)) (g:Option O.B) (id:Nat) (d:Option Nat) (ci:CI) (fn:Func) (fr:List (Nat×Option (HEnt O))) (u:List Nat):O.C→Option (Wr O):=fun c =>
 match BR P (AEf g ci.ow) ci.nw c 0 id fn.resultTypes.toList with
  | none=>none
  | some (vs,nh)=>match Nat.ble nh.length 16 with
   | true=>some { ts:=match d with | some d=>[(d,some ⟨ctx,LH vs⟩)] | none=>[],hs:=(match ci.nw with | true=>[] | false=>fr)++(u.map (fun n=>(n,none))++nh.map fun (n,h)=>(n,some h)) }
   | false=>none
def ph (gives:List Bool):Bool:=Nat.blt 8 gives.length
def jR (gives:List Bool) (used:List Nat) (fr:List (Nat×Option (HEnt O))):Bool:=qU used fr&&(!ph gives||used.isEmpty)
def nN (ctx:List (Nat×Bool)) (g:Option O.B) (id:Nat) (d:Option Nat) (f:FuncId) (caps:List (Nat×Nat)) (args:List (AV O)):RM O (StepRes O) :=
  let inl:RM O (StepRes O):=match g with
    | none=>.ret (.inl f (args++caps.map fun (b,o)=>one (.ptr b o)))
    | some _ => .fail "a call under a guard that has no contract"
  match caps with
  | _::_=>inl
  | []=>match JH args with
    | none=>inl
    | some fns=>match Z8 cfg.gam f fns with
      | none=>inl
      | some ci=>match P.funcs[f]? with
        | none => .fail "no such function"
        | some fn => (RM.guard (fn.body.isSome && !(fn.name == "runtime.NumGoroutine") && H8 P fn.params.toList args) "a callee").bind fun _ =>
          (M4 ci.gives [] args).bind fun (ls,fr,used)=>match (Ku P fn.resultTypes.toList).bind (AEY P),jR ci.gives used fr with
          | some dm,true=>.ret (.call g f fns ls dm (wW P ctx g id d ci fn fr used))
          | _, _ => .fail "a result that is no data"
abbrev Lh (O:Alg):=List O.B×AV O×List (Nat×Option (HEnt O))
def okP (as:List O.B) (v:AV O):RM O (Lh O):=.ret (as,v,[])
def R4 (T:TypeId) (n:Nat):Bool:=(P.underlying T).isSome&&(AW P T||Nat.beq n 1)
def ACC (ctx:List (Nat×Bool)) (ty:TypeId) (n:Nat) (a b:Operand):RM O (Lh O):=.t n fun
  | some tv=>match aV tv.gs ctx,tv.v with
    | true,.val ⟨false,[.bool c]⟩ =>
      (evV P ((n,true)::ctx) ty a).bind fun x=>(evV P ((n,false)::ctx) ty b).bind fun y =>
      match x.agg==y.agg,Cs c x.cs y.cs with
      | true,some cs=>okP [] (.val { agg:=x.agg,cs })
      | _, _ => .fail "pick"
    | _, _ => .fail "pick no bool"
  | none => .fail "no such temporary"
def AAp (op:BinOp) (T:TypeId) (y:Operand) (a b:Val O):RM O (Lh O):=match a.agg,b.agg,a.cs,b.cs with
 | false,false,[.int k i],[.int k' j]=>match Vs k k' with
  | false => .fail "operands of different kinds"
  | true=>match op with
   | .add=>okP [] (one (.int k (O.p k i j)))
   | .sub=>okP [] (one (.int k (O.s k i j)))
   | .mul=>okP [] (one (.int k (O.af k i j)))
   | .quo=>okP (match IY y with | true=>[] | false=>[O.f (O.d j (O.lit k 0))]) (one (.int k (O.aq k i j)))
   | .rem=>okP (match IY y with | true=>[] | false=>[O.f (O.d j (O.lit k 0))]) (one (.int k (O.al k i j)))
   | op=>match AGB op i j with
    | some c=>okP [] (one (.bool c))
    | none => .fail "an operator on integers"
 | false,false,[.str s],[.str t]=>match op with
  | .eql=>okP [] (one (.bool (O.ao s t)))
  | .neq=>okP [] (one (.bool (O.f (O.ao s t))))
  | .lss=>okP [] (one (.bool (O.bc s t)))
  | .add=>okP [O.z (O.ag s) 1,O.z (O.ag t) 1] (one (.str (O.ap s t)))
  | _ => .fail "an operator on strings"
 | p,q,xs,ys=>match AU P T with
  | none => .fail "an operator"
  | some ts=>match p==AW P T&&q==AW P T&&bW P C6 T && !P.eqGuardType P.depth T&&Bf P ts xs&&Bf P ts ys,op,K0 xs ys with
   | true,.eql,some c=>okP [] (one (.bool c))
   | true,.neq,some c=>okP [] (one (.bool (O.f c)))
   | _, _, _ => .fail "an operator"
def sZ (src dst:TypeId) (c:AC O):RM O (Lh O):=match P.underlying src with
 | none => .fail "convert"
 | some _=>match AM P dst,c with
  | .int k,.int _ i=>okP [] (one (.int k (O.az k i)))
  | .str,.str s=>okP [] (one (.str s))
  | _, _ => .fail "convert"
def Yi (T:TypeId) (p:AC O) (ix:Operand) (i:O.I):RM O (Lh O):=match P.underlying T with
 | some (.array n e) => (RM.guard (Nat.blt 0 (P.cellsOf e)) "indexAddr element").bind fun _ => match ix with
  | .const (.int _ c)=>match decide (0≤c∧c<n),EJ (c.toNat * P.cellsOf e) p with
   | true,some p=>okP [] (one p)
   | _, _ => .fail "indexAddr"
  | _=>match p with
   | .ptr b off=>okP [O.r i (O.lit .i64 n)] (one (.aptr b off n (P.cellsOf e) i 0))
   | _ => .fail "indexAddr an array in an array"
 | some (.slice e)=>match p with
  | .own e' h => (gN (AC.own e' h : AC O)).bind fun (_, l, _) => (RM.guard (Nat.beq e e') "indexAddr element").bind fun _ =>
   okP [O.r i (O.l l)] (one (.eptr h i 0))
  | .imm e' nw l => (RM.guard (Nat.beq e e') "indexAddr element").bind fun _ => okP [O.r i (O.l l)] (one (.iptr e' nw l i 0))
  | .nil e=>okP [O.e] (one (.iptr e true O.u i 0))
  | _ => .fail "indexAddr no slice"
 | _ => .fail "indexAddr type"
def rE (T:TypeId) (v:Val O) (ix:Operand) (i:O.I):RM O (Lh O):=match P.underlying T,v.agg,v.cs with
 | some .string,false,[.str s]=>okP [O.r i (O.ag s)] (one (.int .u8 (O.ax s i)))
 | some (.array n e),true,cs=>match ix with
  | .const (.int _ c)=>match decide (0≤c∧c<n),IH cs (c.toNat * P.cellsOf e) (P.cellsOf e) with
   | true, some cs => (RM.guard (R4 P e cs.length) "index size").bind fun _ => okP [] (.val { agg := AW P e, cs })
   | _, _ => .fail "index"
  | _=>match n with
   | 0 => .fail "an array of no elements"
   | n+1=>match UL (fun k=>IH cs (k * P.cellsOf e) (P.cellsOf e)) i n with
    | some cs => (RM.guard (R4 P e cs.length) "index size").bind fun _ =>
     okP [O.r i (O.lit .i64 ((n+1:Nat):Int))] (.val { agg:=AW P e,cs })
    | none => .fail "index of an array"
 | _, _, _ => .fail "index type"
def ny (ctx:List (Nat×Bool)) (d:O.I):Option Operand→RM O O.I
 | none=>.ret d
 | some x=>evI ctx x
def VD:Option Operand→Bool
 | none=>true
 | some (.const (.int _ n))=>decide (n=0)
 | _=>false
def AEE (ctx:List (Nat×Bool)) (e':TypeId) (c:AC O) (lo hi:Option Operand):RM O (Lh O) :=
  (gN c).bind fun (e, l, nw) => (RM.guard (Nat.beq e e') "slice").bind fun _ =>
  (ny ctx (O.lit .i64 0) lo).bind fun a=>(ny ctx (O.l l) hi).bind fun b=>match c with
  | .own _ h=>.h h fun
    | some en=>.ret ([O.am a b (O.l l)],one (.imm e nw (O.ak l a b)),[(h,some { en with frozen:=true,dirty:=true })])
    | none => .fail "a slice that is gone"
  | _=>okP [O.am a b (O.l l)] (one (.imm e nw (O.ak l a b)))
def q9 (ctx:List (Nat×Bool)) (T:TypeId) (c:AC O) (lo hi mx:Option Operand):RM O (Lh O):=match mx with
 | some m=>match P.underlying T,c,VD lo,VD hi&&hi.isSome,VD (some m) with
  | some (.slice e'),.imm e _ _,true,true,true=>match Nat.beq e e' with
   | true=>okP [] (one (.nil e))
   | false => .fail "slice"
  | _, _, _, _, _ => .fail "slice with three bounds"
 | none=>match P.underlying T with
  | some .string=>match c with
   | .str s=>(ny ctx (O.lit .i64 0) lo).bind fun l=>(ny ctx (O.ag s) hi).bind fun h =>
    okP [O.am l h (O.ag s)] (one (.str (O.bd s l h)))
   | _ => .fail "slice"
  | some (.slice e')=>AEE ctx e' c lo hi
  | _ => .fail "slice"
def gF (ctx:List (Nat×Bool)) (ty:TypeId):Op→RM O (Lh O)
  | .move x | .assign x=>(ev P ctx ty x).bind fun v=>okP [] v
  | .pick (.tmp n) a b=>ACC P ctx ty n a b
  | .build T parts=>match W3 P T with
    | none => .fail "build"
    | some z=>match z.agg with
      | false => .fail "build"
      | true=>(match P.underlying T with
        | some (.struct fs) => (RM.guard (fs.toList.all fun f => (P.info? f.type).isSome) "build fields").bind fun _ =>
          jf P (fun i=>(fs.toList[i]?).map fun (f:Field)=>(f.offset,f.type)) ctx parts.toList z.cs
        | some (.array _ e) => (RM.guard (Nat.blt 0 (P.cellsOf e)) "build element").bind fun _ => jf P (fun i => some (i * P.cellsOf e, e)) ctx parts.toList z.cs
        | _ => .fail "build type").bind fun cs => okP [] (.val { agg := true, cs })
  | .load T a=>(evC P ctx T a).bind fun p=>(xt P T p).bind fun cs =>
    (RM.guard (R4 P T cs.length) "load size").bind fun _ => okP [] (.val { agg := AW P T, cs })
  | .nilCheck x=>(evC P ctx ty x).bind fun p=>match p with
    | .ptr b off=>okP [] (one (.ptr b off))
    | .eptr i x off=>okP [] (one (.eptr i x off))
    | .iptr e nw l i off=>okP [] (one (.iptr e nw l i off))
    | .aptr b off n sz i inner=>okP [] (one (.aptr b off n sz i inner))
    | _ => .fail "nilCheck"
  | .binOp op T x y yT=>(evV P ctx T x).bind fun a=>(evV P ctx yT y).bind fun b=>AAp P op T y a b
  | .unOp op T x=>(evC P ctx T x).bind fun c=>match op,c with
    | .not,.bool b=>okP [] (one (.bool (O.f b)))
    | .neg,.int k i=>okP [] (one (.int k (O.s k (O.lit k 0) i)))
    | _, _ => .fail "a unary operator"
  | .convert src dst x=>(evC P ctx src x).bind fun c=>sZ P src dst c
  | .extract x i=>(ev P ctx ty x).bind fun
    | .tup vs=>match vs[i]? with
      | some v=>okP [] (.val v)
      | none => .fail "extract"
    | .val _ => .fail "extract"
  | .field T x f=>(evV P ctx T x).bind fun v=>match U5 P T f with
    | none => .fail "field"
    | some fd=>match v.agg,IH v.cs fd.offset (P.cellsOf fd.type) with
      | true, some cs => (RM.guard (R4 P fd.type cs.length) "field size").bind fun _ => okP [] (.val { agg := AW P fd.type, cs })
      | _, _ => .fail "field"
  | .fieldAddr T x f=>(evC P ctx T x).bind fun p=>match U5 P T f with
    | none => .fail "fieldAddr"
    | some fd => (RM.guard (!Nat.beq (P.cellsOf fd.type) 0) "a field of no size").bind fun _ => match EJ fd.offset p with
      | some p=>okP [] (one p)
      | none => .fail "fieldAddr no address"
  | .indexAddr T x ix=>(evC P ctx T x).bind fun p=>(evI ctx ix).bind fun i=>Yi P T p ix i
  | .index T x ix=>(evV P ctx T x).bind fun v=>(evI ctx ix).bind fun i=>rE P T v ix i
  | .slice T x lo hi mx=>(evC P ctx T x).bind fun c=>q9 P ctx T c lo hi mx
  | .makeFunc (.func f) first caps=>match first.toList with
    | []=>(xQ P ctx caps.toList).bind fun l=>okP [] (one (.fn f l))
    | _ => .fail "makeFunc"
  | .call c=>match c.callee with
    | .builtin .len=>match c.args.toList,c.argTypes.toList with
      | [x],[T]=>match P.underlying T with
        | some (.array n _)=>okP [] (one (.int .i64 (O.lit .i64 n)))
        | some .string=>(evC P ctx T x).bind fun
          | .str s=>okP [] (one (.int .i64 (O.ag s)))
          | _ => .fail "len"
        | some (.slice _)=>(evC P ctx T x).bind fun v=>(gN v).bind fun (_,l,_)=>okP [] (one (.int .i64 (O.l l)))
        | _ => .fail "len"
      | _, _ => .fail "len"
    | .builtin .min=>(ABW P ctx ty c.args.toList).bind fun
      | v::u::r=>match hP O.m v (u::r) with
        | some m=>okP [] (one m)
        | none => .fail "min"
      | _ => .fail "min"
    | .builtin .max=>(ABW P ctx ty c.args.toList).bind fun
      | v::u::r=>match hP (fun a b=>O.m b a) v (u::r) with
        | some m=>okP [] (one m)
        | none => .fail "max"
      | _ => .fail "max"
    | _ => .fail "call"
  | _ => .fail "an operation"
abbrev AGC (O:Alg):=List O.B×AC O×Wr O
def KE (ctx:List (Nat×Bool)) (id:Nat):Op→RM O (AGC O)
  | .alloc T=>match W3 P T with
    | some v => (RM.guard (Nat.beq v.cs.length (P.cellsOf T)) "alloc size").bind fun _ => .ret ([], .ptr id 0, { bs := [(id, some { cs := v.cs, dirty := true })] })
    | none => .fail "alloc"
  | .box T x=>(evV P ctx T x).bind fun v=>.ret ([],.ptr id 0,{ bs:=[(id,some { cs:=v.cs,dirty:=true })] })
  | .buildSlice T len parts=>match US P T with
    | none => .fail "buildSlice"
    | some e=>match W3 P e,AU P e with
      | some z, some ts => (RM.guard (Nat.ble (len * P.cellsOf e) 100000 && Nat.beq z.cs.length (P.cellsOf e)) "buildSlice size").bind fun _ =>
        (jf P (fun i=>some (i * P.cellsOf e,e)) ctx parts.toList (EO len z.cs)).bind fun cs =>
        (v7 (JP (P.cellsOf e) len cs)).bind fun (rows, fr, nw) => (RM.guard (Kt P ts (JP (P.cellsOf e) len cs)) "buildSlice kinds").bind fun _ =>
        .ret ([],.own e id,{ hs:=fr++[(id,some { e,frozen:=false,nw,l:=O.ab rows,dirty:=true })] })
      | _, _ => .fail "buildSlice zero"
  | .makeSlice T len cap=>match US P T with
    | none => .fail "makeSlice"
    | some e=>match W3 P e,P.info? e,AU P e with
      | some z, some ti, some ts => (evI ctx len).bind fun n => (RM.guard (my len cap && Kt P ts [z.cs] && z.cs.all nC) "makeSlice cap").bind fun _ =>
        (Ph z.cs).bind fun (ls,_,_) =>
        .ret ([O.z n ti.bytes],.own e id,{ hs:=[(id,some { e,frozen:=false,nw:=true,l:=O.an n ls,dirty:=true })] })
      | _, _, _ => .fail "makeSlice zero"
  | .call c=>match c.callee,c.args.toList,c.argTypes.toList with
    | .builtin .append,[x,y],[T,U]=>match US P T,US P U with
      | some e, some e' => (RM.guard (Nat.beq T U) "append types").bind fun _ => (evC P ctx T x).bind fun a => (evC P ctx U y).bind fun b =>
        (gN b).bind fun (eb,lb,nb') =>
        let nb:=nb'||oH P e
        match P.info? e,AU P e,W3 (O:=O) P e with
        | some ti, some _, some z => (RM.guard (Nat.beq e eb && Nat.beq z.cs.length (P.cellsOf e)) "append elements").bind fun _ => match a with
          | .nil ea => (RM.guard (Nat.beq e ea) "append elements").bind fun _ =>
            .ret ([O.z (O.l lb) ti.bytes],.own e id,{ hs:=[(id,some { e,frozen:=false,nw:=nb,l:=lb,dirty:=true })] })
          | .own ea i=>.h i fun
            | some h => (RM.guard (!h.frozen && Nat.beq e ea && Nat.beq e h.e) "append to a shared slice").bind fun _ =>
              .ret ([O.z (O.l (O.ac h.l lb)) ti.bytes],.own e id,
                { hs:=[(i,none),(id,some { e,frozen:=false,nw:=h.nw&&nb,l:=O.ac h.l lb,dirty:=true })] })
            | none => .fail "append a slice that is gone"
          | _ => .fail "append to a slice that came in"
        | _, _, _ => .fail "append type"
      | _, _ => .fail "append types"
    | _, _, _ => .fail "call"
  | .convert src dst x=>(evC P ctx src x).bind fun c=>match AM P src,AM P dst,c with
    | .str,.sl e,.str s=>match AM P e,AU P e with
      | .int .u8,some [t]=>match AM P t with
        | .int .u8=>.ret ([],.imm e true (O.ay s),{})
        | _ => .fail "convert"
      | _, _ => .fail "convert"
    | _, _, _ => .fail "convert"
  | _ => .fail "an operation"
def ABY:Op→Bool
 | .alloc _ | .box _ _ | .buildSlice _ _ _ | .makeSlice _ _ _=>true
 | .convert _ dst _=>match AM P dst with
  | .sl _=>true
  | _=>false
 | .call c=>match c.callee with
  | .builtin .append=>true
  | _=>false
 | _=>false
def mS:List (Nat×Option (HEnt O))→RM O (List (Nat×Option (HEnt O)))
 | []=>.ret []
 | (n,_)::r=>.h n fun
  | some h=>(mS r).bind fun l=>.ret ((n,some { h with frozen:=true,dirty:=true })::l)
  | none => .fail "a slice that is gone"
def AEk (ctx:List (Nat×Bool)) (id:Nat):Op→RM O (AC O)
 | .buildSlice T len parts=>(KE P ctx id (.buildSlice T len parts)).bind fun (as,c,w)=>match as,c,w.hs,w.bs with
  | [],.own e q,[(j,some h)],[]=>match Nat.beq q id&&(Nat.beq j id&&Nat.beq e h.e) with
   | true=>.ret (.imm e h.nw h.l)
   | false => .fail "a literal under a guard"
  | _, _, _, _ => .fail "a literal under a guard"
 | _ => .fail "an operation under a guard"
inductive Spec where
 | take (T:TypeId) (x hi:Operand)
 | tail (T:TypeId) (x lo:Operand)
 | clr (T:TypeId) (x:Operand)
 | mkMap (T:TypeId)
 | mapUpd (T:TypeId) (m k v:Operand)
 | mapGet (T:TypeId) (m k:Operand)
 | mapEnt (T:TypeId) (m k:Operand)
 | mapSto (T:TypeId) (m x v:Operand)
def Uy:List (AC O)→Option (List O.I)
 | []=>some []
 | .int .i64 i::r=>match Uy r with
  | some l=>some (i::l)
  | none=>none
 | _=>none
def AB1 (v:Val O):Option (List O.I):=match v.agg with
 | true=>Uy v.cs
 | false=>none
def TJ (O:Alg) (l:O.L) (ks:List O.I) (z:O.I):O.L:=O.aw ks.length l ks z
def YJ (O:Alg) (l:O.L) (ks:List O.I):O.I:=O.av ks.length l ks
def PB (cfg:Cfg):Op→Option Spec
 | .slice T x lo (some hi) none=>match Cx 60001 cfg.ie&&VD lo with
  | true=>some (.take T x hi)
  | false=>none
 | .slice T x (some lo) none none=>match Cx 60001 cfg.ie with
  | true=>some (.tail T x lo)
  | false=>none
 | .call ⟨.builtin .clear,args,tys⟩=>match args.toList,tys.toList with
  | [x],[T]=>some (.clr T x)
  | _,_=>none
 | .makeMap T none=>some (.mkMap T)
 | .mapUpdate T m k v=>some (.mapUpd T m k v)
 | .lookup T m k false=>some (.mapGet T m k)
 | .mapEntry T m k=>some (.mapEnt T m k)
 | .entryStore T m x v=>some (.mapSto T m x v)
 | _=>none
def iB (ctx:List (Nat×Bool)) (id:Nat) (d:Option Nat) (T:TypeId) (hi:Operand) (c:AC O):RM O (Option (StepRes O)):=match c,US P T,d with
  | .own e q,some e',some d=>.h q fun
    | some en=>match !en.frozen&&(Nat.beq e en.e&&Nat.beq e e') with
      | true => (evI ctx hi).bind fun b => .ret (some (.plain [O.am (O.lit .i64 0) b (O.l en.l)]
          { ts:=[(d,some ⟨ctx,one (.own e id)⟩)],hs:=[(q,none),(id,some { en with l:=O.ak en.l (O.lit .i64 0) b,dirty:=true })] }))
      | false=>.ret none
    | none => .fail "a slice that is gone"
  | _,_,_=>.ret none
def jC (ctx:List (Nat×Bool)) (d:Option Nat) (T:TypeId) (lo:Operand) (c:AC O):RM O (Option (StepRes O)):=match c,US P T,d with
 | .own e q,some e',some d=>.h q fun
  | some en=>match !en.frozen&&(Nat.beq e en.e&&Nat.beq e e') with
   | true=>(evI ctx lo).bind fun i=>.ret (some (.plain [O.am i (O.l en.l) (O.l en.l)] { ts:=[(d,some ⟨ctx,one (.tail e q i)⟩)] }))
   | false=>.ret none
  | none => .fail "a slice that is gone"
 | _,_,_=>.ret none
def vU (d:Option Nat) (T:TypeId) (c:AC O):RM O (Option (StepRes O)):=match c,US P T,d with
 | .tail e q i,some e',none=>.h q fun
  | some en=>match W3 P e,AU P e with
   | some z, some ts => (RM.guard (!en.frozen && (Nat.beq e en.e && Nat.beq e e') && (Kt P ts [z.cs] && z.cs.all nC)) "clear").bind fun _ => (Ph z.cs).bind fun (ls, _, _) =>
    .ret (some (.plain [] { hs:=[(q,some { en with l:=O.ac (O.ak en.l (O.lit .i64 0) i) (O.an (O.l (O.ak en.l i (O.l en.l))) ls),dirty:=true })] }))
   | _, _ => .fail "clear"
  | none => .fail "a slice that is gone"
 | _, _, _ => .fail "clear"
def YN (T:TypeId) (n:Nat) (c:AC O):RM O (Nat×HEnt O):=match c with
 | .mp e q=>.h q fun
  | some en=>match !en.frozen&&((Nat.beq e (DP P n)&&Nat.beq en.e e)&&QZ P T n) with
   | true=>.ret (q,en)
   | false => .fail "another map"
  | none => .fail "a map that is gone"
 | _ => .fail "no map"
def Xj (ctx:List (Nat×Bool)) (T:TypeId) (k:Operand):RM O (List O.I) :=
  (evV P ctx T k).bind fun kv => RM.ofOpt "a key" (AB1 kv)
def pE:AC O→RM O O.I
 | .int .i64 z=>.ret z
 | _ => .fail "no int"
def ABA (d:Option Nat) (T:TypeId) (c:AC O) (ks:List O.I) (z:O.I):RM O (Option (StepRes O)):=match d with
 | none=>(YN P T ks.length c).bind fun (q,en)=>.ret (some (.plain [] { hs:=[(q,some { en with l:=TJ O en.l ks z,dirty:=true })] }))
 | some _ => .fail "a map"
def ct (ctx:List (Nat×Bool)) (d:Option Nat) (T:TypeId) (c:AC O) (ks:List O.I):RM O (Option (StepRes O)):=match d with
 | some d=>(YN P T ks.length c).bind fun (q,en)=>.ret (some (.plain [] { ts:=[(d,some ⟨ctx,one (.int .i64 (YJ O en.l ks))⟩)] }))
 | none => .fail "a map"
def qY (ctx:List (Nat×Bool)) (d:Option Nat) (T:TypeId) (c:AC O) (ks:List O.I):RM O (Option (StepRes O)):=match d with
 | some d=>(YN P T ks.length c).bind fun (q,en)=>.ret (some (.plain [] { ts:=[(d,some ⟨ctx,.tup [{ agg:=false,cs:=[.int .i64 (YJ O en.l ks)] },{ agg:=false,cs:=[.int .i64 (O.au ks.length en.l ks)] }]⟩)],hs:=[(q,some { en with l:=TJ O en.l ks (YJ O en.l ks),dirty:=true })] }))
 | none => .fail "a map"
def AAq (d:Option Nat) (T:TypeId) (c:AC O) (i z:O.I):RM O (Option (StepRes O)):=match d with
 | none=>(YN P T (P.cellsOf (KK P T).1) c).bind fun (q,en)=>.ret (some (.plain [O.r i (O.l en.l)] { hs:=[(q,some { en with l:=O.y en.l i (P.cellsOf (KK P T).1) [.int z],dirty:=true })] }))
 | some _ => .fail "a map"
def yU (ctx:List (Nat×Bool)) (id:Nat) (d:Option Nat) (T:TypeId) (n:Nat):RM O (Option (StepRes O)) :=
 match d,QZ P T n&&(noSl P (DP P n)&&Nat.blt n 200) with
 | some d,true=>.ret (some (.plain [] { ts:=[(d,some ⟨ctx,one (.mp (DP P n) id)⟩)],hs:=[(id,some { e:=DP P n,frozen:=false,nw:=true,l:=O.u,dirty:=true })] }))
 | _, _ => .fail "a map"
def Zk (ctx:List (Nat×Bool)) (id:Nat) (d:Option Nat):Spec→RM O (Option (StepRes O))
 | .mkMap T=>yU P ctx id d T (P.cellsOf (KK P T).1)
 | .mapUpd T m k v=>(evC P ctx T m).bind fun c=>(Xj P ctx (KK P T).1 k).bind fun ks=>(evC P ctx (KK P T).2 v).bind fun x=>(pE x).bind fun z=>ABA P d T c ks z
 | .mapGet T m k=>(evC P ctx T m).bind fun c=>(Xj P ctx (KK P T).1 k).bind fun ks=>ct P ctx d T c ks
 | .mapEnt T m k=>(evC P ctx T m).bind fun c=>(Xj P ctx (KK P T).1 k).bind fun ks=>qY P ctx d T c ks
 | .mapSto T m x v=>(evC P ctx T m).bind fun c=>(evC P ctx 0 x).bind fun x=>(pE x).bind fun i=>(evC P ctx (KK P T).2 v).bind fun y=>(pE y).bind fun z=>AAq P d T c i z
 | .take T x hi=>(evC P ctx T x).bind fun c=>iB P ctx id d T hi c
 | .tail T x lo=>(evC P ctx T x).bind fun c=>jC P ctx d T lo c
 | .clr T x=>(evC P ctx T x).bind fun c=>vU P d T c
def aU (ctx:List (Nat×Bool)) (g:Option O.B) (o:Oper) (id:Nat):RM O (StepRes O):=match o.op,ABY P o.op with
 | .store T a x,_=>match g with
  | some _ => .fail "a store under a guard"
  | none=>(evC P ctx T a).bind fun p=>(evV P ctx T x).bind fun v=>(AAP P T v.cs p).bind fun w=>match o.dst with
   | none=>.ret (.plain [] w)
   | some _ => .fail "a store with a value"
 | .call ⟨.value f,args,_⟩,_=>(ev P ctx 0 f).bind fun
  | .val ⟨false,[.fn f caps]⟩=>match P.funcs[f]? with
   | none => .fail "no such function"
   | some fn => (RM.guard (fn.body.isSome && !(fn.name == "runtime.NumGoroutine")) "a callee without a body").bind fun _ => (qD P ctx (fn.params.toList.take args.size) args.toList).bind fun args => nN P cfg ctx g id o.dst f caps args
  | _ => .fail "call no function"
 | op,true=>match g,o.dst with
  | none,some d=>(KE P ctx id op).bind fun (as,c,w)=>.ret (.plain as { w with ts:=[(d,some ⟨ctx,one c⟩)] })
  | some _,some d=>(AEk P ctx id op).bind fun c=>.ret (.plain [] { ts:=[(d,some ⟨ctx,one c⟩)] })
  | _, none => .fail "an operation under a guard"
 | op,false=>match o.dst with
  | some d=>(gF P ctx o.type op).bind fun (as,v,fr)=>(mS fr).bind fun fr=>.ret (.plain (as.map (sH g)) { ts:=[(d,some ⟨ctx,v⟩)],hs:=fr })
  | none => .fail "an operation without a value"
def vb (ctx:List (Nat×Bool)) (g:Option O.B) (o:Oper) (id:Nat):RM O (StepRes O):=match g,PB cfg o.op with
 | none,some sp=>(Zk P ctx id o.dst sp).bind fun
  | some r=>.ret r
  | none=>aU P cfg ctx g o id
 | _,_=>aU P cfg ctx g o id
def Gh (ops:List Oper) (o:Oper) (id:Nat):RM O (StepRes O) :=
  (oU ops o).bind fun ctx=>(ox ctx).bind fun g=>vb P cfg ctx g o id
end
structure Ms where
 t:Nat
 r:Nat
def Ms.or (a b:Ms):Ms:=⟨a.t ||| b.t,a.r ||| b.r⟩
def cQ:Option Ms→Option Ms→Option Ms
 | some a,some b=>some (a.or b)
 | some a,none=>some a
 | none,b=>b
def pb (a:Ms):Option Ms→Option Ms
 | some b=>some (a.or b)
 | none=>none
structure An where
 nrm:Option Ms
 ret:Option Ms
 exts:List (Nat×Ms)
def BI:List (Nat×Ms)→Nat→Option Ms
 | [],_=>none
 | (j,m)::l,k=>match Nat.beq j k with
  | true=>some m
  | false=>BI l k
def OC:List (Nat×Ms)→Nat→List (Nat×Ms)
 | [],_=>[]
 | (j,m)::l,k=>match Nat.beq j k with
  | true=>OC l k
  | false=>(j,m)::OC l k
def aE (l:List (Nat×Ms)) (k:Nat) (m:Ms):List (Nat×Ms):=match BI l k with
 | some m'=>(k,m'.or m)::OC l k
 | none=>(k,m)::l
def U3:List (Nat×Ms)→List (Nat×Ms)→List (Nat×Ms)
 | [],r=>r
 | (k,m)::l,r=>U3 l (aE r k m)
def gp (ops:List Oper):Nat→Nat→Nat
 | 0,t=>t
 | n+1,t=>match ops.find? (fun o=>match o.dst with | some d=>Nat.beq d t | none=>false) with
  | some o=>match o.op with
   | .fieldAddr _ (.tmp x) _ | .indexAddr _ (.tmp x) _ | .nilCheck (.tmp x) | .move (.tmp x) | .load _ (.tmp x) | .assign (.tmp x)=>gp ops n x
   | _=>t
  | none=>t
def AAR (P:Program) (all:List Oper):Operand→Nat
 | .tmp a=>match all.find? (fun o=>match o.dst with | some d=>Nat.beq d a | none=>false) with
  | some o=>match AM P o.type with
   | .ptr | .fn=>Dv (gp all 40 a)
   | _=>0
  | none=>0
 | _=>0
def wF (P:Program) (all:List Oper):List Oper→Nat
 | []=>0
 | o::r=>(match o.op with
  | .store _ (.tmp a) _=>Dv (gp all 40 a)
  | .mapUpdate _ (.tmp a) _ _ | .mapEntry _ (.tmp a) _ | .entryStore _ (.tmp a) _ _=>Dv (gp all 40 a)
  | .call c=>match c.callee with
   | .value f=>c.args.toList.foldl (fun m x=>m ||| AAR P all x) (AAR P all f)
   | .builtin .append=>match c.args.toList with
    | .tmp a::_=>Dv (gp all 40 a)
    | _=>0
   | _=>0
  | _=>0) ||| wF P all r
def jV:List Oper→Nat
 | []=>0
 | o::r=>(match o.dst with | some d=>Dv d | none=>0) ||| jV r
def an (P:Program):Code→An
 | .skip=>⟨some ⟨0,0⟩,none,[]⟩
 | .region _ ops _=>⟨some ⟨jV ops.toList,wF P ops.toList ops.toList⟩,none,[]⟩
 | .seq a b=>match an P a with
  | ⟨none,r,e⟩=>⟨none,r,e⟩
  | ⟨some m,r,e⟩=>match an P b with
   | ⟨n',r',e'⟩=>⟨pb m n',cQ r (pb m r'),U3 (e'.map fun (k,x)=>(k,m.or x)) e⟩
 | .cond _ a b=>match an P a,an P b with
  | ⟨n,r,e⟩,⟨n',r',e'⟩=>⟨cQ n n',cQ r r',U3 e e'⟩
 | .block id b=>match an P b with
  | ⟨n,r,e⟩=>⟨cQ n (BI e id),r,OC e id⟩
 | .loop b=>match an P b with
  | ⟨n,r,e⟩=>⟨none,match n with | some m=>pb m r | none=>r,match n with | some m=>e.map (fun (k,x)=>(k,m.or x)) | none=>e⟩
 | .exit id=>⟨none,none,[(id,⟨0,0⟩)]⟩
 | .ret=>⟨none,some ⟨0,0⟩,[]⟩
 | _=>⟨none,none,[]⟩
structure Cn where
 nrm:Nat
 ret:Nat
 exts:List (Nat×Nat)
def AA5:List (Nat×Nat)→Nat→Nat
 | [],_=>0
 | (j,m)::l,k=>match Nat.beq j k with
  | true=>m+AA5 l k
  | false=>AA5 l k
def cnt:Code→Cn
 | .skip | .region ..=>⟨1,0,[]⟩
 | .seq a b=>match cnt a,cnt b with
  | ⟨0,r,e⟩,_=>⟨0,r,e⟩
  | ⟨n,r,e⟩,⟨n',r',e'⟩=>⟨n',r+r',e++e'⟩
 | .cond _ a b=>match cnt a,cnt b with
  | ⟨n,r,e⟩,⟨n',r',e'⟩=>⟨n+n',r+r',e++e'⟩
 | .block id b=>match cnt b with
  | ⟨n,r,e⟩=>⟨n+AA5 e id,r,e.filter fun (k,_) => !Nat.beq k id⟩
 | .loop b=>match cnt b with
  | ⟨n,r,e⟩=>⟨0,(match r with | 0=>0 | _=>1),e.map fun (k,_)=>(k,1)⟩
 | .exit id=>⟨0,0,[(id,1)]⟩
 | .ret=>⟨0,1,[]⟩
 | _=>⟨0,0,[]⟩
def vi:Operand→Nat
 | .tmp t=>Dv t
 | _=>0
def Ml (nt:Nat):List Oper→Bool
 | []=>true
 | o::r=>(match o.dst with | some d=>Nat.blt d nt | none=>true)&&Ml nt r
def C8 (nt:Nat):Code→Bool
 | .region _ ops _=>Ml nt ops.toList
 | .seq a b=>C8 nt a&&C8 nt b
 | .cond _ a b=>C8 nt a&&C8 nt b
 | .block _ b=>C8 nt b
 | .loop b=>C8 nt b
 | _=>true
def yA:List Oper→Nat
 | []=>0
 | o::r=>o.op.operands.toList.foldl (fun m x=>m ||| vi x) 0 ||| yA r
def Xc:Code→Nat
 | .region _ ops _=>yA ops.toList
 | .seq a b=>Xc a ||| Xc b
 | .cond c a b=>vi c ||| Xc a ||| Xc b
 | .block _ b | .loop b | .scope b=>Xc b
 | _=>0
def Zv:Code→Nat
 | .region _ ops _=>ops.size
 | .seq a b=>Zv a+Zv b
 | .cond _ a b=>4+Zv a+Zv b
 | .block _ b=>Zv b
 | .loop _=>1000
 | _=>0
inductive Ex where
 | nrm
 | ext (id:Nat)
 | ret
structure Lv where
 nrm:Nat
 ret:Nat
 exts:List (Nat×Nat)
def AEZ:List (Nat×Nat)→Nat→Nat
 | [],_=>0
 | (j,m)::l,k=>match Nat.beq j k with
  | true=>m
  | false=>AEZ l k
def Lv.of (lv:Lv):Ex→Nat
 | .nrm=>lv.nrm
 | .ret=>lv.ret
 | .ext id=>AEZ lv.exts id
def Lv.all (lv:Lv):Nat:=lv.exts.foldl (fun m (_,x)=>m ||| x) (lv.nrm ||| lv.ret)
inductive SlotC where
 | int (k:IntKind) | bool | str | own (e:TypeId) (nw:Bool) | imm (e:TypeId) (nw:Bool)
inductive Slot where
 | t (n:Nat) (agg:Bool) (cs:List SlotC)
 | b (id:Nat) (cs:List SlotC)
def ABH (cfg:Cfg) (e:Nat):Bool:=cfg.imm||Cx e cfg.ie
def AGV {O:Alg} (s:State O) (cfg:Cfg):AC O→Option SlotC
 | .int k _=>some (.int k)
 | .bool _=>some .bool
 | .str _=>some .str
 | .nil e=>some (match ABH cfg e with | true=>.imm e (!cfg.old) | false=>.own e (!cfg.old))
 | .imm e nw _=>some (.imm e (nw && !cfg.old))
 | .own e id=>match s.getH id with
  | some h=>some (match h.frozen||ABH cfg e with | true=>.imm e (h.nw && !cfg.old) | false=>.own e (h.nw && !cfg.old))
  | none=>none
 | _=>none
def wZ {O:Alg} (s:State O) (cfg:Cfg):List (AC O)→Option (List SlotC)
 | []=>some []
 | c::r=>match AGV s cfg c,wZ s cfg r with
  | some a,some l=>some (a::l)
  | _,_=>none
section
variable {O:Alg} (P:Program) (cfg:Cfg)
def qy (s:State O) (n:Nat):List Nat:=match s.getT n with
 | some ⟨_,.val ⟨false,[.ptr b _]⟩⟩=>[b]
 | some ⟨_,.val ⟨false,[.aptr b _ _ _ _ _]⟩⟩=>[b]
 | some ⟨_,.val ⟨false,[.fn _ caps]⟩⟩=>caps.map (·.1)
 | _=>[]
def AGQ (s:State O) (n:Nat):Bool:=match s.getT n with
 | some ⟨_,.val ⟨false,[.fn _ _]⟩⟩=>true
 | _=>false
def AFa (s:State O) (n:Nat):List Nat:=match s.getT n with
 | some ⟨_,.val ⟨false,[.eptr id _ _]⟩⟩=>[id]
 | some ⟨_,.val ⟨false,[.mp _ id]⟩⟩=>[id]
 | _=>[]
def AFv (s:State O) (hid:List Nat) (n:Nat):Bool:=match s.getT n with
 | some ⟨_,.val ⟨false,[.own _ id]⟩⟩ => !Cx id hid
 | _=>false
def Mx (s:State O):List Nat→List Nat→List (Nat×TypeId×Bool)
 | [],_=>[]
 | n::r,seen=>match Cx n seen with
  | true=>Mx s r seen
  | false=>match s.getH n with
   | none=>Mx s r seen
   | some h=>match h.frozen with
    | true=>Mx s r seen
    | false=>(n,h.e,h.nw)::Mx s r (n::seen)
def Pl (m:Nat):Nat→List Nat→List Nat
 | 0,acc=>match m.testBit 0 with | true=>0::acc | false=>acc
 | n+1,acc=>Pl m n (match m.testBit (n+1) with | true=>(n+1)::acc | false=>acc)
def Z2 (m:Nat):Nat:=m.log2
def Ks (s:State O):List Nat→List Nat→Option (List Slot)
 | [],_=>some []
 | b::r,seen=>match Cx b seen with
  | true=>Ks s r seen
  | false=>match s.getB b with
   | none=>Ks s r seen
   | some e=>match wZ s cfg e.cs,Ks s r (b::seen) with
    | some cs,some l=>some (.b b cs::l)
    | _,_=>none
def OB (s:State O):List Nat→List Slot
 | []=>[]
 | n::r=>match s.getT n with
  | some ⟨[],.val v⟩=>match wZ s cfg v.cs with
   | some cs=>.t n v.agg cs::OB s r
   | none=>OB s r
  | _=>OB s r
def jW (s:State O) (m:Nat):List Nat:=Pl m (Z2 m) []
def hOf (s:State O) (m:Ms):List (Nat×TypeId×Bool):=Mx s (((jW s m.r).map (AFa s)).flatten) []
def ACQ (s:State O) (m:Ms) (live:Nat):Option (List Slot) :=
 let rs:=jW s m.r
 let tmps:=(m.t ||| rs.foldl (fun a n=>match AFv s ((hOf s m).map (·.1)) n with | true=>a ||| Dv n | false=>a) 0) &&& live
 match Ks cfg s (((rs.filter fun n=>live.testBit n||(Cx 60000 cfg.ie&&AGQ s n)).map (qy s)).flatten) [] with
 | some l=>some (OB cfg s (Pl tmps (Z2 tmps) [])++l)
 | none=>none
def C5 (s:State O) (m:Ms):List Nat:=((jW s m.r).map (qy s)).flatten
def vM:List (AC O)→List Nat
 | []=>[]
 | .own _ id::r=>id::vM r
 | _::r=>vM r
def AEc (s:State O):List Nat→List Nat
 | []=>[]
 | n::r=>(match s.getT n with | some ⟨_,.val v⟩=>vM v.cs | _=>[])++AEc s r
def AEa (s:State O):List Nat→List Nat
 | []=>[]
 | b::r=>(match s.getB b with | some e=>vM e.cs | none=>[])++AEa s r
def qj (s:State O) (m:Ms):List Nat:=AEc s (Pl (m.t ||| m.r) (Z2 (m.t ||| m.r)) [])++AEa s (C5 s m)
def qC (s:State O) (m:Ms):List Nat:=qj s m++(hOf s m).map (·.1)
def SK (s:State O) (ids:List Nat):List (Nat×HEnt O):=s.hp.filter fun (n,_) => !Cx n ids
def QT (s:State O) (bs:List Nat):List (Nat×BEnt O):=s.bx.filter fun (n,_) => !Cx n bs
def cleanB (l:List (Nat×BEnt O)):List (Nat×BEnt O):=l.map fun (n,e)=>(n,{ e with dirty:=false })
def cleanH (l:List (Nat×HEnt O)):List (Nat×HEnt O):=l.map fun (n,e)=>(n,{ e with dirty:=false })
def N4 (s:State O) (keep:List Nat) (used:List Nat):SlotC→AC O→Except String (O.Lf×List Nat)
 | .int k, .int k' i => match Vs k k' with | true => .ok (.int i, used) | false => .error "a slot of another kind"
 | .bool,.bool b=>.ok (.bool b,used)
 | .str,.str x=>.ok (.str x,used)
 | .own e _, .nil e' => match Nat.beq e e' with | true => .ok (.rows O.u, used) | false => .error "a slot of another element"
 | .imm e _, .nil e' => match Nat.beq e e' with | true => .ok (.rows O.u, used) | false => .error "a slot of another element"
 | .own e nw,.own e' id=>match s.getH id with
  | some h=>match Nat.beq e e'&&Nat.beq e h.e && !h.frozen&&(h.nw || !nw) && !Cx id used && !Cx id keep with
   | true=>.ok (.rows h.l,id::used)
   | false => .error "an owned slot that is shared"
  | none => .error "a slot whose slice is gone"
 | .own _ _, .imm _ _ _ => .error "an owned slot that is not owned"
 | .imm e nw, .imm e' nw' l => match Nat.beq e e' && (nw' || !nw) with | true => .ok (.rows l, used) | false => .error "a shared slot"
 | .imm e nw,.own e' id=>match s.getH id with
  | some h=>match Nat.beq e e'&&Nat.beq e h.e&&(h.nw || !nw)&&(h.frozen || !Cx id keep) && !Cx id used with
   | true=>.ok (.rows h.l,match h.frozen with | true=>used | false=>id::used)
   | false => .error "a shared slot of an owned slice"
  | none => .error "a slot whose slice is gone"
 | _, _ => .error "a slot"
def Lg (s:State O) (keep used:List Nat):List SlotC→List (AC O)→Except String (List O.Lf×List Nat)
 | [],[]=>.ok ([],used)
 | a::as,c::cs=>match N4 s keep used a c with
  | .error e=>.error e
  | .ok (l,u)=>match Lg s keep u as cs with
   | .error e=>.error e
   | .ok (ls,u)=>.ok (l::ls,u)
 | _, _ => .error "slots"
def Iy (s:State O) (keep:List Nat):List Nat→List Slot→Except String (List O.Lf)
 | _,[]=>.ok []
 | used,.t n agg cs::r=>match s.getT n with
  | some ⟨[],.val v⟩=>match v.agg==agg,Lg s keep used cs v.cs with
   | true,.ok (ls,u)=>match Iy s keep u r with
    | .ok more=>.ok (ls++more)
    | .error e=>.error e
   | true, .error e => .error (e ++ " t" ++ toString n)
   | false, _ => .error "a slot s form"
  | _ => .error ("a slot that is not there t" ++ toString n)
 | used,.b b cs::r=>match s.getB b with
  | some e=>match Lg s keep used cs e.cs with
   | .ok (ls,u)=>match Iy s keep u r with
    | .ok more=>.ok (ls++more)
    | .error e=>.error e
   | .error er => .error (er ++ " box")
  | none => .error "a slot s variable is gone"
def TI (s:State O):List (Nat×BEnt O)→Bool
 | []=>true
 | (n,_)::r=>match s.getB n with
  | some e=>match e.dirty with
   | true=>false
   | false=>TI s r
  | none=>false
def TF (s:State O):List (Nat×HEnt O)→Bool
 | []=>true
 | (n,_)::r=>match s.getH n with
  | some e=>match e.dirty with
   | true=>false
   | false=>TF s r
  | none=>false
def Jo (c:O.C) (j q:Nat):SlotC→AC O×List (Nat×HEnt O)
 | .int k=>(.int k (O.h c j),[])
 | .bool=>(.bool (O.k c j),[])
 | .str=>(.str (O.cS c j),[])
 | .own e nw=>(.own e q,[(q,{ e,frozen:=false,nw,l:=O.o c j,dirty:=true })])
 | .imm e nw=>(.imm e nw (O.o c j),[])
def NN (c:O.C):Nat→Nat→List SlotC→List (AC O)×List (Nat×HEnt O)
 | _,_,[]=>([],[])
 | j,q,a::as=>match Jo c j q a with
  | (x,h)=>match NN c (j+1) (q+h.length) as with
   | (xs,hs)=>(x::xs,h++hs)
def Bk (c:O.C):Nat→Nat→List Slot→State O→State O
 | _,q,[],s=>{ s with st:=q }
 | j,q,.t n agg cs::r,s=>match NN c j q cs with
  | (xs,hs)=>Bk c (j+cs.length) (q+hs.length) r { s with tm:=HX s.tm n (some ⟨[],.val { agg,cs:=xs }⟩),hp:=hs++s.hp }
 | j,q,.b b cs::r,s=>match NN c j q cs with
  | (xs,hs)=>Bk c (j+cs.length) (q+hs.length) r { s with bx:=Py s.bx b (some { cs:=xs,dirty:=true }),hp:=hs++s.hp }
def vO (t:TM (TV O)):List Nat→TM (TV O)
 | []=>t
 | n::r=>vO (HX t n none) r
structure Way (O:Alg) where
 e:Ex
 slots:List Slot
 base:State O
 hs:List (Nat×TypeId×Bool)
def gw (s:State O):List (Nat×TypeId×Bool)→Except String (List O.Lf)
 | []=>.ok []
 | (n,e,nw)::r=>match s.getH n with
  | none => .error "a kept slice is gone"
  | some h=>match Nat.beq h.e e&&(!h.frozen&&h.nw==nw) with
   | false => .error "a kept slice"
   | true=>match gw s r with
    | .ok ls=>.ok (.rows h.l::ls)
    | .error e=>.error e
def RL (c:O.C):Nat→List (Nat×TypeId×Bool)→List (Nat×HEnt O)
 | _,[]=>[]
 | j,(n,e,nw)::r=>(n,{ e,frozen:=false,nw,l:=O.o c j,dirty:=true })::RL c (j+1) r
def Way.keep (w:Way O):List Nat:=w.hs.map (·.1)++w.base.hp.map (·.1)
def Way.baseC (w:Way O) (c:O.C) (j:Nat):State O:={ w.base with hp:=RL c j w.hs++w.base.hp }
def Way.encL (w:Way O) (s':State O):Except String (List O.Lf):=match gw s' w.hs with
 | .error e=>.error e
 | .ok a=>match Iy s' w.keep [] w.slots with
  | .error e=>.error e
  | .ok b=>.ok (a++b)
def NK (s:State O) (e:Ex) (m:Ms) (live:Nat):Except String (Way O):=match ACQ cfg s m live with
  | none => .error "a layout"
  | some sl => .ok { e, slots := sl, base :=
      { tm:=vO s.tm (Pl m.t (Z2 m.t) []),bx:=QT s (C5 s m),hp:=SK s (qC s m),st:=s.st },hs:=hOf s m }
def Way.enc (w:Way O) (tag:Option Nat) (s':State O):O.M :=
 match TI s' w.base.bx,TF s' w.base.hp with
 | true,true=>match w.encL s' with
  | .ok ls=>O.a (match tag with | some t=>.int (O.lit .i64 t)::ls | none=>ls)
  | .error e=>O.ad e
 | _, _ => O.ad "memory that a join does not know"
def Way.dec (w:Way O) (tagged:Bool) (c:O.C):State O:=Bk c ((match tagged with | true=>1 | false=>0)+w.hs.length) w.base.st w.slots (w.baseC c (match tagged with | true=>1 | false=>0))
def iu (s:State O) (lv:Lv) (e:Ex):Option Ms→Except String (List (Way O))
 | none=>.ok []
 | some m=>match NK cfg s e m (lv.of e) with
  | .ok w=>.ok [w]
  | .error e=>.error e
def ZT (s:State O) (lv:Lv):List (Nat×Ms)→Except String (List (Way O))
 | []=>.ok []
 | (id,m)::r=>match iu cfg s lv (.ext id) (some m),ZT s lv r with
  | .ok a,.ok b=>.ok (a++b)
  | .error e,_=>.error e
  | _,.error e=>.error e
def aA (s:State O) (a:An) (lv:Lv):Except String (List (Way O)) :=
 match iu cfg s lv .nrm a.nrm,iu cfg s lv .ret a.ret,ZT cfg s lv a.exts with
 | .ok x,.ok y,.ok z=>.ok (x++y++z)
 | .error e,_,_=>.error e
 | _,.error e,_=>.error e
 | _,_,.error e=>.error e
def AEN:Ex→Ex→Bool
 | .nrm,.nrm=>true
 | .ret,.ret=>true
 | .ext a,.ext b=>Nat.beq a b
 | _,_=>false
def Ll (tagged:Bool) (e:Ex) (s':State O):Nat→List (Way O)→O.M
 | _, [] => O.ad "a way out that was not seen"
 | i,w::r=>match AEN e w.e with
  | true=>w.enc (match tagged with | true=>some i | false=>none) s'
  | false=>Ll tagged e s' (i+1) r
def Nt (c:O.C) (k:Ex→State O→O.M) (tagged:Bool):Nat→List (Way O)→O.M
 | _, [] => O.ad "no way out"
 | _,[w]=>k w.e (w.dec tagged c)
 | i,w::r=>O.b (O.aa c i) (k w.e (w.dec tagged c)) (Nt c k tagged (i+1) r)
def cleaned (s:State O):State O:={ s with bx:=cleanB s.bx,hp:=cleanH s.hp }
def scope (a:An) (lv:Lv) (s:State O) (run:State O→(Ex→State O→O.M)→O.M) (k:Ex→State O→O.M):O.M :=
 match aA cfg s a lv with
 | .error e=>O.ad e
 | .ok ws =>
  let tagged:=Nat.blt 1 ws.length
  O.c (run (cleaned s) fun e s'=>Ll tagged e s' 0 ws) fun c=>Nt c k tagged 0 ws
def CL:List Oper→List Nat→List Nat
 | [],acc=>acc
 | o::r,acc=>CL r (acc++[o.after.toList.foldl (fun s e=>match e.ground with
  | .textOnly _ | .gcOnly _=>s
  | _=>s ||| Dv e.on ||| acc.getD e.on 0) 0])
def qm (o:Oper):Bool:=match o.op,o.guard with
 | .lookup _ _ _ false,none=>true
 | _,_=>false
def o6 (o:Oper):Bool:=match o.op,o.guard with
 | .mapEntry _ _ _,none=>true
 | _,_=>false
def fP (ops:List Oper) (i j:Nat):Bool:=match ops[i]?,ops[j]? with
 | some a,some b=>qm a&&o6 b
 | _,_=>false
def ABa (x:Nat):Bool:=Nat.beq x (Dv x.log2)&&Nat.beq (x.log2 % 3) 2
def Rg (ex:Nat→Nat→Bool) (bs:List Nat) (ms:List (Nat×Nat)):Bool :=
 let rec inner (j bj rj wj:Nat):Nat→List (Nat×Nat)→Bool
  | _,[]=>true
  | i,(r,w)::l=>match Nat.ble j i with
   | true=>true
   | false=>match bj.testBit i||(Nat.beq (w &&& (rj ||| wj)) 0&&(Nat.beq (wj &&& r) 0||(ex i j&&ABa (wj &&& r)))) with
    | true=>inner j bj rj wj (i+1) l
    | false=>false
 let rec outer:Nat→List Nat→List (Nat×Nat)→Bool
  | j,b::bs,(r,w)::l=>match inner j b r w 0 ms with
   | true=>outer (j+1) bs l
   | false=>false
  | _,_,_=>true
 outer 0 bs ms
def qN:List Nat→Bool
 | []=>true
 | n::l => !Cx n l&&qN l
def Wy:List O.B→O.M→O.M
 | [],m=>m
 | a::r,m=>O.n a (Wy r m)
def HM:TM (TV O)→TM (TV O)
 | .e=>.e
 | .leaf a=>match a.gs with
  | []=>.leaf a
  | _=>.e
 | .node l r=>.node (HM l) (HM r)
def Ei (ops:List Oper):Nat→List Nat→List Oper→Bool
 | i,b::bs,o::r=>match o.guard with
  | none=>Ei ops (i+1) bs r
  | some (j,_)=>Nat.blt j i&&b.testBit j&&(match (ops[j]?).bind (·.dst) with | some _=>true | none=>false)&&Ei ops (i+1) bs r
 | _,_,[]=>true
 | _,[],_::_=>false
def ip:Nat→List Oper→Bool
 | _,[]=>true
 | i,o::r=>(o.after.toList.all fun e=>match e.ground with
  | .textOnly _ | .gcOnly _=>true
  | _=>Nat.blt e.on i)&&ip (i+1) r
def H0 (inl : FuncId → List (AV O) → State O → (AV O → State O → O.M) → O.M) (all : List Oper) (draw : Bool) :
    List Oper→Nat→State O→List (Nat×Nat)→(State O→List (Nat×Nat)→O.M)→O.M
  | [],id,s,ms,k=>k { s with st:=id } ms
  | o::r,id,s,ms,k=>match RM.run s (Gh P cfg all o id) 0 with
    | .error e=>O.ad e
    | .ok (.plain as w,rd)=>Wy as (H0 inl all draw r (id+Bj P o) (s.apply w) (ms++[(rd,w.mask)]) k)
    | .ok (.call g f fns args dm next,rd) =>
      let m:=O.g f fns args
      O.c (match g with | none=>m | some g=>O.b g m (O.a dm)) fun c=>match next c with
        | none => O.ad "a result"
        | some w=>H0 inl all draw r (id+Bj P o) (s.apply w) (ms++[(rd,w.mask)]) k
    | .ok (.inl f args,rd)=>match draw with
      | true => O.ad ("a call that has no contract in a region that draws " ++ toString f)
      | false=>inl f args { s with st:=id+Bj P o } fun v s' =>
        H0 inl all draw r s'.st (match o.dst with | some d=>{ s' with tm:=HX s'.tm d (some ⟨[],v⟩) } | none=>s') (ms++[(0,0)]) k
def Al:List Oper→List Nat
 | []=>[]
 | o::r=>match o.dst with | some d=>d::Al r | none=>Al r
def Ka (inl:FuncId→List (AV O)→State O→(AV O→State O→O.M)→O.M) (ops:List Oper) (draw:Bool) (s:State O) (k:State O→O.M):O.M :=
 match qN (Al ops)&&(Ei ops 0 (CL ops []) ops&&ip 0 ops) with
 | false => O.ad "a temporary that is written twice"
 | true=>H0 P cfg inl ops draw ops s.st s [] fun s' ms =>
  match !draw||Rg (fP ops) (CL ops []) ms with
  | false => O.ad "an order that is open"
  | true=>k { s' with tm:=HM s'.tm }
def ABO (s:State O):Operand→Option O.B
 | .tmp n=>match s.getT n with
  | some ⟨[],.val ⟨false,[.bool b]⟩⟩=>some b
  | _=>none
 | .const (.bool b)=>some (match b with | true=>O.j | false=>O.e)
 | _=>none
def AB3 (head:Way O) (ws:List (Way O)) (tagged:Bool) (self:List O.Lf→O.M):Ex→State O→O.M:=fun e s'=>match e with
 | .nrm=>match TI s' head.base.bx,TF s' head.base.hp with
  | true,true=>match head.encL s' with
   | .ok ls=>self ls
   | .error e=>O.ad e
  | _, _ => O.ad "memory that a loop does not know"
 | e=>Ll tagged e s' 0 ws
def rz (o:Oper):Bool:=match o.op,o.guard with
 | .panic _,none=>true
 | _,_=>false
def X (inl:FuncId→List (AV O)→State O→(AV O→State O→O.M)→O.M):Code→Bool→Lv→State O→(Ex→State O→O.M)→O.M
 | .skip,_,_,s,k=>k .nrm s
 | .region _ ops draw,_,_,s,k=>match ops.toList.any rz with
  | true=>O.n O.e (O.a [])
  | false=>Ka P cfg inl ops.toList draw s fun s'=>k .nrm s'
 | .seq a b,light,lv,s,k=>X inl a (light&&Nat.ble (Zv b) 6) { lv with nrm:=Xc b ||| lv.all } s fun e s'=>match e with
  | .nrm=>X inl b light lv s' k
  | e=>k e s'
 | .cond c a b,light,lv,s,k=>match ABO s c with
  | none => O.ad "a condition"
  | some x=>match light||Nat.blt ((cnt a).nrm+(cnt b).nrm) 2 with
   | true=>O.b x (X inl a light lv s k) (X inl b light lv s k)
   | false=>scope cfg (an P (.cond c a b)) lv s (fun s k=>O.b x (X inl a true lv s k) (X inl b true lv s k)) k
 | .block id b,light,lv,s,k =>
  let lv':Lv:={ lv with exts:=(id,lv.nrm)::lv.exts }
  let k':Ex→State O→O.M:=fun e s'=>match e with
   | .ext i=>match Nat.beq i id with
    | true=>k .nrm s'
    | false=>k e s'
   | e=>k e s'
  match light||Nat.blt ((cnt b).nrm+AA5 (cnt b).exts id) 2 with
  | true=>X inl b light lv' s k'
  | false=>scope cfg (an P b) lv' s (fun s k=>X inl b true lv' s k) k'
 | .loop b,_,lv,s,k =>
  let a:=an P b
  let lvb:Lv:={ lv with nrm:=Xc b ||| lv.all }
  match a.nrm with
  | none => O.ad "a loop of one round"
  | some m=>match NK cfg s .nrm m lvb.nrm,aA cfg s (an P (.loop b)) lv with
   | .ok head,.ok ws =>
    let tagged:=Nat.blt 1 ws.length
    match head.encL s with
    | .error e=>O.ad e
    | .ok ls=>O.c (O.w (fun self c=>X inl b true lvb (cleaned (head.dec false c)) (AB3 head ws tagged self)) ls) fun c=>Nt c k tagged 0 ws
   | .error e,_=>O.ad e
   | _,.error e=>O.ad e
 | .exit id,_,_,s,k=>k (.ext id) s
 | .ret,_,_,s,k=>k .ret s
 | _, _, _, _, _ => O.ad "code"
def xw (s:State O):ResultVar→Option (Val O)
 | .tmp t=>match s.getT t with
  | some ⟨[],.val v⟩=>some v
  | _=>none
 | .cell a T=>match s.getT a with
  | some ⟨[],.val ⟨false,[.ptr b off]⟩⟩=>match s.getB b with
   | some e=>match IH e.cs off (P.cellsOf T) with
    | some cs=>match R4 P T cs.length with
     | true=>some { agg:=AW P T,cs }
     | false=>none
    | none=>none
   | none=>none
  | _=>none
def OW (s:State O):List ResultVar→Option (List (Val O))
 | []=>some []
 | r::rs=>match xw P s r,OW s rs with
  | some v,some l=>some (v::l)
  | _,_=>none
def Q8:List ResultVar→Nat
 | []=>0
 | .tmp t::r=>Dv t ||| Q8 r
 | .cell t _::r=>Dv t ||| Q8 r
def Bu:Nat→List (AV O)→TM (TV O)→TM (TV O)
 | _,[],t=>t
 | i,v::r,t=>Bu (i+1) r (HX t i (some ⟨[],v⟩))
def w4 (cfg:Cfg):List TypeId→Option (List SlotC)
 | []=>some []
 | t::ts=>match w4 cfg ts with
  | none=>none
  | some r=>match AM P t with
   | .int k=>some (.int k::r)
   | .bool=>some (.bool::r)
   | .str=>some (.str::r)
   | .sl e=>some ((match ABH cfg e with | false=>.own e false | true=>.imm e false)::r)
   | _=>none
def Ia:List TypeId→List (AC O)→Option (List (Val O))
 | [],_=>some []
 | t::ts,cs=>match AU P t with
  | none=>none
  | some l=>match Ia ts (cs.drop l.length) with
   | none=>none
   | some r=>some ({ agg:=AW P t,cs:=cs.take l.length }::r)
def O3:List TypeId→List (Val O)→Bool
 | [],[]=>true
 | t::ts,v::vs=>(match AU P t with
  | some l=>v.agg==AW P t&&Ac P l v.cs
  | none=>false)&&O3 ts vs
 | _,_=>false
def Wx:Ex→Bool
 | .ext _=>true
 | _=>false
def xH (a:An):Ms:=match cQ a.nrm a.ret with
 | some m=>m
 | none=>⟨0,0⟩
def qs (rec':Code→Bool→Lv→State O→(Ex→State O→O.M)→O.M) (f:FuncId) (args:List (AV O)) (s:State O) (k:AV O→State O→O.M):O.M :=
  match P.funcs[f]? with
  | none => O.ad "no such function"
  | some fn=>match fn.body with
    | none => O.ad ("a function without a body " ++ fn.name)
    | some body=>match C8 fn.ntmps body with
     | false => O.ad "temporaries"
     | true =>
      let s1:State O:={ s with tm:=Bu 0 args .e }
      let live:=Q8 fn.results.toList ||| (Dv args.length - 1)
      let lv:Lv:={ nrm:=live,ret:=live,exts:=[] }
      let c:=cnt body
      match Nat.blt (c.nrm+c.ret) 2 with
      | true=>rec' body false lv s1 fun e s'=>match Wx e,OW P s' fn.results.toList with
        | false,some vs=>k (LH vs) { s' with tm:=s.tm }
        | _, _ => O.ad "results"
      | false =>
        let a:=an P body
        let m:Ms:=xH a
        match Ks cfg s1 (C5 s1 m) [],(Ku P fn.resultTypes.toList).bind (w4 P cfg) with
        | some sl,some rs =>
          let base:State O:={ s with bx:=QT s (C5 s1 m),hp:=SK s (qj s1 m) }
          let keep:=base.hp.map (·.1)
          O.c (rec' body true lv (cleaned s1) fun e s'=>match Wx e,OW P s' fn.results.toList with
            | true, _ | _, none => O.ad "results"
            | false,some vs=>match O3 P fn.resultTypes.toList vs&&TI s' base.bx,TF s' base.hp,Lg s' keep [] rs ((vs.map (·.cs)).flatten) with
              | true,true,.ok (ls,used)=>match Iy s' keep used sl with
                | .ok more=>O.a (ls++more)
                | .error e=>O.ad e
              | true, true, .error e => O.ad (e ++ " of a result of " ++ fn.name)
              | _, _, _ => O.ad "memory that a call does not know") fun c =>
            match NN c 0 base.st rs with
            | (xs,hs)=>match Ia P fn.resultTypes.toList xs with
              | none => O.ad "results"
              | some vs=>k (LH vs) (Bk c rs.length (base.st+hs.length) sl { base with hp:=hs++base.hp })
        | _, _ => O.ad "a layout of a call"
def XL:Nat→Code→Bool→Lv→State O→(Ex→State O→O.M)→O.M
 | 0 => fun _ _ _ _ _ => O.ad "too deep"
 | n+1=>X P cfg (qs P cfg (XL n))
def As (give:Bool):Nat→List TypeId→List O.Lf→Option (List (AC O)×List (Nat×HEnt O)×List O.Lf)
 | _,[],ls=>some ([],[],ls)
 | q,t::ts,l::ls=>match AM P t,l with
  | .int k,.int i=>(As give q ts ls).map fun (cs,h,r)=>(.int k i::cs,h,r)
  | .bool,.bool b=>(As give q ts ls).map fun (cs,h,r)=>(.bool b::cs,h,r)
  | .str,.str s=>(As give q ts ls).map fun (cs,h,r)=>(.str s::cs,h,r)
  | .sl e,.rows l=>match give with
   | false=>(As give q ts ls).map fun (cs,h,r)=>(.imm e false l::cs,h,r)
   | true=>(As give (q+1) ts ls).map fun (cs,h,r)=>(.own e q::cs,(q,{ e,frozen:=false,nw:=false,l,dirty:=true })::h,r)
  | _,_=>none
 | _,_::_,[]=>none
def A6:List Bool→Nat→List TypeId→List Nat→List O.Lf→Option (List (AV O)×List (Nat×HEnt O))
 | _,_,[],[],[]=>some ([],[])
 | gv,q,t::ts,fns,ls=>match AM P t with
  | .fn=>match fns with
   | f::fns=>(A6 gv.tail q ts fns ls).map fun (r,h)=>(one (.fn f [])::r,h)
   | []=>none
  | _=>match AU P t with
   | none=>none
   | some l=>match As P (gv.headD false) q l ls with
    | none=>none
    | some (cs,h,ls)=>(A6 gv.tail (q+h.length) ts fns ls).map fun (r,hs)=>(.val { agg:=AW P t,cs }::r,h++hs)
 | _,_,[],_,_=>none
def UN {α:Type} (l:α):Except String (List α)→Except String (List α)
 | .ok ls=>.ok (l::ls)
 | .error e=>.error e
def EY (s:State O) (own:Nat→Bool) (nw:Bool) (used:List Nat):List (AC O)→Except String (List O.Lf)
 | []=>.ok []
 | c::r=>match c with
  | .int _ i=>UN (.int i) (EY s own nw used r)
  | .bool b=>UN (.bool b) (EY s own nw used r)
  | .str x=>UN (.str x) (EY s own nw used r)
  | .nil _=>UN (.rows O.u) (EY s own nw used r)
  | .imm e n l=>match !own e&&(n || !nw) with
   | true=>UN (.rows l) (EY s own nw used r)
   | false => .error "a result that is not fresh"
  | .own e id=>match s.getH id with
   | some h=>match (!own e || !h.frozen)&&(h.frozen || !Cx id used)&&(h.nw || !nw) with
    | true=>UN (.rows h.l) (EY s own nw (id::used) r)
    | false => .error "a result that is shared"
   | none => .error "a result that is gone"
  | _ => .error "a result that is no data"
def ABh (own:Nat→Bool) (s:State O):State O:={ s with hp:=s.hp.map fun (n,h)=>(n,{ h with frozen:=h.frozen || !own h.e }) }
def ABz (own:Nat→Bool) (nw:Bool) (fn:Func) (e:Ex) (s':State O):O.M:=match Wx e,OW P s' fn.results.toList with
 | true, _ | _, none => O.ad "results"
 | false,some rs=>match O3 P fn.resultTypes.toList rs,EY s' own nw [] ((rs.map (·.cs)).flatten) with
  | true,.ok ls=>O.a ls
  | true,.error e=>O.ad e
  | false, _ => O.ad "results of other kinds"
def sJ (own:Nat→Bool) (nw:Bool) (fn:Func):Ex→State O→O.M:=fun e s0=>ABz P own nw fn e (ABh own s0)
def XF (own:Nat→Bool) (nw:Bool) (gives:List Bool) (f:FuncId) (fns:List Nat) (args:List O.Lf):O.M:=match P.funcs[f]? with
  | none => O.ad "no such function"
  | some fn=>match fn.body,A6 P gives 1 fn.params.toList fns args with
    | some body,some (vs,hs)=>match C8 fn.ntmps body with
     | false => O.ad "temporaries"
     | true =>
      let lv:Lv:={ nrm:=Q8 fn.results.toList,ret:=Q8 fn.results.toList,exts:=[] }
      XL P cfg 6 body true lv { tm:=Bu 0 vs .e,bx:=[],hp:=hs,st:=1+hs.length } (sJ P own nw fn)
    | none, _ => O.ad "no body"
    | _, none => O.ad "parameters"
end
inductive PV where
 | int (n:Int)
 | bool (b:Bool)
 | str (s:ByteArray)
 | rows (l:List (List PV))
 deriving Inhabited
abbrev Rows:=List (List PV)
abbrev Ad:=Leaf Int Bool ByteArray Rows
def Leaf.pv:Ad→PV
 | .int i=>.int i
 | .bool b=>.bool b
 | .str s=>.str s
 | .rows l=>.rows l
def PV.leaf:PV→Ad
 | .int i=>.int i
 | .bool b=>.bool b
 | .str s=>.str s
 | .rows l=>.rows l
@[simp] theorem PV.pv_leaf (p:PV):p.leaf.pv=p:=by cases p<;>rfl
@[simp] theorem Leaf.leaf_pv (p:Ad):p.pv.leaf=p:=by cases p<;>rfl
def pvI:PV→Int
 | .int n=>n
 | _=>0
def pvB:PV→Bool
 | .bool b=>b
 | _=>false
def pvS:PV→ByteArray
 | .str s=>s
 | _=>ByteArray.empty
def pvL:PV→Rows
 | .rows l=>l
 | _=>[]
@[simp] theorem AEq (n:Int):pvI (.int n)=n:=rfl
@[simp] theorem AGf (b:Bool):pvB (.bool b)=b:=rfl
@[simp] theorem AGh (s:ByteArray):pvS (.str s)=s:=rfl
@[simp] theorem AGe (l:Rows):pvL (.rows l)=l:=rfl
def AA (r:List PV) (j:Nat):PV:=r.getD j (.int 0)
def AE (l:Rows) (i:Nat):List PV:=l.getD i []
def AG (l:Rows) (i j:Nat):PV:=AA (AE l i) j
def BB (r:List PV):Nat→List PV→List PV
 | _,[]=>r
 | off,p::ps=>BB (r.set off p) (off+1) ps
def Nj (s:ByteArray) (i:Int):Int:=((s.data.toList.getD i.toNat 0).toNat:Int)
def GR (s:ByteArray):Rows:=s.data.toList.map fun b=>[PV.int b.toNat]
abbrev Env:=Nat→List Nat→List PV→Option (List PV)
def DU (F:(List Ad→Option (List PV))→List PV→Option (List PV)):Nat→List PV→Option (List PV)
 | 0,_=>none
 | n+1,c=>F (fun ls=>DU F n (ls.map Leaf.pv)) c
def iLe (a b:Int):Bool:=decide (a≤b)
def iLt (a b:Int):Bool:=decide (a<b)
def iIn (i n:Int):Bool:=decide (0≤i∧i<n)
def iRg (a b n:Int):Bool:=decide (0≤a∧a≤b∧b≤n)
def iSm (n:Int) (b:Nat):Bool:=decide (0≤n∧n≤17592186044416∧n * b≤17592186044416∧b≤1048576)
def CC (n:Nat) (r:List PV):List Int:=(r.take n).map pvI
def AZ (n:Nat) (k:List Int):Rows→Nat
 | []=>0
 | r::L=>cond (k==CC n r) 0 (AZ n k L+1)
def G6 (n:Nat) (v:Int) (r:List PV):List PV:=BB r n [.int v]
def I0 (k:List Int) (v:Int):List PV:=k.map .int++[.int v]
def B8 (n:Nat) (k:List Int) (L:Rows):Int:=pvI (AG L (AZ n k L) n)
def Dp (n:Nat) (k:List Int) (v:Int) (L:Rows):Rows:=cond (Nat.blt (AZ n k L) L.length) (L.set (AZ n k L) (G6 n v (AE L (AZ n k L)))) (L++[I0 k v])
@[reducible] def std (E:Env) (N:Nat):Alg where
 I:=Int
 B:=Bool
 S:=ByteArray
 L:=Rows
 C:=List PV
 M:=Option (List PV)
 lit _ n:=n
 p k a b:=k.wrap (a+b)
 s k a b:=k.wrap (a - b)
 af k a b:=k.wrap (a * b)
 aq k a b:=k.wrap (a.tdiv b)
 al _ a b:=a.tmod b
 az k a:=k.wrap a
 t a b:=iLe a b
 m a b:=iLt a b
 d a b:=a==b
 j:=true
 e:=false
 f b := !b
 x a b:=a&&b
 aj a b:=a==b
 ae b x y:=cond b x y
 i b x y:=cond b x y
 ba b x y:=cond b x y
 bb b x y:=cond b x y
 v s:=s
 ao a b:=a.toList==b.toList
 bc a b:=Op.bytesLess a.toList b.toList
 ag s:=s.size
 ax s i:=Nj s i
 bd s l h:=s.extract l.toNat h.toNat
 ap a b:=a++b
 ay s:=GR s
 u:=[]
 ab rows:=rows.map (·.map Leaf.pv)
 ac a b:=a++b
 l l:=l.length
 y l i off r:=l.set i.toNat (BB (AE l i.toNat) off (r.map Leaf.pv))
 ak l a b:=(l.take b.toNat).drop a.toNat
 an n r:=List.replicate n.toNat (r.map Leaf.pv)
 q l i j:=pvI (AG l i.toNat j)
 rB l i j:=pvB (AG l i.toNat j)
 rS l i j:=pvS (AG l i.toNat j)
 rL l i j:=pvL (AG l i.toNat j)
 au n l ks:=(AZ n ks l:Int)
 av n l ks:=B8 n ks l
 aw n l ks z:=Dp n ks z l
 h c j:=pvI (AA c j)
 k c j:=pvB (AA c j)
 cS c j:=pvS (AA c j)
 o c j:=pvL (AA c j)
 aa c j:=pvI (AA c 0)==(j:Int)
 r i n:=iIn i n
 am a b n:=iRg a b n
 z n b:=iSm n b
 a ls:=some (ls.map Leaf.pv)
 ad _:=none
 n b m:=cond b m none
 b b x y:=cond b x y
 c m k:=m.bind k
 g f fns ls:=E f fns (ls.map Leaf.pv)
 w F ls:=DU F N (ls.map Leaf.pv)
inductive Rep (P:Program) (w:World) (St:Nat→Prop):TypeId→Value→PV→Prop
  | int {t:TypeId} {k:IntKind} {n:Int} (h:AM P t=.int k):Rep P w St t (.int k n) (.int n)
  | bool {t:TypeId} {b:Bool} (h:AM P t=.bool):Rep P w St t (.bool b) (.bool b)
  | str {t:TypeId} {s:ByteArray} (h:AM P t=.str):Rep P w St t (.string s) (.str s)
  | sl {t e : TypeId} {ts : List TypeId} {a : Option Addr} {len cap : Nat} {l : Rows} (v : Nat → Nat → Value)
      (h:AM P t=.sl e) (hts:AU P e=some ts) (hl:l.length=len) (hr:∀ r∈l,r.length=ts.length) (hc:len≤cap)
      (hm:len=0∨∃ b off,a=some ⟨b,off,none⟩∧St b∧b<w.heap.size ∧
        ∀ i j,i<len→j<ts.length→w.cell? ⟨b,off+(i * ts.length+j),none⟩=some (v i j))
      (hv:∀ i j t',i<len→ts[j]?=some t'→Rep P w St t' (v i j) (AG l i j)) :
      Rep P w St t (.slice a len cap) (.rows l)
theorem Rep.mono {P : Program} {w w' : World} {St St' : Nat → Prop} {t : TypeId} {v : Value} {p : PV} (h : Rep P w St t v p)
    (hw:∀ b,St b→b<w.heap.size→w'.heap[b]?=w.heap[b]?∧b<w'.heap.size) (hs:∀ b,St b→b<w.heap.size→St' b):Rep P w' St' t v p:=by
  induction h with
  | int h=>exact .int h
  | bool h=>exact .bool h
  | str h=>exact .str h
  | sl v h hts hl hr hc hm hv ih =>
    refine .sl v h hts hl hr hc ?_ (fun i j t' hi hj=>ih i j t' hi hj)
    rcases hm with hm | ⟨b,off,ha,hb,hlt,hcell⟩
    · exact .inl hm
    · refine .inr ⟨b,off,ha,hs b hb hlt,(hw b hb hlt).2,fun i j hi hj=>?_⟩;rw [World.cell?_of_block (w:=w) (hw b hb hlt).1];exact hcell i j hi hj
section
variable {E:Env} {N:Nat}
abbrev St0 (E:Env) (N:Nat):=State (std E N)
abbrev AC0 (E:Env) (N:Nat):=AC (std E N)
def InM (β:Nat→Option Nat) (σ:Nat→Option (Nat×Nat)) (s:St0 E N) (blk:Nat):Prop :=
  (∃ b e,s.getB b=some e∧β b=some blk)∨(∃ id h cap,s.getH id=some h∧h.frozen=false∧σ id=some (blk,cap))
structure Nz where
 n:Nat
 U:Nat→Prop
def Old (n0:Nz) (nw:Bool) (blk:Nat):Prop:=(nw=true→n0.n≤blk)∧(n0.n≤blk∨n0.U blk)
theorem Old.mono {n0:Nz} {nw nw':Bool} {blk:Nat} (h:Old n0 nw blk) (hh:nw'=true→nw=true):Old n0 nw' blk:=⟨fun e=>h.1 (hh e),h.2⟩
theorem Old.new {n0:Nz} {nw:Bool} {blk:Nat} (h:n0.n≤blk):Old n0 nw blk:=⟨fun _=>h,.inl h⟩
def StB (n0:Nz) (β:Nat→Option Nat) (σ:Nat→Option (Nat×Nat)) (s:St0 E N) (nw:Bool) (blk:Nat):Prop :=
 ¬ InM β σ s blk∧Old n0 nw blk
def Mr (β:Nat→Option Nat) (s:St0 E N) (b off:Nat) (v:Value):Prop :=
 ∃ blk,v=.pointer (some ⟨blk,off,none⟩)∧∀ e,s.getB b=some e→β b=some blk
def yO (σ:Nat→Option (Nat×Nat)) (id:Nat) (n:Nat) (v:Value):Prop :=
  (∃ blk cap,σ id=some (blk,cap)∧v=.slice (some ⟨blk,0,none⟩) n cap)∨(σ id=none∧n=0∧∃ a,v=.slice a 0 0)
def RelC (P:Program) (n0:Nz) (β:Nat→Option Nat) (σ:Nat→Option (Nat×Nat)) (s:St0 E N) (w:World):AC0 E N→Value→Prop
  | .int k i,v=>v=.int k i
  | .bool b,v=>v=.bool b
  | .str x,v=>v=.string x
  | .nil e,v=>∃ t ts,AM P t=.sl e∧AU P e=some ts∧∃ a,v=.slice a 0 0
  | .imm e nw l,v=>∃ t,AM P t=.sl e∧Rep P w (StB n0 β σ s nw) t v (.rows l)
  | .own e id,v=>(∃ t,AM P t=.sl e∧∃ a len cap,v=.slice a len cap)∧∀ h,s.getH id=some h→h.e=e∧yO σ id h.l.length v
  | .ptr b off,v=>Mr β s b off v
  | .aptr b off n sz i inner,v=>0≤i∧i<(n:Int)∧Mr β s b (off+i.toNat * sz+inner) v
  | .eptr id i off, v => 0 ≤ i ∧ ∃ blk o, v = .pointer (some ⟨blk, o, none⟩) ∧ ∀ h, s.getH id = some h → i < (h.l.length : Int) ∧
      ∃ ts cap,AU P h.e=some ts∧σ id=some (blk,cap)∧(0<cap∧∃ t,AM P t=.sl h.e)∧o=i.toNat * ts.length+off
  | .iptr e nw l i off, v => 0 ≤ i ∧ i < (l.length : Int) ∧ ∃ t ts blk boff len cap, AM P t = .sl e ∧ AU P e = some ts ∧
      Rep P w (StB n0 β σ s nw) t (.slice (some ⟨blk,boff,none⟩) len cap) (.rows l)∧v=.pointer (some ⟨blk,boff+(i.toNat * ts.length+off),none⟩)
  | .fn f caps, v => ∃ vs : List Value, v = .func (.func f) #[] vs.toArray ∧ vs.length = caps.length ∧
      ∀ (i b o:Nat),caps[i]?=some (b,o)→∃ x:Value,vs[i]?=some x∧Mr β s b o x
  | .nilptr,v=>v=.pointer none
  | .tail e id i, v => 0 ≤ i ∧ (∃ t, AM P t = .sl e ∧ ∃ a len cap, v = .slice a len cap) ∧ ∀ h, s.getH id = some h → h.e = e ∧ i ≤ (h.l.length : Int) ∧ ∃ a cap, v = .slice a (h.l.length - i.toNat) cap ∧
      (h.l.length=i.toNat∨∃ blk cap2 ts,AU P e=some ts∧σ id=some (blk,cap2)∧a=some ⟨blk,i.toNat * ts.length,none⟩)
  | .mp e id,v=>((∀ t,AM P t≠.sl e)∧∃ r,v=.map (some r))∧∀ h,s.getH id=some h→h.e=e∧∃ r,σ id=some (r,0)∧v=.map (some r)
def RelCs (P:Program) (n0:Nz) (β:Nat→Option Nat) (σ:Nat→Option (Nat×Nat)) (s:St0 E N) (w:World):List (AC0 E N)→List Value→Prop
 | [],[]=>True
 | c::cs,v::vs=>RelC P n0 β σ s w c v∧RelCs P n0 β σ s w cs vs
 | _,_=>False
def RelVal (P:Program) (n0:Nz) (β:Nat→Option Nat) (σ:Nat→Option (Nat×Nat)) (s:St0 E N) (w:World) (x:Val (std E N)) (v:Value):Prop :=
 RelCs P n0 β σ s w x.cs v.cells.toList∧match x.agg with
  | true=>∃ cs,v=.agg cs
  | false=>v.oneCell'=true
def RelVals (P:Program) (n0:Nz) (β:Nat→Option Nat) (σ:Nat→Option (Nat×Nat)) (s:St0 E N) (w:World):List (Val (std E N))→List Value→Prop
 | [],[]=>True
 | c::cs,v::vs=>RelVal P n0 β σ s w c v∧RelVals P n0 β σ s w cs vs
 | _,_=>False
def RelAV (P:Program) (n0:Nz) (β:Nat→Option Nat) (σ:Nat→Option (Nat×Nat)) (s:St0 E N) (w:World):AV (std E N)→Value→Prop
 | .val x,v=>RelVal P n0 β σ s w x v
 | .tup xs,v=>∃ vs,v=.tuple vs∧RelVals P n0 β σ s w xs vs.toList
def Facts (a:Act) (gs:List (Nat×Bool)):Prop:=∀ n b,(n,b)∈gs→a.tmps.getD n undef=.bool b
def AGM (P:Program) (n0:Nz) (β:Nat→Option Nat) (σ:Nat→Option (Nat×Nat)) (s:St0 E N) (a:Act) (w:World) (tv:TV (std E N)) (v:Value):Prop :=
  (Facts a tv.gs∧RelAV P n0 β σ s w tv.v v)∨(¬ Facts a tv.gs∧v=undef)
def AFj (P:Program) (n0:Nz) (β:Nat→Option Nat) (σ:Nat→Option (Nat×Nat)) (s:St0 E N) (w:World) (b:Nat) (e:BEnt (std E N)):Prop :=
 ∃ blk cells el,β b=some blk∧w.heap[blk]?=some (.cells cells el (0,0))∧RelCs P n0 β σ s w e.cs cells.toList
def Ds (a:List Int):Value:=.agg (a.map (Value.int .i64)).toArray
def ent (n:Nat) (i:Nat) (r:List PV):MapEntry:={ key:=Ds (CC n r),val:=.int .i64 (pvI (AA r n)),born:=i }
def DN (n:Nat):Nat→Rows→List MapEntry
 | _,[]=>[]
 | i,r::L=>ent n i r::DN n (i+1) L
def SD (w:World) (n r:Nat) (L:Rows):Prop:=w.heap[r]?=some (.map (DN n 0 L).toArray L.length)
def RelM (P:Program) (n0:Nz) (σ:Nat→Option (Nat×Nat)) (w:World) (id:Nat) (h:HEnt (std E N)):Prop :=
 ∃ n r,h.e=DP P n∧(∀ t,AM P t≠.sl h.e)∧σ id=some (r,0)∧SD w n r h.l∧(∀ x∈h.l,x.length=n+1)∧Old n0 h.nw r
def AGb (P:Program) (n0:Nz) (β:Nat→Option Nat) (σ:Nat→Option (Nat×Nat)) (s:St0 E N) (w:World) (id:Nat) (h:HEnt (std E N)):Prop :=
  ∃ t ts,AM P t=.sl h.e∧AU P h.e=some ts∧(∀ r∈h.l,r.length=ts.length) ∧
    ((σ id=none∧h.l=[]) ∨
      ∃ blk cap cells el,σ id=some (blk,cap)∧w.heap[blk]?=some (.cells cells el (0,0))∧el=h.e∧cells.size=cap * ts.length∧h.l.length≤cap ∧
        Old n0 h.nw blk ∧
        ∃ v:Nat→Nat→Value,(∀ i j,i<h.l.length→j<ts.length→cells[i * ts.length+j]?=some (v i j)) ∧
          ∀ i j t',i<h.l.length→ts[j]?=some t'→Rep P w (StB n0 β σ s h.nw) t' (v i j) (AG h.l i j))
def RelH (P:Program) (n0:Nz) (β:Nat→Option Nat) (σ:Nat→Option (Nat×Nat)) (s:St0 E N) (w:World) (id:Nat) (h:HEnt (std E N)):Prop :=
 AGb P n0 β σ s w id h∨RelM P n0 σ w id h
theorem RelM.view {P : Program} {n0 n0' : Nz} {σ σ' : Nat → Option (Nat × Nat)} {w w' : World} {id q : Nat} {h0 h1 : HEnt (std E N)} (h : RelM P n0 σ w id h0) (he : h1.e = h0.e) (hl : h1.l = h0.l)
    (hs:σ' q=σ id) (hw:∀ blk cap,σ id=some (blk,cap)→w'.heap[blk]?=w.heap[blk]?) (ho:∀ blk cap,σ id=some (blk,cap)→Old n0 h0.nw blk→Old n0' h1.nw blk):RelM P n0' σ' w' q h1:=by
  obtain ⟨n,r,a1,a3,a4,a5,a6,a7⟩:=h;refine ⟨n,r,he.trans a1,by rw [he];exact a3,hs.trans a4,?_,by rw [hl];exact a6,ho r 0 a4 a7⟩;unfold SD;rw [hw r 0 a4,hl];exact a5
theorem RelM.noCap {P:Program} {n0:Nz} {σ:Nat→Option (Nat×Nat)} {w:World} {id blk cap:Nat} {h:HEnt (std E N)} (m:RelM P n0 σ w id h) (hs:σ id=some (blk,cap)) (hc:0<cap):False:=by
 obtain ⟨n,r,a1,a3,a4,a5,a6,a7⟩:=m;rw [hs] at a4;cases a4;exact Nat.lt_irrefl 0 hc
theorem RelM.noSl {P:Program} {n0:Nz} {σ:Nat→Option (Nat×Nat)} {w:World} {id:Nat} {h:HEnt (std E N)} (m:RelM P n0 σ w id h) {t:TypeId} (ht:AM P t=.sl h.e):False:=by
 obtain ⟨n,r,a1,a3,a4,a5,a6,a7⟩:=m;exact a3 t ht
theorem RelM.blk {P:Program} {n0:Nz} {σ:Nat→Option (Nat×Nat)} {w:World} {id:Nat} {h:HEnt (std E N)} (m:RelM P n0 σ w id h) {blk cap:Nat} (hs:σ id=some (blk,cap)):(∃ o,w.heap[blk]?=some o)∧Old n0 h.nw blk:=by
 obtain ⟨n,r,a1,a3,a4,a5,a6,a7⟩:=m;rw [hs] at a4;cases a4;exact ⟨⟨_,a5⟩,a7⟩
structure Mem (P:Program) (n0:Nz) (β:Nat→Option Nat) (σ:Nat→Option (Nat×Nat)) (s:St0 E N) (w:World):Prop where
 B:∀ b e,s.getB b=some e→AFj P n0 β σ s w b e
 H:∀ id h,s.getH id=some h→RelH P n0 β σ s w id h
 uB:∀ b b' e e' blk,s.getB b=some e→s.getB b'=some e'→β b=some blk→β b'=some blk→b=b'
 uH:∀ id id' h h' blk cap cap',s.getH id=some h→s.getH id'=some h'→σ id=some (blk,cap)→σ id'=some (blk,cap')→id=id'
 uX:∀ b e id h blk cap,s.getB b=some e→s.getH id=some h→β b=some blk→σ id=some (blk,cap)→False
def ZK : String := "internal/strconv.uint64pow10"
def ro:List Int:=(List.range 20).map fun i=>((10 ^ i:Nat):Int)
def Kept (P:Program) (β:Nat→Option Nat) (σ:Nat→Option (Nat×Nat)) (s:St0 E N) (w:World):Prop :=
 ∀ g,P.globalNamed ZK=some g→Lib.TabIs P w ZK .u64 ro∧¬ InM β σ s g
structure Sim (P:Program) (n0:Nz) (nt:Nat) (β:Nat→Option Nat) (σ:Nat→Option (Nat×Nat)) (s:St0 E N) (a:Act) (w:World):Prop where
 n0le:n0.n≤w.heap.size
 size:a.tmps.size=nt
 T:∀ n tv,s.getT n=some tv→AGM P n0 β σ s a w tv (a.tmps.getD n undef)
 M:Mem P n0 β σ s w
 kept:Kept P β σ s w
def AC.names:AC0 E N→List Nat
 | .own _ id=>[id]
 | .ptr b _=>[b]
 | .aptr b _ _ _ _ _=>[b]
 | .eptr id _ _=>[id]
 | .fn _ caps=>caps.map (·.1)
 | .tail _ id _=>[id]
 | .mp _ id=>[id]
 | _=>[]
def AJ:List (AC0 E N)→List Nat
 | []=>[]
 | c::r=>c.names++AJ r
def Bn:List (Val (std E N))→List Nat
 | []=>[]
 | v::r=>AJ v.cs++Bn r
def AV.names:AV (std E N)→List Nat
 | .val v=>AJ v.cs
 | .tup vs=>Bn vs
structure Fresh (a:Act) (s:St0 E N) (n:Nat):Prop where
 t:∀ k tv,s.getT k=some tv→Facts a tv.gs→n∉tv.v.names
 b:∀ k e,s.getB k=some e→n≠k∧n∉AJ e.cs
 h:∀ k e,s.getH k=some e→n≠k
structure Ext (P : Program) (new : Nat → Prop) (β : Nat → Option Nat) (σ : Nat → Option (Nat × Nat)) (s : St0 E N) (w : World)
    (β':Nat→Option Nat) (σ':Nat→Option (Nat×Nat)) (s':St0 E N) (w':World):Prop where
  os:w'.os=w.os
  tape:w'.tape=w.tape
  output:w'.output=w.output
  size:w.heap.size≤w'.heap.size
  frame:∀ b,b<w.heap.size→¬ InM β σ s b→w'.heap[b]?=w.heap[b]?
  mem:∀ b,InM β' σ' s' b→InM β σ s b∨w.heap.size≤b
  kB:∀ b e',s'.getB b=some e'→¬ new b→(∃ e,s.getB b=some e)∧β' b=β b
  kH:∀ id h',s'.getH id=some h'→¬ new id→∃ h,s.getH id=some h∧σ' id=σ id∧h'.e=h.e∧((∃ t,AM P t=.sl h.e)→h'.l.length=h.l.length)
section
variable {P:Program} {n0:Nz} {nt:Nat} {new:Nat→Prop} {β β':Nat→Option Nat} {σ σ':Nat→Option (Nat×Nat)} {s s':St0 E N} {w w':World} {a:Act}
theorem Cc {w:World} {b:Nat} {o:Obj} (h:w.heap[b]?=some o):b<w.heap.size:=by
 rcases Nat.lt_or_ge b w.heap.size with h' | h'
 ·exact h'
 ·simp [Array.getElem?_eq_none h'] at h
theorem Kept.ext (k:Kept P β σ s w) (x:Ext P new β σ s w β' σ' s' w'):Kept P β' σ' s' w':=fun g hg=>by
 obtain ⟨h1,h2⟩:=k g hg;unfold Lib.TabIs World.var? at h1 ⊢;rw [hg] at h1 ⊢;simp only [Option.bind_some] at h1 ⊢;have hlt:g<w.heap.size:=by
  rcases Nat.lt_or_ge g w.heap.size with h | h
  ·exact h
  ·rw [Array.getElem?_eq_none h] at h1;cases h1
 refine ⟨by rw [x.frame g hlt h2];exact h1,fun hm=>(x.mem g hm).elim h2 (fun h=>by omega)⟩
theorem Ext.rep (x : Ext P new β σ s w β' σ' s' w') {nw : Bool} {t : TypeId} {v : Value} {p : PV} (h : Rep P w (StB n0 β σ s nw) t v p) :
    Rep P w' (StB n0 β' σ' s' nw) t v p :=
  h.mono (fun b hb hlt=>⟨x.frame b hlt hb.1,Nat.lt_of_lt_of_le hlt x.size⟩)
    (fun b hb hlt=>⟨fun hm=>(x.mem b hm).elim hb.1 (fun h=>by omega),hb.2⟩)
theorem Ext.ptr (x:Ext P new β σ s w β' σ' s' w') {b off:Nat} {v:Value} (hn:¬ new b) (h:Mr β s b off v):Mr β' s' b off v:=by
 obtain ⟨blk,rfl,hb⟩:=h;refine ⟨blk,rfl,fun e he=>?_⟩;obtain ⟨⟨e0,h0⟩,h1⟩:=x.kB b e he hn;rw [h1];exact hb e0 h0
theorem Ext.relC (x : Ext P new β σ s w β' σ' s' w') {c : AC0 E N} {v : Value} (hn : ∀ n ∈ c.names, ¬ new n) (h : RelC P n0 β σ s w c v) :
    RelC P n0 β' σ' s' w' c v:=by
  cases c with
  | int k i=>exact h
  | bool b=>exact h
  | str x=>exact h
  | nil e=>exact h
  | nilptr=>exact h
  | imm e nw l=>obtain ⟨t,ht,hr⟩:=h;exact ⟨t,ht,x.rep hr⟩
  | own e id =>
    obtain ⟨h1,h2⟩:=h;refine ⟨h1,fun h' hh=>?_⟩;obtain ⟨h0,hh0,hs,he,hl⟩:=x.kH id h' hh (hn id (by simp [AC.names]));obtain ⟨e1,o1⟩:=h2 h0 hh0;refine ⟨he.trans e1,?_⟩;have hl:=hl (by obtain ⟨te,hte,_⟩:=h1;exact ⟨te,by rw [e1];exact hte⟩);unfold yO at o1 ⊢;rw [hs,hl];exact o1
  | ptr b off=>exact x.ptr (hn b (by simp [AC.names])) h
  | aptr b off n sz i inner=>exact ⟨h.1,h.2.1,x.ptr (hn b (by simp [AC.names])) h.2.2⟩
  | eptr id i off =>
    obtain ⟨h0,blk,o,hv,hk⟩:=h;refine ⟨h0,blk,o,hv,fun h' hh=>?_⟩;obtain ⟨e0,hh0,hs,he,hl⟩:=x.kH id h' hh (hn id (by simp [AC.names]));obtain ⟨hi,ts,cap,hts,hsg,hcp,ho⟩:=hk e0 hh0;have hl:=hl hcp.2;exact ⟨by rw [hl];exact hi,ts,cap,by rw [he];exact hts,by rw [hs];exact hsg,by rw [he];exact hcp,ho⟩
  | iptr e nw l i off =>
    obtain ⟨h0,h1,t,ts,blk,boff,len,cap,ht,hts,hr,hv⟩:=h;exact ⟨h0,h1,t,ts,blk,boff,len,cap,ht,hts,x.rep hr,hv⟩
  | fn f caps =>
    obtain ⟨vs,hv,hl,hp⟩:=h;refine ⟨vs,hv,hl,fun i b o hc=>?_⟩;obtain ⟨y,hy,hr⟩:=hp i b o hc;exact ⟨y,hy,x.ptr (hn b (by simp only [AC.names];exact List.mem_map.2 ⟨(b,o),List.mem_of_getElem? hc,rfl⟩)) hr⟩
  | tail e id i =>
    obtain ⟨h0,hv,hk⟩:=h;refine ⟨h0,hv,fun h' hh=>?_⟩;obtain ⟨e0,hh0,hs,he,hl⟩:=x.kH id h' hh (hn id (by simp [AC.names]));obtain ⟨h1,hi,hq⟩:=hk e0 hh0;obtain ⟨te,hte,_⟩:=hv;have hl:=hl ⟨te,by rw [h1];exact hte⟩;exact ⟨he.trans h1,by rw [hl];exact hi,by rw [hl,hs];exact hq⟩
  | mp e id =>
    obtain ⟨hv,hk⟩:=h;refine ⟨hv,fun h' hh=>?_⟩;obtain ⟨e0,hh0,hs,he,_⟩:=x.kH id h' hh (hn id (by simp [AC.names]));obtain ⟨h1,r,h2,h3⟩:=hk e0 hh0;exact ⟨he.trans h1,r,by rw [hs];exact h2,h3⟩
theorem Ext.relCs (x : Ext P new β σ s w β' σ' s' w') : ∀ {cs : List (AC0 E N)} {vs : List Value}, (∀ n ∈ AJ cs, ¬ new n) → RelCs P n0 β σ s w cs vs →
    RelCs P n0 β' σ' s' w' cs vs
  | [],[],_,h=>h
  | c::cs,v::vs,hn,h=>⟨x.relC (fun n hm=>hn n (by simp [AJ,hm])) h.1,x.relCs (fun n hm=>hn n (by simp [AJ,hm])) h.2⟩
  | [],_::_,_,h=>h.elim
  | _::_,[],_,h=>h.elim
theorem Ext.relVal (x : Ext P new β σ s w β' σ' s' w') {y : Val (std E N)} {v : Value} (hn : ∀ n ∈ AJ y.cs, ¬ new n) (h : RelVal P n0 β σ s w y v) :
    RelVal P n0 β' σ' s' w' y v:=⟨x.relCs hn h.1,h.2⟩
theorem Ext.relVals (x : Ext P new β σ s w β' σ' s' w') : ∀ {cs : List (Val (std E N))} {vs : List Value}, (∀ n ∈ Bn cs, ¬ new n) → RelVals P n0 β σ s w cs vs →
    RelVals P n0 β' σ' s' w' cs vs
  | [],[],_,h=>h
  | c::cs,v::vs,hn,h=>⟨x.relVal (fun n hm=>hn n (by simp [Bn,hm])) h.1,x.relVals (fun n hm=>hn n (by simp [Bn,hm])) h.2⟩
  | [],_::_,_,h=>h.elim
  | _::_,[],_,h=>h.elim
theorem Ext.relAV (x : Ext P new β σ s w β' σ' s' w') {y : AV (std E N)} {v : Value} (hn : ∀ n ∈ y.names, ¬ new n) (h : RelAV P n0 β σ s w y v) :
    RelAV P n0 β' σ' s' w' y v:=by
  cases y with
  | val y=>exact x.relVal hn h
  | tup ys=>obtain ⟨vs,hv,hr⟩:=h;exact ⟨vs,hv,x.relVals hn hr⟩
theorem Ext.refl (P:Program) (new:Nat→Prop) (β:Nat→Option Nat) (σ:Nat→Option (Nat×Nat)) (s:St0 E N) (w:World):Ext P new β σ s w β σ s w :=
 ⟨rfl,rfl,rfl,Nat.le_refl _,fun _ _ _=>rfl,fun _ h=>.inl h,fun b e h _=>⟨⟨e,h⟩,rfl⟩,fun id h hh _=>⟨h,hh,rfl,rfl,fun _=>rfl⟩⟩
theorem Ext.trans {new2 : Nat → Prop} {β'' : Nat → Option Nat} {σ'' : Nat → Option (Nat × Nat)} {s'' : St0 E N} {w'' : World}
    (x:Ext P new β σ s w β' σ' s' w') (y:Ext P new2 β' σ' s' w' β'' σ'' s'' w''):Ext P (fun n=>new n∨new2 n) β σ s w β'' σ'' s'' w'' where
  os:=y.os.trans x.os
  tape:=y.tape.trans x.tape
  output:=y.output.trans x.output
  size:=Nat.le_trans x.size y.size
  frame b hb hm:=by
    rw [y.frame b (Nat.lt_of_lt_of_le hb x.size) (fun h=>(x.mem b h).elim hm (fun h=>by omega)),x.frame b hb hm]
  mem b h:=(y.mem b h).elim (fun h=>x.mem b h) (fun h=>.inr (Nat.le_trans x.size h))
  kB b e h hn:=by
    obtain ⟨⟨e1,h1⟩,e2⟩:=y.kB b e h (fun h=>hn (.inr h));obtain ⟨⟨e3,h3⟩,e4⟩:=x.kB b e1 h1 (fun h=>hn (.inl h));exact ⟨⟨e3,h3⟩,e2.trans e4⟩
  kH id h hh hn:=by
    obtain ⟨h1,hh1,a1,a2,a3⟩:=y.kH id h hh (fun h=>hn (.inr h));obtain ⟨h2,hh2,b1,b2,b3⟩:=x.kH id h1 hh1 (fun h=>hn (.inl h));exact ⟨h2,hh2,a1.trans b1,a2.trans b2,fun hx=>(a3 (by rw [b2];exact hx)).trans (b3 hx)⟩
theorem Ext.weaken {new2:Nat→Prop} (x:Ext P new β σ s w β' σ' s' w') (h:∀ n,new n→new2 n):Ext P new2 β σ s w β' σ' s' w' :=
 { x with kB:=fun b e hb hn=>x.kB b e hb (fun k=>hn (h _ k)),kH:=fun id e hb hn=>x.kH id e hb (fun k=>hn (h _ k)) }
structure Sub (s s':St0 E N):Prop where
 b:∀ n e',s'.getB n=some e'→∃ e,s.getB n=some e∧e'.cs=e.cs
 h:∀ n h',s'.getH n=some h'→∃ h,s.getH n=some h∧h'.e=h.e∧h'.l=h.l∧h'.nw=h.nw∧(h'.frozen=false→h.frozen=false)
theorem Sub.inM (x:Sub s s') {b:Nat} (h:InM β σ s' b):InM β σ s b:=by
 rcases h with ⟨n,e,he,hb⟩ | ⟨id,h,cap,hh,hf,hs⟩
 ·obtain ⟨e0,h0,_⟩:=x.b n e he;exact .inl ⟨n,e0,h0,hb⟩
 ·obtain ⟨h0,hh0,_,_,_,hf0⟩:=x.h id h hh;exact .inr ⟨id,h0,cap,hh0,hf0 hf,hs⟩
theorem Sub.ext (x:Sub s s') (P:Program) (new:Nat→Prop) (β:Nat→Option Nat) (σ:Nat→Option (Nat×Nat)) (w:World):Ext P new β σ s w β σ s' w where
 os:=rfl
 tape:=rfl
 output:=rfl
 size:=Nat.le_refl _
 frame _ _ _:=rfl
 mem b h:=.inl (x.inM h)
 kB n e h _:=by obtain ⟨e0,h0,_⟩:=x.b n e h;exact ⟨⟨e0,h0⟩,rfl⟩
 kH n e h _:=by obtain ⟨h0,hh0,h1,h2,_⟩:=x.h n e h;exact ⟨h0,hh0,rfl,h1,fun _=>by rw [h2]⟩
theorem Sub.mem (x:Sub s s') (m:Mem P n0 β σ s w):Mem P n0 β σ s' w where
 B n e h:=by
  obtain ⟨e0,h0,hc⟩:=x.b n e h;obtain ⟨blk,cells,el,hb,hh,hr⟩:=m.B n e0 h0;exact ⟨blk,cells,el,hb,hh,(x.ext P (fun _=>False) β σ w).relCs (fun _ _=>id) (by rw [hc];exact hr)⟩
 H n e h:=by
  obtain ⟨h0,hh0,h1,h2,h3,h4⟩:=x.h n e h
  rcases m.H n h0 hh0 with ⟨t,ts,ht,hts,hr,hm⟩ | hM
  case inr=>exact .inr (hM.view h1 h2 rfl (fun _ _ _=>rfl) (fun _ _ _ ho=>by rw [h3];exact ho))
  refine .inl ⟨t,ts,by rw [h1];exact ht,by rw [h1];exact hts,by rw [h2];exact hr,?_⟩
  rcases hm with ⟨ha,hb⟩ | ⟨blk,cap,cells,el,ha,hb,hel,hc,hd,he,v,hv,hrep⟩
  ·exact .inl ⟨ha,by rw [h2];exact hb⟩
  ·refine .inr ⟨blk,cap,cells,el,ha,hb,by rw [h1];exact hel,hc,by rw [h2];exact hd,by rw [h3];exact he,v,by rw [h2];exact hv,fun i j t' hi hj=>?_⟩;rw [h2] at hi ⊢;rw [h3];exact (x.ext P (fun _=>False) β σ w).rep (hrep i j t' hi hj)
 uB b b' e e' blk h h' hb hb':=by
  obtain ⟨e0,h0,_⟩:=x.b b e h;obtain ⟨e1,h1,_⟩:=x.b b' e' h';exact m.uB b b' e0 e1 blk h0 h1 hb hb'
 uH b b' e e' blk cap cap' h h' hb hb':=by
  obtain ⟨e0,h0,_⟩:=x.h b e h;obtain ⟨e1,h1,_⟩:=x.h b' e' h';exact m.uH b b' e0 e1 blk cap cap' h0 h1 hb hb'
 uX b e id h blk cap hb hh h1 h2:=by
  obtain ⟨e0,h0,_⟩:=x.b b e hb;obtain ⟨h3,hh3,_⟩:=x.h id h hh;exact m.uX b e0 id h3 blk cap h0 hh3 h1 h2
theorem Sub.of_same (hb:∀ n,s'.getB n=s.getB n) (hh:∀ n,s'.getH n=s.getH n):Sub s s' :=
 ⟨fun n e h=>⟨e,by rw [← hb];exact h,rfl⟩,fun n e h=>⟨e,by rw [← hh];exact h,rfl,rfl,rfl,id⟩⟩
end
end
end Go.Px
end
