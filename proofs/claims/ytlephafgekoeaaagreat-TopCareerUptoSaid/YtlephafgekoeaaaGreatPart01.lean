/- Part 1. -/
import GoSem.Step
set_option linter.unusedVariables false
set_option linter.unusedSimpArgs false
namespace Go.Px
theorem zzj (a b:Bool):((a&&b)=true)=(a=true∧b=true):=Bool.and_eq_true a b
theorem zzk {α:Type} {l:List α} {i:Nat} {a:α}:l.getD i a=l[i]?.getD a:=List.getD_eq_getElem?_getD
theorem zzl {α:Type} {a:α} {l:List α}:a∈a::l:=List.mem_cons_self
theorem zzm {α:Type} (y:α) {a:α} {l:List α}:a∈l→a∈y::l:=List.mem_cons_of_mem y
theorem zzn {α:Type} {l:List α} {i:Nat} (h:i<l.length):l[i]?=some l[i]:=List.getElem?_eq_getElem h
theorem zzo {α β:Type} {x:Option α} {f:α→β} {b:β}:x.map f=some b↔∃a,x=some a∧f a=b:=Option.map_eq_some_iff
inductive Leaf (I B S L:Type) where
 |int (i:I)
 |bool (b:B)
 |str (s:S)
 |rows (l:L)
structure Alg where
 I:Type
 B:Type
 S:Type
 L:Type
 C:Type
 M:Type
 lit:IntKind→Int→I
 o:IntKind→I→I→I
 v:IntKind→I→I→I
 al:IntKind→I→I→I
 bd:IntKind→I→I→I
 as:IntKind→I→I→I
 am:IntKind→I→I
 ba:Nat→IntKind→I→I→I
 au:Bool→IntKind→I→I→I
 be:I→S
 w:I→I→B
 n:I→I→B
 e:I→I→B
 m:B
 h:B
 g:B→B
 aa:B→B→B
 aq:B→B→B
 af:B→I→I→I
 i:B→B→B→B
 av:B→S→S→S
 ar:B→L→L→L
 u:ByteArray→S
 ao:S→S→B
 bf:S→S→B
 aj:S→I
 bg:S→I→I
 bh:S→I→I→S
 aw:S→S→S
 bb:S→L
 s:L
 y:List (List (Leaf I B S L))→L
 ad:L→L→L
 j:L→I
 x:L→I→Nat→List (Leaf I B S L)→L
 ag:L→I→I→L
 ap:I→List (Leaf I B S L)→L
 r:L→I→Nat→I
 rB:L→I→Nat→B
 rS:L→I→Nat→S
 rL:L→I→Nat→L
 ax:L→I→B
 ay:L→I→B→L
 bi:L→S
 bj:L→B
 az:L→L
 bc:L→L
 c:C→Nat→I
 p:C→Nat→B
 cS:C→Nat→S
 k:C→Nat→L
 z:C→Nat→B
 q:I→I→B
 ai:I→I→I→B
 ab:I→Nat→B
 a:List (Leaf I B S L)→M
 ac:String→M
 l:B→M→M
 b:B→M→M→M
 d:M→(C→M)→M
 f:Nat→List Nat→List (Leaf I B S L)→M
 t:((List (Leaf I B S L)→M)→C→M)→List (Leaf I B S L)→M
abbrev Alg.Lf (O:Alg):Type:=Leaf O.I O.B O.S O.L
inductive Cap (O:Alg) where
 |box (b off:Nat)
 |row (e:TypeId) (l:O.L)
inductive AC (O:Alg) where
 |int (k:IntKind) (i:O.I)
 |bool (b:O.B)
 |str (s:O.S)
 |nil (e:TypeId)
 |imm (e:TypeId) (nw:Bool) (l:O.L)
 |own (e:TypeId) (id:Nat)
 |ptr (b off:Nat)
 |aptr (b off n sz:Nat) (i:O.I) (inner:Nat)
 |eptr (id:Nat) (i:O.I) (off:Nat)
 |iptr (e:TypeId) (nw:Bool) (l:O.L) (i:O.I) (off:Nat)
 |fn (f:FuncId) (caps:List (Cap O))
 |nilptr
 |tail (e:TypeId) (id:Nat) (i:O.I)
 |mp (e:TypeId) (id:Nat)
 |any (T:TypeId)
 |opq (nw:Bool) (n:O.I)
def Cap.ac {O:Alg}:Cap O→AC O
 | .box b off=>.ptr b off
 | .row e l=>.iptr e false l (O.lit .i64 0) 0
def Cap.box? {O:Alg}:Cap O→List Nat
 | .box b _=>[b]
 | .row _ _=>[]
def Iu {O:Alg}:List (Cap O)→List Nat
 | []=>[]
 |c::r=>c.box?++Iu r
structure Val (O:Alg) where
 agg:Bool
 cs:List (AC O)
inductive AV (O:Alg) where
 |val (v:Val O)
 |tup (vs:List (Val O))
structure TV (O:Alg) where
 gs:List (Nat×Bool)
 v:AV O
structure BEnt (O:Alg) where
 cs:List (AC O)
 dirty:Bool
structure HEnt (O:Alg) where
 e:TypeId
 frozen:Bool
 nw:Bool
 l:O.L
 dirty:Bool
inductive TM (α:Type) where
 |e
 |leaf (a:α)
 |node (l r:TM α)
def TM.get {α:Type}:Nat→TM α→Nat→Option α
 |0,.leaf a,_=>some a
 |d+1,.node l r,k=>match Nat.beq (k%2) 0 with
  |true=>TM.get d l (k / 2)
  |false=>TM.get d r (k / 2)
 |_,_,_=>none
def TM.kids {α:Type}:TM α→TM α×TM α
 | .node l r=>(l,r)
 |_=>(.e,.e)
def TM.set {α:Type}:Nat→TM α→Nat→Option α→TM α
 |0,_,_,some a=>.leaf a
 |0,_,_,none=>.e
 |d+1,t,k,a=>match t.kids with
  |(l,r)=>match Nat.beq (k%2) 0 with
   |true=>.node (TM.set d l (k / 2) a) r
   |false=>.node l (TM.set d r (k / 2) a)
def AL {α:Type}:List (Nat×α)→Nat→Option α
 | [],_=>none
 |(j,a)::l,k=>match Nat.beq j k with
  |true=>some a
  |false=>AL l k
def YD {α:Type}:List (Nat×α)→Nat→List (Nat×α)
 | [],_=>[]
 |(j,a)::l,k=>match Nat.beq j k with
  |true=>YD l k
  |false=>(j,a)::YD l k
def OE {α:Type} (l:List (Nat×α)) (k:Nat):Option α→List (Nat×α)
 |some a=>(k,a)::YD l k
 |none=>YD l k
def cV:Nat:=9
structure State (O:Alg) where
 tm:TM (TV O)
 bx:List (Nat×BEnt O)
 hp:List (Nat×HEnt O)
 st:Nat
def Fg:Nat:=512
def DR {α:Type} (t:TM α) (n:Nat):Option α:=match Nat.blt n Fg with
 |true=>TM.get cV t n
 |false=>none
def GT {α:Type} (t:TM α) (n:Nat) (v:Option α):TM α:=match Nat.blt n Fg with
 |true=>TM.set cV t n v
 |false=>t
def State.getT {O:Alg} (s:State O) (n:Nat):Option (TV O):=DR s.tm n
def State.getB {O:Alg} (s:State O) (n:Nat):Option (BEnt O):=AL s.bx n
def State.getH {O:Alg} (s:State O) (n:Nat):Option (HEnt O):=AL s.hp n
structure Wr (O:Alg) where
 ts:List (Nat×Option (TV O)):=[]
 bs:List (Nat×Option (BEnt O)):=[]
 hs:List (Nat×Option (HEnt O)):=[]
def State.applyT {O:Alg} (t:TM (TV O)):List (Nat×Option (TV O))→TM (TV O)
 | []=>t
 |(n,v)::r=>State.applyT (GT t n v) r
def BO {α:Type} (t:List (Nat×α)):List (Nat×Option α)→List (Nat×α)
 | []=>t
 |(n,v)::r=>BO (OE t n v) r
def State.apply {O:Alg} (s:State O) (w:Wr O):State O :=
 { tm:=State.applyT s.tm w.ts,bx:=BO s.bx w.bs,hp:=BO s.hp w.hs,st:=s.st }
def C7 (k:Nat):Nat:=2 ^ k
def UM (f:Nat→Nat) {α:Type}:List (Nat×α)→Nat
 | []=>0
 |(n,_)::r=>C7 (f n) ||| UM f r
def Wr.mask {O:Alg} (w:Wr O):Nat :=
 UM (fun n=>3*n) w.ts ||| UM (fun n=>3*n+1) w.bs ||| UM (fun n=>3*n+2) w.hs
inductive RM (O:Alg) (α:Type) where
 |ret (a:α)
 |fail (w:String)
 |t (n:Nat) (f:Option (TV O)→RM O α)
 |b (n:Nat) (f:Option (BEnt O)→RM O α)
 |h (n:Nat) (f:Option (HEnt O)→RM O α)
def RM.bind {O:Alg} {α β:Type}:RM O α→(α→RM O β)→RM O β
 | .ret a,f=>f a
 | .fail w,_=>.fail w
 | .t n g,f=>.t n fun v=>(g v).bind f
 | .b n g,f=>.b n fun v=>(g v).bind f
 | .h n g,f=>.h n fun v=>(g v).bind f
instance {O:Alg}:Monad (RM O) where
 pure:=RM.ret
 bind:=RM.bind
def RM.run {O:Alg} {α:Type} (s:State O):RM O α→Nat→Except String (α×Nat)
 | .ret a,m=>.ok (a,m)
 | .fail w,_=>.error w
 | .t n g,m=>RM.run s (g (s.getT n)) (m ||| C7 (3*n))
 | .b n g,m=>RM.run s (g (s.getB n)) (m ||| C7 (3*n+1))
 | .h n g,m=>RM.run s (g (s.getH n)) (m ||| C7 (3*n+2))
def RM.ofOpt {O:Alg} {α:Type} (w:String):Option α→RM O α
 |some a=>.ret a
 |none=>.fail w
def RM.guard {O:Alg} (b:Bool) (w:String):RM O Unit:=match b with
 |true=>.ret ()
 |false=>.fail w
inductive LK where
 |int (k:IntKind)|bool|str|sl (e:TypeId)|ptr|fn|other|opq
def V7:IntKind→IntKind→Bool
 | .i8,.i8 | .i16,.i16 | .i32,.i32 | .i64,.i64 | .u8,.u8 | .u16,.u16 | .u32,.u32 | .u64,.u64=>true
 |_,_=>false
def Hl (P:Program) (e:TypeId):Bool:=false
def slK (b c:Bool) (e:TypeId):LK:=match b,c with|true,_=>.opq|false,true=>.sl e|false,false=>.other
def ptB:Nat:=1000000
def ptE (P:Program) (e:TypeId):Bool:=(Nat.beq e 80||Nat.beq e 55)&&Nat.beq P.funcs.size 214
def ptK (b:Bool) (e:TypeId):LK:=match b with|true=>.sl (e+ptB)|false=>.ptr
def vtK (b c:Bool) (e:TypeId):LK:=match b,c with|true,true=>.sl e|_,_=>.other
def AK (P:Program) (t:TypeId):LK:=match P.underlying t with
 |some (.int k)=>.int k
 |some .bool=>.bool
 |some .string=>.str
 |some (.slice e)=>slK (Hl P e) (Nat.blt e ptB) e
 |some (.pointer e)=>ptK (ptE P e) e
 |some (.func _ _ _)=>.fn
 |none=>vtK (ptE P (t-ptB)) (Nat.ble ptB t) (t-ptB)
 |_=>.other
def FF {α:Type}:Nat→List α→List α
 |0,_=>[]
 |n+1,l=>l++FF n l
def P6 {α:Type}:List (Option (List α))→Option (List α)
 | []=>some []
 |none::_=>none
 |some a::r=>match P6 r with
  |some b=>some (a++b)
  |none=>none
def CU (P:Program):Nat→TypeId→Option (List TypeId)
 |0,_=>none
 |n+1,t=>match P.underlying t with
  |some (.struct fs)=>P6 (fs.toList.map fun f=>CU P n f.type)
  |some (.array k e)=>(CU P n e).map (FF k)
  |some (.tuple _)|some .invalid|some (.named _ _)|none=>none
  |some _=>some [t]
def Dy:Nat:=20
def AW (P:Program) (t:TypeId):Option (List TypeId):=match CU P Dy t with
 |some l=>match Nat.beq l.length (P.cellsOf t)&&Nat.blt 0 l.length with
  |true=>some l
  |false=>none
 |none=>none
def Ag (P:Program) (t:TypeId):Bool:=match P.underlying t with
 |some (.struct _)|some (.array _ _)=>true
 |_=>false
def OQ (P:Program) (t:TypeId):Option TypeId:=match P.underlying t with
 |some (.slice e)=>(match Nat.blt e ptB && !Hl P e with|false=>none|true=>some e)
 |_=>none
def bZ (P:Program) (T:TypeId):Bool:=match P.underlying T with
 |some (.map K V)=>(match P.underlying K with|some (.int .i64)=>true|_=>false)&&((match P.underlying V with|some .bool=>true|_=>false)&&(match P.info? V with
  |some i=>(match i.zero with|some (.bool z) => !z|_=>false)
  |none=>false))
 |_=>false
def noSl (P:Program) (T:TypeId):Bool:=P.types.toList.all fun i=>match i.desc with
 | .slice e => !Nat.beq e T
 |_=>true
def GN (P:Program):TypeId:=P.types.size+2
def vU (P:Program) (T:TypeId):TypeId×TypeId:=match P.underlying T with
 |some (.map K V)=>(K,V)
 |_=>(T,T)
def AR:List Nat→List Nat→Bool
 | [],[]=>true
 |a::l,b::r=>match Nat.beq a b with
  |true=>AR l r
  |false=>false
 |_,_=>false
def CT (n:Nat):List Nat→Bool
 | []=>false
 |m::l=>match Nat.beq n m with
  |true=>true
  |false=>CT n l
def W9 (P:Program) (e:TypeId) (off:Nat) (t:TypeId):Option (List TypeId) :=
 match AW P e,AW P t with
 |some l,some r=>match AR ((l.drop off).take r.length) r with
  |true=>some r
  |false=>none
 |_,_=>none
section
variable {O:Alg} (P:Program)
def XR (t:TypeId) (v:Value):Option (AC O):=match AK P t,v with
 | .int k,.int k' n=>match V7 k k' with
  |true=>some (.int k (O.lit k n))
  |false=>none
 | .bool,.bool b=>some (.bool (match b with|true=>O.m|false=>O.h))
 | .str,.string s=>some (.str (O.u s))
 | .sl e,.slice none 0 0=>match AW P e with
  |some _=>some (.nil e)
  |none=>none
 | .ptr,.pointer none=>some .nilptr
 | .sl e,.pointer none=>(match Nat.blt e ptB with|true=>none|false=>some (.imm e true O.s))
 | .opq,.slice none 0 0=>some (.opq true (O.lit .i64 0))
 |_,_=>none
def TA:List TypeId→List Value→Option (List (AC O))
 | [],[]=>some []
 |t::ts,v::vs=>match XR P t v,TA ts vs with
  |some a,some r=>some (a::r)
  |_,_=>none
 |_,_=>none
def RC (t:TypeId) (v:Value):Option (Val O):=match v with
 | .agg cs=>match AW P t with
  |some ts=>match TA P ts cs.toList with
   |some l=>some { agg:=true,cs:=l }
   |none=>none
  |none=>none
 |v=>match XR P t v with
  |some c=>some { agg:=false,cs:=[c] }
  |none=>none
def PA (t:TypeId):Option (Val O):=match P.info? t with
 |some i=>match i.zero with
  |some v=>RC P t v
  |none=>none
 |none=>none
def QG (nw:Bool) (l:O.L) (i:O.I):Nat→List TypeId→Option (List (AC O))
 |_,[]=>some []
 |j,t::ts=>match QG nw l i (j+1) ts with
  |none=>none
  |some r=>match AK P t with
   | .int k=>some (.int k (O.r l i j)::r)
   | .bool=>some (.bool (O.rB l i j)::r)
   | .str=>some (.str (O.rS l i j)::r)
   | .sl e=>some (.imm e nw (O.rL l i j)::r)
   | .opq=>some (.opq nw (O.r l i j)::r)
   |_=>none
def A0 (own:Nat→Bool) (nw:Bool) (c:O.C):Nat→Nat→List TypeId→Option (List (AC O)×List (Nat×HEnt O))
 |_,_,[]=>some ([],[])
 |j,q,t::ts=>match AK P t with
  | .int k=>(A0 own nw c (j+1) q ts).map fun (r,h)=>(.int k (O.c c j)::r,h)
  | .bool=>(A0 own nw c (j+1) q ts).map fun (r,h)=>(.bool (O.p c j)::r,h)
  | .str=>(A0 own nw c (j+1) q ts).map fun (r,h)=>(.str (O.cS c j)::r,h)
  | .sl e=>match own e with
   |true=>(A0 own nw c (j+1) (q+1) ts).map fun (r,h)=>(.own e q::r,(q,{ e,frozen:=false,nw,l:=O.k c j,dirty:=true })::h)
   |false=>(A0 own nw c (j+1) q ts).map fun (r,h)=>(.imm e nw (O.k c j)::r,h)
  | .opq=>(A0 own nw c (j+1) q ts).map fun (r,h)=>(.opq nw (O.c c j)::r,h)
  |_=>none
def AAK:List TypeId→Option (List O.Lf)
 | []=>some []
 |t::ts=>match AAK ts with
  |none=>none
  |some r=>match AK P t with
   | .int k=>some (.int (O.lit k 0)::r)
   | .bool=>some (.bool O.h::r)
   | .str=>some (.str (O.u ByteArray.empty)::r)
   | .sl _=>some (.rows O.s::r)
   | .opq=>some (.int (O.lit .i64 0)::r)
   |_=>none
end
def eW:List (Nat×Bool)→List (Nat×Bool)→Bool
 | [],_=>true
 |(n,b)::r,ctx=>match ctx.any (fun (m,c)=>Nat.beq n m&&(b==c))with
  |true=>eW r ctx
  |false=>false
inductive StepRes (O:Alg) where
 |plain (as:List O.B) (w:Wr O)
 |call (g:Option O.B) (f:FuncId) (fns:List Nat) (args:List O.Lf) (dflt:List O.Lf) (next:O.C→Option (Wr O))
 |inl (f:FuncId) (args:List (AV O))
 |inlg (g:O.B) (f:FuncId) (args:List (AV O)) (w:Wr O)
structure CI where
 f:FuncId
 fns:List Nat
 own:Bool
 nw:Bool
 gives:List Bool:=[]
 sk:List Nat:=[]
def CI.ow (ci:CI) (e:Nat):Bool:=ci.own&&(Nat.blt e ptB && !CT e ci.sk)
structure Cfg where
 gam:List CI
 imm:Bool:=false
 old:Bool:=false
 ie:List Nat:=[]
 stop:List Nat:=[]
 shf:List (Nat×Nat):=[]
def W8:List CI→Nat→List Nat→Option CI
 | [],_,_=>none
 |c::l,f,fns=>match Nat.beq c.f f&&AR c.fns fns with
  |true=>some c
  |false=>W8 l f fns
section
variable {O:Alg} (P:Program) (cfg:Cfg)
def one (c:AC O):AV O:=.val { agg:=false,cs:=[c] }
def ev (ctx:List (Nat×Bool)) (T:TypeId):Operand→RM O (AV O)
 | .tmp n=>.t n fun
  |some tv=>match eW tv.gs ctx with
   |true=>.ret tv.v
   | false => .fail "a guarded temporary"
  | none => .fail "no such temporary"
 | .const v=>match RC P T v with
  |some v=>.ret (.val v)
  | none => .fail "a constant"
 | .func f=>.ret (one (.fn f []))
 | .global _ => .fail "a global"
def evV (ctx:List (Nat×Bool)) (T:TypeId) (x:Operand):RM O (Val O):=(ev P ctx T x).bind fun
 | .val v=>.ret v
 | .tup _ => .fail "a tuple"
def evC (ctx:List (Nat×Bool)) (T:TypeId) (x:Operand):RM O (AC O):=(evV P ctx T x).bind fun v =>
 match v.agg,v.cs with
 |false,[c]=>.ret c
 | _, _ => .fail "not one cell"
def evI (ctx:List (Nat×Bool)):Operand→RM O (O.I)
 | .const (.int k n)=>.ret (O.lit k n)
 | .tmp n=>.t n fun
  |some tv=>match eW tv.gs ctx,tv.v with
   |true,.val ⟨false,[.int _ i]⟩=>.ret i
   | _, _ => .fail "no integer"
  | none => .fail "no such temporary"
 | _ => .fail "no integer"
def Wg:List (Nat×Bool)→RM O (Option O.B)
 | []=>.ret none
 |(n,want)::r=>.t n fun
  |some ⟨_,.val ⟨false,[.bool b]⟩⟩=>(Wg r).bind fun g =>
   let c:=match want with|true=>b|false=>O.g b
   .ret (some (match g with|none=>c|some g=>O.aa g c))
  | _ => .fail "no guard"
def YM (ops:List Oper) (o:Oper):RM O (List (Nat×Bool)):=match o.guard with
 |none=>.ret []
 |some (j,want)=>match(ops[j]?).bind (·.dst)with
  |some d=>.t d fun
   |some tv=>.ret ((d,want)::tv.gs)
   | none => .fail "no such guard"
  | none => .fail "a guard without a value"
def lQ (g:Option O.B) (a:O.B):O.B:=match g with
 |none=>a
 |some g=>O.g (O.aa g (O.g a))
def gQ (b:O.B):AC O→AC O→Option (AC O)
 | .int k x,.int k' y=>match V7 k k' with
  |true=>some (.int k (O.af b x y))
  |false=>none
 | .bool x,.bool y=>some (.bool (O.i b x y))
 | .str x,.str y=>some (.str (O.av b x y))
 | .imm e nw x,.imm e' nw' y=>match Nat.beq e e' with
  |true=>some (.imm e (nw&&nw') (O.ar b x y))
  |false=>none
 |_,_=>none
def Fw (b:O.B):List (AC O)→List (AC O)→Option (List (AC O))
 | [],[]=>some []
 |x::xs,y::ys=>match gQ b x y,Fw b xs ys with
  |some c,some r=>some (c::r)
  |_,_=>none
 |_,_=>none
def ACB (op:BinOp) (a b:O.I):Option O.B:=match op with
 | .eql=>some (O.e a b)
 | .neq=>some (O.g (O.e a b))
 | .lss=>some (O.n a b)
 | .leq=>some (O.w a b)
 | .gtr=>some (O.n b a)
 | .geq=>some (O.w b a)
 |_=>none
def eqC:AC O→AC O→Option O.B
 | .int k a,.int k' b=>match V7 k k' with
  |true=>some (O.e a b)
  |false=>none
 | .bool a,.bool b=>some (O.aq a b)
 | .str a,.str b=>some (O.ao a b)
 |_,_=>none
def Kb:List (AC O)→List (AC O)→Option O.B
 | [],[]=>some O.m
 | [x],[y]=>eqC x y
 |x::xs,y::ys=>match eqC x y,Kb xs ys with
  |some a,some r=>some (O.aa a r)
  |_,_=>none
 |_,_=>none
def Wd:LK→AC O→Bool
 | .int k,.int k' _=>V7 k k'
 | .bool,.bool _=>true
 | .str,.str _=>true
 |_,_=>false
def Co:List TypeId→List (AC O)→Bool
 | [],[]=>true
 |t::ts,c::cs=>match Wd (AK P t) c with
  |true=>Co ts cs
  |false=>false
 |_,_=>false
def Xv:Nat→List Field→Bool
 |_,[]=>true
 | off, f :: fs => match Nat.beq f.offset off && (f.name != "_") with
  |true=>Xv (off+P.cellsOf f.type) fs
  |false=>false
def RB:Option (List Nat)→Option (List Nat)→Bool
 |some a,some b=>AR a b
 |_,_=>false
def X9:Nat→TypeId→Bool
 |0,_=>false
 |n+1,t=>match P.underlying t with
  |some .bool|some (.int _)|some .string=>RB (AW P t) (some [t])
  |some (.struct fs) => !P.stoodInHeld t&&Xv P 0 fs.toList&&fs.toList.all (fun f=>X9 n f.type)&&RB (AW P t) (P6 (fs.toList.map fun f=>AW P f.type))
  |some (.array k e)=>X9 n e&&RB (AW P t) ((AW P e).map (FF k))
  |_=>false
def Ip:Operand→Bool
 | .const (.int _ n) => !(n==0)
 |_=>false
def kJ:AC O→RM O (O.Lf×List (Nat×Option (HEnt O))×Bool)
 | .int _ i=>.ret (.int i,[],true)
 | .bool b=>.ret (.bool b,[],true)
 | .str s=>.ret (.str s,[],true)
 | .nil _=>.ret (.rows O.s,[],true)
 | .imm _ nw l=>.ret (.rows l,[],nw)
 | .opq nw n=>.ret (.int n,[],nw)
 | .own _ id=>.h id fun
  |some h=>.ret (.rows h.l,[(id,some { h with frozen:=true,dirty:=true })],h.nw)
  | none => .fail "a slice that is gone"
 | _ => .fail "no data"
def JI:List (AC O)→RM O (List O.Lf×List (Nat×Option (HEnt O))×Bool)
 | []=>.ret ([],[],true)
 |c::r=>(kJ c).bind fun (a,h,n)=>(JI r).bind fun (as,hs,ns)=>.ret (a::as,h++hs,n&&ns)
def D1 {α:Type}:List α→Nat→List α→Option (List α)
 |l,_,[]=>some l
 | [],_,_::_=>none
 |x::l,0,y::ys=>(D1 l 0 ys).map (y::·)
 |x::l,n+1,ys=>(D1 l n ys).map (x::·)
def Ft {α:Type} (l:List α) (off n:Nat):Option (List α) :=
 let r:=(l.drop off).take n
 match Nat.beq r.length n with
 |true=>some r
 |false=>none
def Sy (f:Nat→Option (List (AC O))) (i:O.I):Nat→Option (List (AC O))
 |0=>f 0
 |k+1=>match Sy f i k,f (k+1)with
  |some r,some c=>Fw (O.e i (O.lit .i64 ((k+1:Nat):Int))) c r
  |_,_=>none
def ru (off sz inner:Nat) (i:O.I) (v:List (AC O)):Nat→List (AC O)→Option (List (AC O))
 |0,cs=>some cs
 |k+1,cs=>match Ft cs (off+k*sz+inner) v.length with
  |none=>none
  |some old=>match Fw (O.e i (O.lit .i64 (k:Int))) v old with
   |none=>none
   |some new=>match D1 cs (off+k*sz+inner) new with
    |none=>none
    |some cs=>ru off sz inner i v k cs
def qO (T:TypeId):AC O→RM O (List (AC O))
 | .ptr b off=>.b b fun
  | some e => RM.ofOpt "load" (Ft e.cs off (P.cellsOf T))
  | none => .fail "no such variable"
 | .aptr b off n sz i inner=>.b b fun
  |some e =>
   match n with
   | 0 => .fail "an array of no elements"
   | n + 1 => RM.ofOpt "load of an element" (Sy (fun k => Ft e.cs (off + k * sz + inner) (P.cellsOf T)) i n)
  | none => .fail "no such variable"
 | .eptr id i off=>.h id fun
  |some h=>match W9 P h.e off T with
   | some ts => RM.ofOpt "load of a row" (QG P h.nw h.l i off ts)
   | none => .fail "a row of another type"
  | none => .fail "a slice that is gone"
 | .iptr e nw l i off=>match W9 P e off T with
  | some ts => RM.ofOpt "load of a row" (QG P nw l i off ts)
  | none => .fail "a row of another type"
 | _ => .fail "load no address"
def bD:AC O→RM O (TypeId×O.L×Bool)
 | .nil e=>.ret (e,O.s,true)
 | .imm e nw l => (match Nat.blt e ptB with | true => .ret (e, l, nw) | false => .fail "no slice")
 | .own _ id=>.h id fun
  |some h=>.ret (h.e,h.l,h.nw)
  | none => .fail "a slice that is gone"
 | _ => .fail "no slice"
def S8 (T:TypeId) (f:Nat):Option Field:=match P.underlying T with
 |some (.struct fs)=>fs.toList[f]?
 |_=>none
def UO (n:Nat):AC O→Option (AC O)
 | .ptr b off=>some (.ptr b (off+n))
 | .aptr b off m sz i inner=>some (.aptr b off m sz i (inner+n))
 | .eptr id i off=>some (.eptr id i (off+n))
 | .iptr e nw l i off=>some (.iptr e nw l i (off+n))
 |_=>none
def cK (place:Nat→Option (Nat×TypeId)) (ctx:List (Nat×Bool)):List (Nat×Operand)→List (AC O)→RM O (List (AC O))
 | [],cs=>.ret cs
 |(i,x)::r,cs=>match place i with
  | none => .fail "no such part"
  | some (off, T) => (evV P ctx T x).bind fun v => (RM.guard (Nat.beq v.cs.length (P.cellsOf T) && Nat.blt 0 v.cs.length) "a part of another size").bind fun _ =>
   match D1 cs off v.cs with
   |some cs=>cK place ctx r cs
   | none => .fail "a part that does not fit"
def Ja {α:Type} (n:Nat):Nat→List α→List (List α)
 |0,_=>[]
 |k+1,l=>l.take n::Ja n k (l.drop n)
def oY:List (List (AC O))→RM O (List (List O.Lf)×List (Nat×Option (HEnt O))×Bool)
 | []=>.ret ([],[],true)
 |c::r=>(JI c).bind fun (a,h,n)=>(oY r).bind fun (as,hs,ns)=>.ret (a::as,h++hs,n&&ns)
def fK (lt:O.I→O.I→O.B):AC O→List (AC O)→Option (AC O)
 |c,[]=>some c
 | .int k x,.int k' y::r=>match V7 k k' with
  |true=>fK lt (.int k (O.af (lt y x) y x)) r
  |false=>none
 |_,_=>none
def vw (ctx:List (Nat×Bool)) (T:TypeId):List Operand→RM O (List (AC O))
 | []=>.ret []
 |x::r=>(evC P ctx T x).bind fun c=>(vw ctx T r).bind fun l=>.ret (c::l)
def fP:AC O→Bool
 | .int _ _ | .bool _ | .str _ | .nil _=>true
 |_=>false
def BJ:LK→AC O→Bool
 | .int k,.int k' _=>V7 k k'
 | .bool,.bool _=>true
 | .str,.str _=>true
 | .sl e,.nil e'=>Nat.beq e e'
 | .sl e,.imm e' _ _=>Nat.beq e e'
 | .sl e,.own e' _=>Nat.beq e e'
 | .opq,.opq _ _=>true
 |_,_=>false
def AX:List TypeId→List (AC O)→Bool
 | [],[]=>true
 |t::ts,c::cs=>match BJ (AK P t) c with
  |true=>AX ts cs
  |false=>false
 |_,_=>false
def K0 (ts:List TypeId):List (List (AC O))→Bool
 | []=>true
 |r::rs=>match AX P ts r with
  |true=>K0 ts rs
  |false=>false
def fF:Operand→Operand→Bool
 | .tmp a,.tmp b=>Nat.beq a b
 | .const (.int _ a),.const (.int _ b)=>decide (a=b)
 |_,_=>false
def Vv:List (AC O)→Bool
 | []=>true
 | .any _::_=>false
 |_::r=>Vv r
def jM (T:TypeId):List (AC O)→List (AC O)
 | [.nilptr,.nil e]=>[.any T,.nil e]
 |cs=>cs
def uU (T:TypeId) (v:List (AC O)):AC O→RM O (Wr O)
  | .ptr b off=>.b b fun
    | some e => (RM.guard (Nat.beq v.length (P.cellsOf T) && Nat.blt 0 v.length) "store size").bind fun _ =>
      (RM.ofOpt "store" (D1 e.cs off v)).bind fun cs => (RM.guard (Vv cs) "store").bind fun _ => .ret { bs := [(b, some { cs, dirty := true })] }
    | none => .fail "no such variable"
  | .aptr b off n sz i inner=>.b b fun
    |some e =>
      (RM.guard (Nat.beq v.length (P.cellsOf T) && Nat.blt 0 v.length) "store size").bind fun _ =>
      (RM.ofOpt "store of an element" (ru off sz inner i v n e.cs)).bind fun cs => (RM.guard (Vv cs) "store").bind fun _ => .ret { bs := [(b, some { cs, dirty := true })] }
    | none => .fail "no such variable"
  | .eptr id i off=>.h id fun
    | some h => (RM.guard (!h.frozen) "a store into a shared slice").bind fun _ =>
      match W9 P h.e off T with
      | some ts => (RM.guard (Nat.beq v.length ts.length && Nat.beq v.length (P.cellsOf T)) "store size").bind fun _ =>
        (JI v).bind fun (ls, fr, nw) => (RM.guard (AX P ts v && !CT id (fr.map (·.1))) "store kinds").bind fun _ =>
          .ret { hs:=fr++[(id,some { h with l:=O.x h.l i off ls,nw:=h.nw&&nw,dirty:=true })] }
      | none => .fail "a row of another type"
    | none => .fail "a slice that is gone"
  | _ => .fail "store no address"
def pw (ctx:List (Nat×Bool)):List Operand→RM O (List (Cap O))
 | []=>.ret []
 |x::r=>(evC P ctx 0 x).bind fun
  | .ptr b off=>(pw ctx r).bind fun l=>.ret (.box b off::l)
  | _ => .fail "makeFunc captured"
def Xs (ctx:List (Nat×Bool)):List TypeId→List Operand→RM O (List (AV O))
 | [],[]=>.ret []
 |t::ts,x::xs=>(ev P ctx t x).bind fun v=>(Xs ctx ts xs).bind fun r=>.ret (v::r)
 | _, _ => .fail "arguments"
def W7 (used:List Nat):List (AC O)→RM O (List O.Lf×List Nat)
 | []=>.ret ([],used)
 | .own _ id::r=>.h id fun
  |some h=>match !h.frozen && !CT id used with
   |true=>(W7 (id::used) r).bind fun (ls,u)=>.ret (.rows h.l::ls,u)
   | false => .fail "a slice that cannot be handed over"
  | none => .fail "a slice that is gone"
 | .imm _ _ _ :: _ | .opq _ _ :: _ => .fail "a shared slice cannot be handed over"
 |c::r=>(kJ c).bind fun (l,_,_)=>(W7 used r).bind fun (ls,u)=>.ret (l::ls,u)
def xt:AC O→Bool
 | .ptr .. | .aptr .. | .eptr .. | .iptr .. | .fn .. | .nilptr | .tail .. | .any ..=>false
 |_=>true
def IV:List (AV O)→Option (List Nat)
 | []=>some []
 | .val ⟨false,[.fn f _]⟩::r=>(IV r).map (f::·)
 | .val ⟨false,[.ptr _ _]⟩::r=>IV r
 | .val v::r=>match v.cs.all xt with
  |true=>IV r
  |false=>none
 | .tup _::_=>none
def kd (n:Nat):List Oper→Option TypeId
 | []=>none
 |o::r=>match o.op with
  | .load T (.tmp m) | .fieldAddr T (.tmp m) _=>match Nat.beq m n with
   |true=>some T
   |false=>kd n r
  |_=>kd n r
def orT:Option TypeId→Option TypeId→Option TypeId
 |some t,_=>some t
 |none,x=>x
def jB (n:Nat):Code→Option TypeId
 | .region _ ops _=>kd n ops.toList
 | .seq a b | .cond _ a b=>orT (jB n a) (jB n b)
 | .block _ b | .loop b | .scope b=>jB n b
 |_=>none
def uZ (b:Code):Nat→Nat→Option (List TypeId)
 |_,0=>some []
 |n,k+1=>match jB n b,uZ b (n+1) k with
  |some t,some r=>some (t::r)
  |_,_=>none
def vk (P:Program) (f:FuncId):Option (List TypeId):=match P.funcs[f]? with
 |some fn=>match fn.nfree with
  |0=>some []
  |k+1=>match fn.body with
   |some b=>uZ b fn.params.size (k+1)
   |none=>none
 |none=>none
def o9 (T:TypeId):Nat→List TypeInfo→Option TypeId
 |_,[]=>none
 |i,x::r=>match x.desc with
  | .slice e=>match Nat.beq e T with
   |true=>some i
   |false=>o9 T (i+1) r
  |_=>o9 T (i+1) r
def vO (P:Program) (T:TypeId):Bool:=match o9 T 0 P.types.toList with
 |some t=>(match AK P t with | .sl e=>Nat.beq e T|_=>false)
 |none=>false
def j8:AC O→Bool
 | .int _ _ | .bool _ | .str _=>true
 |_=>false
def sC:List TypeId→List (Cap O)→RM O (List O.Lf)
  | [],[]=>.ret []
  |T::ts,.box b off::r=>.b b fun
    |some e=>match AW P T,Ft e.cs off (P.cellsOf T)with
      | some l, some cs => (RM.guard (AX P l cs && cs.all j8 && vO P T) "a variable that is taken along").bind fun _ =>
        (JI cs).bind fun (ls,_,_)=>(sC ts r).bind fun more=>.ret (.rows (O.y [ls])::more)
      | _, _ => .fail "a variable that is taken along"
    | none => .fail "no such variable"
  | _, _ => .fail "what is taken along"
def Fx:List TypeId→List O.Lf→Option (List (Cap O)×List O.Lf)
 | [],ls=>some ([],ls)
 |t::ts,.rows l::ls=>(Fx ts ls).map fun (c,r)=>(.row t l::c,r)
 |_::_,_=>none
def qj (t:TypeId) (b off:Nat):RM O (O.Lf×List (Nat×Option (HEnt O))):=match AK P t with
  | .sl e=>.b b fun
    |some en=>match AW P (e-ptB),Ft en.cs off (P.cellsOf (e-ptB))with
      | some l, some cs => (RM.guard (Nat.ble ptB e && (AX P l cs && (match AK P e with | .sl e' => Nat.beq e' (e - ptB) | _ => false))) "a variable that is handed over").bind fun _ =>
        (JI cs).bind fun (ls,fr,_)=>.ret (.rows (O.y [ls]),fr)
      | _, _ => .fail "a variable that is handed over"
    | none => .fail "no such variable"
  | _ => .fail "an address"
def Mr:List Bool→List TypeId→List Nat→List (AV O)→RM O (List O.Lf×List (Nat×Option (HEnt O))×List Nat)
 |_,_,used,[]=>.ret ([],[],used)
 | gv, pt, used, .val ⟨false, [.fn f caps]⟩ :: r => (RM.ofOpt "what is taken along" (vk P f)).bind fun ts => (sC P ts caps).bind fun cl => (Mr gv.tail pt.tail used r).bind fun (ls', fr', u') => .ret (cl ++ ls', fr', u')
 | gv, pt, used, .val ⟨false, [.ptr b off]⟩ :: r => (RM.guard (!gv.headD false) "an address that is handed over").bind fun _ => (qj P (pt.headD 0) b off).bind fun (l, fr) => (Mr gv.tail pt.tail used r).bind fun (ls', fr', u') => .ret (l :: ls', fr ++ fr', u')
 |gv,pt,used,.val v::r=>match gv.headD false with
  |true=>(W7 used v.cs).bind fun (ls,u)=>(Mr gv.tail pt.tail u r).bind fun (ls',fr,u')=>.ret (ls++ls',fr,u')
  |false=>(JI v.cs).bind fun (ls,fr,_)=>(Mr gv.tail pt.tail used r).bind fun (ls',fr',u')=>.ret (ls++ls',fr++fr',u')
 | _, _, _, .tup _ :: _ => .fail "arguments"
def ij (used:List Nat):List (Nat×Option (HEnt O))→Bool
 | []=>true
 |(n,_)::r => !CT n used&&ij used r
def Br (own:Nat→Bool) (nw:Bool) (c:O.C):Nat→Nat→List TypeId→Option (List (Val O)×List (Nat×HEnt O))
 |_,_,[]=>some ([],[])
 |j,q,t::ts=>match AW P t with
  |none=>none
  |some l=>match A0 P own nw c j q l with
   |none=>none
   |some (cs,h)=>match Br own nw c (j+l.length) (q+h.length) ts with
    |none=>none
    |some (vs,hs)=>some ({ agg:=Ag P t,cs }::vs,h++hs)
def LI:List (Val O)→AV O
 | [v]=>.val v
 |vs=>.tup vs
def LL (P:Program):List TypeId→Option (List TypeId)
 | []=>some []
 |t::ts=>match AW P t,LL P ts with
  |some a,some r=>some (a++r)
  |_,_=>none
def cQ (P:Program):List TypeId→Nat
 | []=>0
 |t::ts=>(match AK P t with | .sl _ | .opq=>1|_=>0)+cQ P ts
def iV (P:Program) (e:TypeId):Bool:=match AW P e with
 |some l=>Nat.beq (cQ P l) 0
 |none=>false
def BW (P:Program) (o:Oper):Nat:=match o.op with
 | .call c=>match c.callee with
  | .builtin _=>1
  |_=>16
 | .alloc _ | .box _ _ | .buildSlice _ _ _ | .makeSlice _ _ _ | .convert _ _ _ | .slice _ _ _ _ _=>1
 | .makeMap _ _ | .mapUpdate _ _ _ _ | .lookup _ _ _ _=>1
 |_=>0
def Gw:List TypeId→List (AV O)→Bool
 | [],[]=>true
 |t::ts,v::vs=>(match AK P t,v with
  | .fn,.val ⟨false,[.fn _ _]⟩=>true
  | .fn,_=>false
  |_,.val ⟨false,[.fn _ _]⟩=>false
  | .sl _,.val ⟨false,[.ptr _ _]⟩=>(match AW P t with|some [u]=>Nat.beq u t|_=>false)
  |_,.val ⟨false,[.ptr _ _]⟩=>false
  |_,.val v=>match AW P t with
   |some l=>v.agg==Ag P t&&AX P l v.cs
   |none=>false
  |_,.tup _=>false)&&Gw ts vs
 |_,_=>false
def UG:List (AV O)→Bool
 | []=>true
 | .val ⟨false,[.fn _ (_::_)]⟩::_=>false
 | .val ⟨false,[.ptr _ _]⟩::_=>false
 |_::r=>UG r
def AAG {α:Type} (g:Option α) (b:Nat→Bool):Nat→Bool:=match g with
 |none=>b
 |some _=>fun _=>false
def Q7 (cfg:Cfg) (g:Option O.B):Option O.B:=match CT 60004 cfg.ie,g with
 |true,none=>some O.m
 |_,g=>g
def gK (cfg:Cfg) (ci:CI):CI:=match CT 60005 cfg.ie with
 |true=>{ ci with sk:=ci.sk++cfg.ie }
 |false=>ci
def qy (ctx:List (Nat×Bool)) (g:Option O.B) (id:Nat) (d:Option Nat) (ci:CI) (fn:Func) (fr:List (Nat×Option (HEnt O))) (u:List Nat):O.C→Option (Wr O):=fun c =>
 match Br P (AAG g ci.ow) ci.nw c 0 id fn.resultTypes.toList with
  |none=>none
  |some (vs,nh)=>match Nat.ble nh.length 16 with
   |true=>some { ts:=match d with|some d=>[(d,some ⟨ctx,LI vs⟩)]|none=>[],hs:=(match ci.nw with|true=>[]|false=>fr)++(u.map (fun n=>(n,none))++nh.map fun (n,h)=>(n,some h)) }
   |false=>none
def jh (gives:List Bool):Bool:=Nat.blt 8 gives.length
def cT (gives:List Bool) (used:List Nat) (fr:List (Nat×Option (HEnt O))):Bool:=ij used fr&&(!jh gives||used.isEmpty)
def kN (ctx:List (Nat×Bool)) (g:Option O.B) (d:Option Nat) (f:FuncId) (args:List (AV O)):RM O (StepRes O):=match CT f cfg.stop with
 | true => .fail "a function that is not entered"
 |false=>match g,ctx,d with
  |none,_,_=>.ret (.inl f args)
  |some b,[_],some d=>match(P.funcs[f]?).bind fun fn=>(match fn.resultTypes.toList with | [t]=>PA P t|_=>none)with
   |some z=>.ret (.inlg b f args { ts:=[(d,some ⟨ctx,.val z⟩)] })
   | none => .fail "a call under a guard that has no contract"
  | some _, _, _ => .fail "a call under a guard that has no contract"
def fJ (ctx:List (Nat×Bool)) (g:Option O.B) (id:Nat) (d:Option Nat) (f:FuncId) (caps:List (Cap O)) (args:List (AV O)):RM O (StepRes O) :=
  let inl:RM O (StepRes O):=kN P cfg ctx g d f (args++caps.map fun c=>one c.ac)
  match caps with
  |_::_=>inl
  | []=>match IV args with
    |none=>inl
    |some fns=>match(W8 cfg.gam f fns).map (gK cfg)with
      |none=>inl
      |some ci=>match P.funcs[f]? with
        | none => .fail "no such function"
        | some fn => (RM.guard (fn.body.isSome && !(fn.name == "runtime.NumGoroutine") && (Gw P fn.params.toList args && (ci.nw || UG args))) "a callee").bind fun _ =>
          (Mr P ci.gives fn.params.toList [] args).bind fun (ls,fr,used)=>match(LL P fn.resultTypes.toList).bind (AAK P),cT ci.gives used fr with
          |some dm,true=>.ret (.call g f fns ls dm (qy P ctx (Q7 cfg g) id d ci fn fr used))
          | _, _ => .fail "a result that is no data"
abbrev Lz (O:Alg):=List O.B×AV O×List (Nat×Option (HEnt O))
def okP (as:List O.B) (v:AV O):RM O (Lz O):=.ret (as,v,[])
def Qp (T:TypeId) (n:Nat):Bool:=(P.underlying T).isSome&&(Ag P T||Nat.beq n 1)
def V6 (e:TypeId):Bool:=Nat.ble ptB e&&(AW P e).isNone
def Oe (c:AC O):List O.B×AC O:=match c with
 | .imm e nw l=>(match V6 P e with|false=>([],.imm e nw l)|true=>([O.q (O.lit .i64 0) (O.j l)],.iptr (e-ptB) nw l (O.lit .i64 0) 0))
 |c=>([],c)
def ur (op:BinOp) (T:TypeId) (y:Operand) (a:Val O):Option O.B:=match y,a.agg,a.cs,AK P T with
 | .const (.pointer none),false,[.imm e _ l],.sl e'=>(match Nat.beq e e'&&V6 P e,op with
  |true,.eql=>some (O.e (O.j l) (O.lit .i64 0))
  |true,.neq=>some (O.g (O.e (O.j l) (O.lit .i64 0)))
  |_,_=>none)
 |_,_,_,_=>none
def qS (op:BinOp) (T:TypeId) (y:Operand) (a:Val O):Option O.B:=match P.underlying T,y,a.agg,a.cs with
 |some (.pointer _),.const (.pointer none),false,[.ptr _ _]=>(match op with
  | .eql=>some O.h
  | .neq=>some O.m
  |_=>none)
 |_,_,_,_=>none
def qg (ty:TypeId):AV O→Option (List O.B×AV O)
 | .val ⟨false,[.iptr e nw l i off]⟩=>(match AK P ty with
  | .sl e'=>(match Nat.beq e' (e+ptB)&&Nat.beq off 0 with
   |true=>some ([O.ab i 1],one (.imm e' nw (O.ag l i (O.o .i64 i (O.lit .i64 1)))))
   |false=>none)
  |_=>none)
 |_=>none
def xX (ctx:List (Nat×Bool)) (ty:TypeId) (n:Nat) (a b:Operand):RM O (Lz O):=.t n fun
  |some tv=>match eW tv.gs ctx,tv.v with
    |true,.val ⟨false,[.bool c]⟩ =>
      (evV P ((n,true)::ctx) ty a).bind fun x=>(evV P ((n,false)::ctx) ty b).bind fun y =>
      match x.agg==y.agg,Fw c x.cs y.cs with
      |true,some cs=>okP [] (.val { agg:=x.agg,cs })
      | _, _ => .fail "pick"
    | _, _ => .fail "pick no bool"
  | none => .fail "no such temporary"
def AAT:BinOp→Option Nat
 | .and=>some 0
 | .or=>some 1
 | .xor=>some 2
 | .andNot=>some 3
 |_=>none
def ACW:BinOp→Option Bool
 | .shl=>some true
 | .shr=>some false
 |_=>none
def cJ:Operand→Bool
 | .const (.int _ n)=>decide (0≤n)
 |_=>false
def vW (op:BinOp) (T:TypeId) (y:Operand) (a b:Val O):RM O (Lz O):=match a.agg,b.agg,a.cs,b.cs with
  |false,false,[.int k i],[.int k' j]=>match ACW op with
   |some l=>okP (match cJ y with|true=>[]|false=>[O.w (O.lit k' 0) j]) (one (.int k (O.au l k i j)))
   |none=>match V7 k k' with
    | false => .fail "operands of different kinds"
    |true=>match AAT op with
     |some c=>okP [] (one (.int k (O.ba c k i j)))
     |none=>match op with
      | .add=>okP [] (one (.int k (O.o k i j)))
      | .sub=>okP [] (one (.int k (O.v k i j)))
      | .mul=>okP [] (one (.int k (O.al k i j)))
      | .quo=>okP (match Ip y with|true=>[]|false=>[O.g (O.e j (O.lit k 0))]) (one (.int k (O.bd k i j)))
      | .rem=>okP (match Ip y with|true=>[]|false=>[O.g (O.e j (O.lit k 0))]) (one (.int k (O.as k i j)))
      |op=>match ACB op i j with
        |some c=>okP [] (one (.bool c))
        | none => .fail "an operator on integers"
  |false,false,[.str s],[.str t]=>match op with
    | .eql=>okP [] (one (.bool (O.ao s t)))
    | .neq=>okP [] (one (.bool (O.g (O.ao s t))))
    | .lss=>okP [] (one (.bool (O.bf s t)))
    | .add=>okP [O.ab (O.aj s) 1,O.ab (O.aj t) 1] (one (.str (O.aw s t)))
    | _ => .fail "an operator on strings"
  |p,q,xs,ys=>match AW P T with
    | none => .fail "an operator"
    |some ts=>match p==Ag P T&&q==Ag P T&&X9 P Dy T && !P.eqGuardType P.depth T&&Co P ts xs&&Co P ts ys,op,Kb xs ys with
      |true,.eql,some c=>okP [] (one (.bool c))
      |true,.neq,some c=>okP [] (one (.bool (O.g c)))
      | _, _, _ => .fail "an operator"
def mX (src dst:TypeId) (c:AC O):RM O (Lz O):=match P.underlying src with
 | none => .fail "convert"
 |some _=>match AK P dst,c with
  | .int k,.int _ i=>okP [] (one (.int k (O.am k i)))
  | .str,.str s=>okP [] (one (.str s))
  | .str,.int _ i=>okP [] (one (.str (O.be i)))
  | _, _ => .fail "convert"
def WH (T:TypeId) (p:AC O) (ix:Operand) (i:O.I):RM O (Lz O):=match P.underlying T with
 | some (.array n e) => (RM.guard (Nat.blt 0 (P.cellsOf e)) "indexAddr element").bind fun _ => match ix with
  | .const (.int _ c)=>match decide (0≤c∧c<n),UO (c.toNat*P.cellsOf e) p with
   |true,some p=>okP [] (one p)
   | _, _ => .fail "indexAddr"
  |_=>match p with
   | .ptr b off=>okP [O.q i (O.lit .i64 n)] (one (.aptr b off n (P.cellsOf e) i 0))
   | _ => .fail "indexAddr an array in an array"
 |some (.slice e)=>match p with
  | .own e' h => (bD (AC.own e' h : AC O)).bind fun (_, l, _) => (RM.guard (Nat.beq e e') "indexAddr element").bind fun _ =>
   okP [O.q i (O.j l)] (one (.eptr h i 0))
  | .imm e' nw l => (RM.guard (Nat.beq e e' && Nat.blt e ptB) "indexAddr element").bind fun _ => okP [O.q i (O.j l)] (one (.iptr e' nw l i 0))
  | .nil e=>okP [O.h] (one (.iptr e true O.s i 0))
  | _ => .fail "indexAddr no slice"
 | _ => .fail "indexAddr type"
def kD (T:TypeId) (v:Val O) (ix:Operand) (i:O.I):RM O (Lz O):=match P.underlying T,v.agg,v.cs with
 |some .string,false,[.str s]=>okP [O.q i (O.aj s)] (one (.int .u8 (O.bg s i)))
 |some (.array n e),true,cs=>match ix with
  | .const (.int _ c)=>match decide (0≤c∧c<n),Ft cs (c.toNat*P.cellsOf e) (P.cellsOf e)with
   | true, some cs => (RM.guard (Qp P e cs.length) "index size").bind fun _ => okP [] (.val { agg := Ag P e, cs })
   | _, _ => .fail "index"
  |_=>match n with
   | 0 => .fail "an array of no elements"
   |n+1=>match Sy (fun k=>Ft cs (k*P.cellsOf e) (P.cellsOf e)) i n with
    | some cs => (RM.guard (Qp P e cs.length) "index size").bind fun _ =>
     okP [O.q i (O.lit .i64 ((n+1:Nat):Int))] (.val { agg:=Ag P e,cs })
    | none => .fail "index of an array"
 | _, _, _ => .fail "index type"
def jb (ctx:List (Nat×Bool)) (d:O.I):Option Operand→RM O O.I
 |none=>.ret d
 |some x=>evI ctx x
def Tm:Option Operand→Bool
 |none=>true
 |some (.const (.int _ n))=>decide (n=0)
 |_=>false
def yW (ctx:List (Nat×Bool)) (e':TypeId) (c:AC O) (lo hi:Option Operand):RM O (Lz O) :=
  (bD c).bind fun (e, l, nw) => (RM.guard (Nat.beq e e' && Nat.blt e ptB) "slice").bind fun _ =>
  (jb ctx (O.lit .i64 0) lo).bind fun a=>(jb ctx (O.j l) hi).bind fun b=>match c with
  | .own _ h=>.h h fun
    |some en=>.ret ([O.ai a b (O.j l)],one (.imm e nw (O.ag l a b)),[(h,some { en with frozen:=true,dirty:=true })])
    | none => .fail "a slice that is gone"
  |_=>okP [O.ai a b (O.j l)] (one (.imm e nw (O.ag l a b)))
def kO (ctx:List (Nat×Bool)) (T:TypeId) (c:AC O) (lo hi mx:Option Operand):RM O (Lz O):=match mx with
 |some m=>match P.underlying T,c,Tm lo,Tm hi&&hi.isSome,Tm (some m)with
  |some (.slice e'),.imm e _ _,true,true,true=>match Nat.beq e e'&&Nat.blt e ptB with
   |true=>okP [] (one (.nil e))
   | false => .fail "slice"
  | _, _, _, _, _ => .fail "slice with three bounds"
 |none=>match P.underlying T with
  |some .string=>match c with
   | .str s=>(jb ctx (O.lit .i64 0) lo).bind fun l=>(jb ctx (O.aj s) hi).bind fun h =>
    okP [O.ai l h (O.aj s)] (one (.str (O.bh s l h)))
   | _ => .fail "slice"
  |some (.slice e')=>yW ctx e' c lo hi
  | _ => .fail "slice"
def Z8 (ctx:List (Nat×Bool)) (ty:TypeId):Op→RM O (Lz O)
  | .move x | .assign x=>(ev P ctx ty x).bind fun v=>match qg P ty v with
    |some (as,v)=>okP as v
    |none=>okP [] v
  | .pick (.tmp n) a b=>xX P ctx ty n a b
  | .build T parts=>match PA P T with
    | none => .fail "build"
    |some z=>match z.agg with
      | false => .fail "build"
      |true=>(match P.underlying T with
        | some (.struct fs) => (RM.guard (fs.toList.all fun f => (P.info? f.type).isSome) "build fields").bind fun _ =>
          cK P (fun i=>(fs.toList[i]?).map fun (f:Field)=>(f.offset,f.type)) ctx parts.toList z.cs
        | some (.array _ e) => (RM.guard (Nat.blt 0 (P.cellsOf e)) "build element").bind fun _ => cK P (fun i => some (i * P.cellsOf e, e)) ctx parts.toList z.cs
        | _ => .fail "build type").bind fun cs => okP [] (.val { agg := true, cs })
  | .load T a=>(evC P ctx T a).bind fun p0=>let (as,p):=Oe P p0;(qO P T p).bind fun cs =>
    (RM.guard (Qp P T cs.length) "load size").bind fun _ => okP as (.val { agg := Ag P T, cs })
  | .nilCheck x=>(evC P ctx ty x).bind fun p=>match p with
    | .ptr b off=>okP [] (one (.ptr b off))
    | .eptr i x off=>okP [] (one (.eptr i x off))
    | .iptr e nw l i off=>okP [] (one (.iptr e nw l i off))
    | .imm e nw l => (match V6 P e with | false => .fail "nilCheck" | true => okP [O.q (O.lit .i64 0) (O.j l)] (one (.iptr (e - ptB) nw l (O.lit .i64 0) 0)))
    | .aptr b off n sz i inner=>okP [] (one (.aptr b off n sz i inner))
    | _ => .fail "nilCheck"
  | .binOp op T x y yT=>(evV P ctx T x).bind fun a=>(match ur P op T y a with
    |some c=>okP [] (one (.bool c))
    |none=>match qS P op T y a with
      |some c=>okP [] (one (.bool c))
      |none=>(evV P ctx yT y).bind fun b=>vW P op T y a b)
  | .unOp op T x=>(evC P ctx T x).bind fun c=>match op,c with
    | .not,.bool b=>okP [] (one (.bool (O.g b)))
    | .neg,.int k i=>okP [] (one (.int k (O.v k (O.lit k 0) i)))
    | .xor,.int k i=>okP [] (one (.int k (O.ba 2 k (O.lit k (match k.signed with|true => -1|false=>k.max)) i)))
    | _, _ => .fail "a unary operator"
  | .convert src dst x=>(evC P ctx src x).bind fun c=>mX P src dst c
  | .extract x i=>(ev P ctx ty x).bind fun
    | .tup vs=>match vs[i]? with
      |some v=>okP [] (.val v)
      | none => .fail "extract"
    | .val _ => .fail "extract"
  | .field T x f=>(evV P ctx T x).bind fun v=>match S8 P T f with
    | none => .fail "field"
    |some fd=>match v.agg,Ft v.cs fd.offset (P.cellsOf fd.type)with
      | true, some cs => (RM.guard (Qp P fd.type cs.length) "field size").bind fun _ => okP [] (.val { agg := Ag P fd.type, cs })
      | _, _ => .fail "field"
  | .fieldAddr T x f=>(evC P ctx T x).bind fun p=>match S8 P T f with
    | none => .fail "fieldAddr"
    | some fd => let (as, p) := Oe P p; (RM.guard (!Nat.beq (P.cellsOf fd.type) 0) "a field of no size").bind fun _ => match UO fd.offset p with
      |some p=>okP as (one p)
      | none => .fail "fieldAddr no address"
  | .indexAddr T x ix=>(evC P ctx T x).bind fun p=>(evI ctx ix).bind fun i=>WH P T p ix i
  | .index T x ix=>(evV P ctx T x).bind fun v=>(evI ctx ix).bind fun i=>kD P T v ix i
  | .slice T x lo hi mx=>(evC P ctx T x).bind fun c=>kO P ctx T c lo hi mx
  | .makeFunc (.func f) first caps=>match first.toList with
    | []=>(pw P ctx caps.toList).bind fun l=>okP [] (one (.fn f l))
    | _ => .fail "makeFunc"
  | .call c=>match c.callee with
    | .builtin .len=>match c.args.toList,c.argTypes.toList with
      | [x],[T]=>match P.underlying T with
        |some (.array n _)=>okP [] (one (.int .i64 (O.lit .i64 n)))
        |some .string=>(evC P ctx T x).bind fun
          | .str s=>okP [] (one (.int .i64 (O.aj s)))
          | _ => .fail "len"
        |some (.slice _)=>(evC P ctx T x).bind fun v=>(bD v).bind fun (_,l,_)=>okP [] (one (.int .i64 (O.j l)))
        | _ => .fail "len"
      | _, _ => .fail "len"
    | .builtin .min=>(vw P ctx ty c.args.toList).bind fun
      |v::u::r=>match fK O.n v (u::r)with
        |some m=>okP [] (one m)
        | none => .fail "min"
      | _ => .fail "min"
    | .builtin .max=>(vw P ctx ty c.args.toList).bind fun
      |v::u::r=>match fK (fun a b=>O.n b a) v (u::r)with
        |some m=>okP [] (one m)
        | none => .fail "max"
      | _ => .fail "max"
    | _ => .fail "call"
  | _ => .fail "an operation"
abbrev ACM (O:Alg):=List O.B×AC O×Wr O
def KA (ctx:List (Nat×Bool)) (id:Nat):Op→RM O (ACM O)
  | .alloc T=>match PA P T with
    | some v => (RM.guard (Nat.beq v.cs.length (P.cellsOf T) && Vv v.cs) "alloc size").bind fun _ => .ret ([], .ptr id 0, { bs := [(id, some { cs := jM T v.cs, dirty := true })] })
    | none => .fail "alloc"
  | .box T x => (evV P ctx T x).bind fun v => (RM.guard (Vv v.cs) "a variable").bind fun _ => .ret ([], .ptr id 0, { bs := [(id, some { cs := v.cs, dirty := true })] })
  | .buildSlice T len parts=>match OQ P T with
    | none => .fail "buildSlice"
    |some e=>match PA P e,AW P e with
      | some z, some ts => (RM.guard (Nat.ble (len * P.cellsOf e) 100000 && Nat.beq z.cs.length (P.cellsOf e)) "buildSlice size").bind fun _ =>
        (cK P (fun i=>some (i*P.cellsOf e,e)) ctx parts.toList (FF len z.cs)).bind fun cs =>
        (oY (Ja (P.cellsOf e) len cs)).bind fun (rows, fr, nw) => (RM.guard (K0 P ts (Ja (P.cellsOf e) len cs)) "buildSlice kinds").bind fun _ =>
        .ret ([],.own e id,{ hs:=fr++[(id,some { e,frozen:=false,nw,l:=O.y rows,dirty:=true })] })
      | _, _ => .fail "buildSlice zero"
  | .makeSlice T len cap=>match OQ P T with
    | none => .fail "makeSlice"
    |some e=>match PA P e,P.info? e,AW P e with
      | some z, some ti, some ts => (evI ctx len).bind fun n => (RM.guard (fF len cap && K0 P ts [z.cs] && z.cs.all fP) "makeSlice cap").bind fun _ =>
        (JI z.cs).bind fun (ls,_,_) =>
        .ret ([O.ab n ti.bytes],.own e id,{ hs:=[(id,some { e,frozen:=false,nw:=true,l:=O.ap n ls,dirty:=true })] })
      | _, _, _ => .fail "makeSlice zero"
  | .call c=>match c.callee,c.args.toList,c.argTypes.toList with
    | .builtin .append,[x,y],[T,U]=>match OQ P T,OQ P U with
      | some e, some e' => (RM.guard (Nat.beq T U) "append types").bind fun _ => (evC P ctx T x).bind fun a => (evC P ctx U y).bind fun b =>
        (bD b).bind fun (eb,lb,nb') =>
        let nb:=nb'||iV P e
        match P.info? e,AW P e,PA (O:=O) P e with
        | some ti, some _, some z => (RM.guard (Nat.beq e eb && Nat.beq z.cs.length (P.cellsOf e)) "append elements").bind fun _ => match a with
          | .nil ea => (RM.guard (Nat.beq e ea) "append elements").bind fun _ =>
            .ret ([O.ab (O.j lb) ti.bytes],.own e id,{ hs:=[(id,some { e,frozen:=false,nw:=nb,l:=lb,dirty:=true })] })
          | .own ea i=>.h i fun
            | some h => (RM.guard (!h.frozen && Nat.beq e ea && Nat.beq e h.e) "append to a shared slice").bind fun _ =>
              .ret ([O.ab (O.j (O.ad h.l lb)) ti.bytes],.own e id,
                { hs:=[(i,none),(id,some { e,frozen:=false,nw:=h.nw&&nb,l:=O.ad h.l lb,dirty:=true })] })
            | none => .fail "append a slice that is gone"
          | _ => .fail "append to a slice that came in"
        | _, _, _ => .fail "append type"
      | _, _ => .fail "append types"
    | _, _, _ => .fail "call"
  | .convert src dst x=>(evC P ctx src x).bind fun c=>match AK P src,AK P dst,c with
    | .str,.sl e,.str s=>match AK P e,AW P e with
      | .int .u8,some [t]=>match AK P t,Nat.blt e ptB && !ptE P e with
        | .int .u8,true=>.ret ([],.imm e true (O.bb s),{})
        | _, _ => .fail "convert"
      | _, _ => .fail "convert"
    | _, _, _ => .fail "convert"
  | _ => .fail "an operation"
def uy:Op→Bool
 | .alloc _ | .box _ _ | .buildSlice _ _ _ | .makeSlice _ _ _=>true
 | .convert _ dst _=>match AK P dst with
  | .sl _=>true
  |_=>false
 | .call c=>match c.callee with
  | .builtin .append=>true
  |_=>false
 |_=>false
def fB:List (Nat×Option (HEnt O))→RM O (List (Nat×Option (HEnt O)))
 | []=>.ret []
 |(n,_)::r=>.h n fun
  |some h=>(fB r).bind fun l=>.ret ((n,some { h with frozen:=true,dirty:=true })::l)
  | none => .fail "a slice that is gone"
def AAR (ctx:List (Nat×Bool)) (id:Nat):Op→RM O (AC O)
 | .buildSlice T len parts=>(KA P ctx id (.buildSlice T len parts)).bind fun (as,c,w)=>match as,c,w.hs,w.bs with
  | [],.own e q,[(j,some h)],[]=>match Nat.beq q id&&(Nat.beq j id&&Nat.beq e h.e)with
   |true=>.ret (.imm e h.nw h.l)
   | false => .fail "a literal under a guard"
  | _, _, _, _ => .fail "a literal under a guard"
 | _ => .fail "an operation under a guard"
inductive Spec where
 |take (T:TypeId) (x hi:Operand)
 |tail (T:TypeId) (x lo:Operand)
 |clr (T:TypeId) (x:Operand)
 |mkMap (T:TypeId)
 |mapUpd (T:TypeId) (m k v:Operand)
 |mapGet (T:TypeId) (m k:Operand)
 |shf (f k:Nat) (x:Operand)
def jd:List (Nat×Nat)→Nat→Option Nat
 | [],_=>none
 |(g,k)::l,f=>match Nat.beq g f with
  |true=>some k
  |false=>jd l f
def Qu (cfg:Cfg):Op→Option Spec
 | .slice T x lo (some hi) none=>match CT 60001 cfg.ie&&Tm lo with
  |true=>some (.take T x hi)
  |false=>none
 | .slice T x (some lo) none none=>match CT 60001 cfg.ie with
  |true=>some (.tail T x lo)
  |false=>none
 | .call ⟨.builtin .clear,args,tys⟩=>match args.toList,tys.toList with
  | [x],[T]=>some (.clr T x)
  |_,_=>none
 | .call ⟨.value (.func f),args,_⟩=>match jd cfg.shf f,args.toList with
  |some k,[x]=>some (.shf f k x)
  |_,_=>none
 | .makeMap T none=>some (.mkMap T)
 | .mapUpdate T m k v=>some (.mapUpd T m k v)
 | .lookup T m k false=>some (.mapGet T m k)
 |_=>none
def bL (ctx:List (Nat×Bool)) (id:Nat) (d:Option Nat) (T:TypeId) (hi:Operand) (c:AC O):RM O (Option (StepRes O)):=match c,OQ P T,d with
  | .own e q,some e',some d=>.h q fun
    |some en=>match !en.frozen&&(Nat.beq e en.e&&Nat.beq e e')with
      | true=>(evI ctx hi).bind fun b=>.ret (some (.plain [O.ai (O.lit .i64 0) b (O.j en.l)]
          { ts:=[(d,some ⟨ctx,one (.own e id)⟩)],hs:=[(q,none),(id,some { en with l:=O.ag en.l (O.lit .i64 0) b,dirty:=true })] }))
      |false=>.ret none
    | none => .fail "a slice that is gone"
  |_,_,_=>.ret none
def bm (ctx:List (Nat×Bool)) (d:Option Nat) (T:TypeId) (lo:Operand) (c:AC O):RM O (Option (StepRes O)):=match c,OQ P T,d with
 | .own e q,some e',some d=>.h q fun
  |some en=>match !en.frozen&&(Nat.beq e en.e&&Nat.beq e e')with
   |true=>(evI ctx lo).bind fun i=>.ret (some (.plain [O.ai i (O.j en.l) (O.j en.l)] { ts:=[(d,some ⟨ctx,one (.tail e q i)⟩)] }))
   |false=>.ret none
  | none => .fail "a slice that is gone"
 |_,_,_=>.ret none
def rC (T:TypeId) (c:AC O):RM O (Nat×HEnt O):=match c with
 | .mp e q=>.h q fun
  |some en=>match !en.frozen&&((Nat.beq e (GN P)&&Nat.beq en.e e)&&bZ P T)with
   |true=>.ret (q,en)
   | false => .fail "another map"
  | none => .fail "a map that is gone"
 | _ => .fail "no map"
def oJ (d:Option Nat) (T:TypeId) (c:AC O):RM O (Option (StepRes O)):=match c,OQ P T,d with
 | .tail e q i,some e',none=>.h q fun
  |some en=>match PA P e,AW P e with
   | some z, some ts => (RM.guard (!en.frozen && (Nat.beq e en.e && Nat.beq e e') && (K0 P ts [z.cs] && z.cs.all fP)) "clear").bind fun _ => (JI z.cs).bind fun (ls, _, _) =>
    .ret (some (.plain [] { hs:=[(q,some { en with l:=O.ad (O.ag en.l (O.lit .i64 0) i) (O.ap (O.j (O.ag en.l i (O.j en.l))) ls),dirty:=true })] }))
   | _, _ => .fail "clear"
  | none => .fail "a slice that is gone"
 | .mp e q,_,none=>(rC P T (.mp e q)).bind fun (q,en)=>.ret (some (.plain [] { hs:=[(q,some { en with l:=O.s,dirty:=true })] }))
 | _, _, _ => .fail "clear"
def nz:AC O→RM O O.I
 | .int .i64 z=>.ret z
 | _ => .fail "no int"
def vN:AC O→RM O O.B
 | .bool z=>.ret z
 | _ => .fail "no Boolean"
def um (d:Option Nat) (T:TypeId) (c k x:AC O):RM O (Option (StepRes O)):=match d with
 |none=>(nz k).bind fun i=>(vN x).bind fun z=>(rC P T c).bind fun (q,en)=>.ret (some (.plain [] { hs:=[(q,some { en with l:=O.ay en.l i z,dirty:=true })] }))
 | some _ => .fail "a map"
def uq (ctx:List (Nat×Bool)) (d:Option Nat) (T:TypeId) (c k:AC O):RM O (Option (StepRes O)):=match d with
 |some d=>(nz k).bind fun i=>(rC P T c).bind fun (q,en)=>.ret (some (.plain [] { ts:=[(d,some ⟨ctx,one (.bool (O.ax en.l i))⟩)] }))
 | none => .fail "a map"
def pY (ctx:List (Nat×Bool)) (id:Nat) (d:Option Nat) (T:TypeId):RM O (Option (StepRes O)) :=
 match d,bZ P T&&(noSl P (GN P)&&(Nat.blt (GN P) ptB && !ptE P (GN P)))with
 |some d,true=>.ret (some (.plain [] { ts:=[(d,some ⟨ctx,one (.mp (GN P) id)⟩)],hs:=[(id,some { e:=GN P,frozen:=false,nw:=true,l:=O.s,dirty:=true })] }))
 | _, _ => .fail "a map"
def zt (u:TypeId):Bool:=match AK P u,AW P u with
 | .str,some [t]=>(match AK P t with | .str=>true|_=>false)
 |_,_=>false
def oL (ctx:List (Nat×Bool)) (id:Nat) (d:Option Nat) (f k:Nat) (c:AC O):RM O (Option (StepRes O)):=match P.funcs[f]?,c with
 |some fn,.own e q=>.h q fun
  | some en => (RM.guard (fn.body.isSome && !(fn.name == "runtime.NumGoroutine") && (!en.frozen && (Nat.beq e en.e && zt P e))) "a sort").bind fun _ => match k, d with
   |0,some d=>.ret (some (.plain [O.ab (O.j en.l) 16] { ts:=[(d,some ⟨ctx,.tup []⟩)],hs:=[(q,some { en with l:=O.az en.l,dirty:=true })] }))
   |1,some d=>.ret (some (.plain [O.ab (O.j en.l) 16] { ts:=[(d,some ⟨ctx,one (.own e id)⟩)],hs:=[(q,none),(id,some { en with l:=O.bc en.l,dirty:=true })] }))
   | _, _ => .fail "a sort"
  | none => .fail "a slice that is gone"
 | _, _ => .fail "a sort"
def aC (ctx:List (Nat×Bool)) (id:Nat) (d:Option Nat):Spec→RM O (Option (StepRes O))
 | .mkMap T=>pY P ctx id d T
 | .mapUpd T m k v=>(evC P ctx T m).bind fun c=>(evC P ctx (vU P T).1 k).bind fun k=>(evC P ctx (vU P T).2 v).bind fun x=>um P d T c k x
 | .mapGet T m k=>(evC P ctx T m).bind fun c=>(evC P ctx (vU P T).1 k).bind fun k=>uq P ctx d T c k
 | .take T x hi=>(evC P ctx T x).bind fun c=>bL P ctx id d T hi c
 | .tail T x lo=>(evC P ctx T x).bind fun c=>bm P ctx d T lo c
 | .clr T x=>(evC P ctx T x).bind fun c=>oJ P d T c
 | .shf f k x=>(evC P ctx 0 x).bind fun c=>oL P ctx id d f k c
def Yc (ctx:List (Nat×Bool)) (g:Option O.B) (o:Oper) (id:Nat):RM O (StepRes O):=match o.op,uy P o.op with
 | .store T a x,_=>match g with
  | some _ => .fail "a store under a guard"
  |none=>(evC P ctx T a).bind fun p=>(evV P ctx T x).bind fun v=>(uU P T v.cs p).bind fun w=>match o.dst with
   |none=>.ret (.plain [] w)
   | some _ => .fail "a store with a value"
 | .call ⟨.value f,args,_⟩,_=>(ev P ctx 0 f).bind fun
  | .val ⟨false,[.fn f caps]⟩=>match P.funcs[f]? with
   | none => .fail "no such function"
   | some fn => (RM.guard (fn.body.isSome && !(fn.name == "runtime.NumGoroutine")) "a callee without a body").bind fun _ => (Xs P ctx (fn.params.toList.take args.size) args.toList).bind fun args => fJ P cfg ctx g id o.dst f caps args
  | _ => .fail "call no function"
 |op,true=>match g,o.dst with
  |none,some d=>(KA P ctx id op).bind fun (as,c,w)=>.ret (.plain as { w with ts:=[(d,some ⟨ctx,one c⟩)] })
  |some _,some d=>(AAR P ctx id op).bind fun c=>.ret (.plain [] { ts:=[(d,some ⟨ctx,one c⟩)] })
  | _, none => .fail "an operation under a guard"
 |op,false=>match o.dst with
  |some d=>(Z8 P ctx o.type op).bind fun (as,v,fr)=>(fB fr).bind fun fr=>.ret (.plain (as.map (lQ g)) { ts:=[(d,some ⟨ctx,v⟩)],hs:=fr })
  | none => .fail "an operation without a value"
def zT (ctx:List (Nat×Bool)) (g:Option O.B) (o:Oper) (id:Nat):RM O (StepRes O):=match g,Qu cfg o.op with
 |none,some sp=>(aC P ctx id o.dst sp).bind fun
  |some r=>.ret r
  |none=>Yc P cfg ctx g o id
 |_,_=>Yc P cfg ctx g o id
def LC (ops:List Oper) (o:Oper) (id:Nat):RM O (StepRes O) :=
  (YM ops o).bind fun ctx=>(Wg ctx).bind fun g=>zT P cfg ctx g o id
end
structure Ms where
 t:Nat
 r:Nat
def Ms.or (a b:Ms):Ms:=⟨a.t ||| b.t,a.r ||| b.r⟩
def YL:Option Ms→Option Ms→Option Ms
 |some a,some b=>some (a.or b)
 |some a,none=>some a
 |none,b=>b
def iK (a:Ms):Option Ms→Option Ms
 |some b=>some (a.or b)
 |none=>none
structure An where
 nrm:Option Ms
 ret:Option Ms
 exts:List (Nat×Ms)
def BR:List (Nat×Ms)→Nat→Option Ms
 | [],_=>none
 |(j,m)::l,k=>match Nat.beq j k with
  |true=>some m
  |false=>BR l k
def Nh:List (Nat×Ms)→Nat→List (Nat×Ms)
 | [],_=>[]
 |(j,m)::l,k=>match Nat.beq j k with
  |true=>Nh l k
  |false=>(j,m)::Nh l k
def W2 (l:List (Nat×Ms)) (k:Nat) (m:Ms):List (Nat×Ms):=match BR l k with
 |some m'=>(k,m'.or m)::Nh l k
 |none=>(k,m)::l
def TD:List (Nat×Ms)→List (Nat×Ms)→List (Nat×Ms)
 | [],r=>r
 |(k,m)::l,r=>TD l (W2 r k m)
def Qz (ops:List Oper):Nat→Nat→Nat
 |0,t=>t
 |n+1,t=>match ops.find? (fun o=>match o.dst with|some d=>Nat.beq d t|none=>false)with
  |some o=>match o.op with
   | .fieldAddr _ (.tmp x) _ | .indexAddr _ (.tmp x) _ | .nilCheck (.tmp x) | .move (.tmp x) | .load _ (.tmp x) | .assign (.tmp x)=>Qz ops n x
   |_=>t
  |none=>t
def tP (P:Program) (all:List Oper):Operand→Nat
 | .tmp a=>match all.find? (fun o=>match o.dst with|some d=>Nat.beq d a|none=>false)with
  |some o=>match AK P o.type,P.underlying o.type with
   | .fn,_|_,some (.pointer _)=>C7 (Qz all 40 a)
   |_,_=>0
  |none=>0
 |_=>0
def yq (P:Program) (all:List Oper):Operand→List Operand→Nat
 | .func f,.tmp a::_=>match P.funcs[f]? with
  |some fn=>match fn.params[0]? with
   |some t=>match P.underlying t with
    |some (.pointer _)=>C7 (Qz all 40 a)
    |_=>0
   |none=>0
  |none=>0
 |_,_=>0
def ABv (P:Program) (all:List Oper):Operand→List Operand→Nat
 | .func f,args=>match P.funcs[f]? with
  |some fn=>match fn.resultTypes.toList with
   | []=>args.foldl (fun m x=>m ||| (match x with
    | .tmp a=>match all.find? (fun o=>match o.dst with|some d=>Nat.beq d a|none=>false)with
     |some o=>match AK P o.type with
      | .sl _=>C7 (Qz all 40 a)
      |_=>0
     |none=>0
    |_=>0)) 0
   |_=>0
  |none=>0
 |_,_=>0
def rY (P:Program) (all:List Oper):List Oper→Nat
 | []=>0
 |o::r=>(match o.op with
  | .store _ (.tmp a) _=>C7 (Qz all 40 a)
  | .makeFunc _ _ caps=>caps.toList.foldl (fun m x=>m ||| (match x with | .tmp a=>C7 (Qz all 40 a)|_=>0)) 0
  | .mapUpdate _ (.tmp a) _ _ | .mapEntry _ (.tmp a) _ | .entryStore _ (.tmp a) _ _=>C7 (Qz all 40 a)
  | .call c=>match c.callee with
   | .value f=>c.args.toList.foldl (fun m x=>m ||| tP P all x) (tP P all f) ||| yq P all f c.args.toList ||| ABv P all f c.args.toList
   | .builtin .append=>match c.args.toList with
    | .tmp a::_=>C7 (Qz all 40 a)
    |_=>0
   |_=>0
  |_=>0) ||| rY P all r
def cR:List Oper→Nat
 | []=>0
 |o::r=>(match o.dst with|some d=>C7 d|none=>0) ||| cR r
def an (P:Program):Code→An
 | .skip=>⟨some ⟨0,0⟩,none,[]⟩
 | .region _ ops _=>⟨some ⟨cR ops.toList,rY P ops.toList ops.toList⟩,none,[]⟩
 | .seq a b=>match an P a with
  |⟨none,r,e⟩=>⟨none,r,e⟩
  |⟨some m,r,e⟩=>match an P b with
   |⟨n',r',e'⟩=>⟨iK m n',YL r (iK m r'),TD (e'.map fun (k,x)=>(k,m.or x)) e⟩
 | .cond _ a b=>match an P a,an P b with
  |⟨n,r,e⟩,⟨n',r',e'⟩=>⟨YL n n',YL r r',TD e e'⟩
 | .block id b=>match an P b with
  |⟨n,r,e⟩=>⟨YL n (BR e id),r,Nh e id⟩
 | .loop b=>match an P b with
  |⟨n,r,e⟩=>⟨none,match n with|some m=>iK m r|none=>r,match n with|some m=>e.map (fun (k,x)=>(k,m.or x))|none=>e⟩
 | .exit id=>⟨none,none,[(id,⟨0,0⟩)]⟩
 | .ret=>⟨none,some ⟨0,0⟩,[]⟩
 |_=>⟨none,none,[]⟩
structure Cn where
 nrm:Nat
 ret:Nat
 exts:List (Nat×Nat)
def vC:List (Nat×Nat)→Nat→Nat
 | [],_=>0
 |(j,m)::l,k=>match Nat.beq j k with
  |true=>m+vC l k
  |false=>vC l k
def cnt:Code→Cn
 | .skip | .region ..=>⟨1,0,[]⟩
 | .seq a b=>match cnt a,cnt b with
  |⟨0,r,e⟩,_=>⟨0,r,e⟩
  |⟨n,r,e⟩,⟨n',r',e'⟩=>⟨n',r+r',e++e'⟩
 | .cond _ a b=>match cnt a,cnt b with
  |⟨n,r,e⟩,⟨n',r',e'⟩=>⟨n+n',r+r',e++e'⟩
 | .block id b=>match cnt b with
  |⟨n,r,e⟩=>⟨n+vC e id,r,e.filter fun (k,_) => !Nat.beq k id⟩
 | .loop b=>match cnt b with
  |⟨n,r,e⟩=>⟨0,(match r with|0=>0|_=>1),e.map fun (k,_)=>(k,1)⟩
 | .exit id=>⟨0,0,[(id,1)]⟩
 | .ret=>⟨0,1,[]⟩
 |_=>⟨0,0,[]⟩
def qX:Operand→Nat
 | .tmp t=>C7 t
 |_=>0
def Mc (nt:Nat):List Oper→Bool
 | []=>true
 |o::r=>(match o.dst with|some d=>Nat.blt d nt|none=>true)&&Mc nt r
def DK (nt:Nat):Code→Bool
 | .region _ ops _=>Mc nt ops.toList
 | .seq a b=>DK nt a&&DK nt b
 | .cond _ a b=>DK nt a&&DK nt b
 | .block _ b=>DK nt b
 | .loop b=>DK nt b
 |_=>true
def qx:List Oper→Nat
 | []=>0
 |o::r=>o.op.operands.toList.foldl (fun m x=>m ||| qX x) 0 ||| qx r
def Vb:Code→Nat
 | .region _ ops _=>qx ops.toList
 | .seq a b=>Vb a ||| Vb b
 | .cond c a b=>qX c ||| Vb a ||| Vb b
 | .block _ b | .loop b | .scope b=>Vb b
 |_=>0
def WV:Code→Nat
 | .region _ ops _=>ops.size
 | .seq a b=>WV a+WV b
 | .cond _ a b=>4+WV a+WV b
 | .block _ b=>WV b
 | .loop _=>1000
 |_=>0
inductive Ex where
 |nrm
 |ext (id:Nat)
 |ret
structure Lv where
 nrm:Nat
 ret:Nat
 exts:List (Nat×Nat)
def AAU:List (Nat×Nat)→Nat→Nat
 | [],_=>0
 |(j,m)::l,k=>match Nat.beq j k with
  |true=>m
  |false=>AAU l k
def Lv.of (lv:Lv):Ex→Nat
 | .nrm=>lv.nrm
 | .ret=>lv.ret
 | .ext id=>AAU lv.exts id
def Lv.all (lv:Lv):Nat:=lv.exts.foldl (fun m (_,x)=>m ||| x) (lv.nrm ||| lv.ret)
inductive SlotC where
 |int (k:IntKind)|bool|str|own (e:TypeId) (nw:Bool)|imm (e:TypeId) (nw:Bool)|any (T:TypeId)|opq (nw:Bool)
inductive Slot where
 |t (n:Nat) (agg:Bool) (cs:List SlotC)
 |b (id:Nat) (cs:List SlotC)
def wR (cfg:Cfg) (e:Nat):Bool:=cfg.imm||(CT e cfg.ie||Nat.ble ptB e)
def AC3 {O:Alg} (s:State O) (cfg:Cfg):AC O→Option SlotC
 | .int k _=>some (.int k)
 | .bool _=>some .bool
 | .str _=>some .str
 | .any T=>some (.any T)
 | .opq nw _=>some (.opq (nw && !cfg.old))
 | .nil e=>some (match wR cfg e with|true=>.imm e (!cfg.old)|false=>.own e (!cfg.old))
 | .imm e nw _=>some (.imm e (nw && !cfg.old))
 | .own e id=>match s.getH id with
  |some h=>some (match h.frozen||wR cfg e with|true=>.imm e (h.nw && !cfg.old)|false=>.own e (h.nw && !cfg.old))
  |none=>none
 |_=>none
def pi {O:Alg} (s:State O) (cfg:Cfg):List (AC O)→Option (List SlotC)
 | []=>some []
 |c::r=>match AC3 s cfg c,pi s cfg r with
  |some a,some l=>some (a::l)
  |_,_=>none
section
variable {O:Alg} (P:Program) (cfg:Cfg)
def kG (s:State O) (n:Nat):List Nat:=match s.getT n with
 |some ⟨_,.val ⟨false,[.ptr b _]⟩⟩=>[b]
 |some ⟨_,.val ⟨false,[.aptr b _ _ _ _ _]⟩⟩=>[b]
 |some ⟨_,.val ⟨false,[.fn _ caps]⟩⟩=>Iu caps
 |_=>[]
def ACv (s:State O) (n:Nat):Bool:=match s.getT n with
 |some ⟨_,.val ⟨false,[.fn _ _]⟩⟩=>true
 |_=>false
def xk (s:State O) (n:Nat):List Nat:=match s.getT n with
 |some ⟨_,.val ⟨false,[.eptr id _ _]⟩⟩=>[id]
 |some ⟨_,.val ⟨false,[.mp _ id]⟩⟩=>[id]
 |_=>[]
def ACQ (s:State O) (hid:List Nat) (n:Nat):Bool:=match s.getT n with
 |some ⟨_,.val ⟨false,[.own _ id]⟩⟩ => !CT id hid
 |_=>false
def MT (s:State O):List Nat→List Nat→List (Nat×TypeId×Bool)
 | [],_=>[]
 |n::r,seen=>match CT n seen with
  |true=>MT s r seen
  |false=>match s.getH n with
   |none=>MT s r seen
   |some h=>match h.frozen with
    |true=>MT s r seen
    |false=>(n,h.e,h.nw)::MT s r (n::seen)
def Ox (m:Nat):Nat→List Nat→List Nat
 |0,acc=>match m.testBit 0 with|true=>0::acc|false=>acc
 |n+1,acc=>Ox m n (match m.testBit (n+1)with|true=>(n+1)::acc|false=>acc)
def XC (m:Nat):Nat:=m.log2
def LQ (s:State O):List Nat→List Nat→Option (List Slot)
 | [],_=>some []
 |b::r,seen=>match CT b seen with
  |true=>LQ s r seen
  |false=>match s.getB b with
   |none=>LQ s r seen
   |some e=>match pi s cfg e.cs,LQ s r (b::seen)with
    |some cs,some l=>some (.b b cs::l)
    |_,_=>none
def QL (s:State O):List Nat→List Slot
 | []=>[]
 |n::r=>match s.getT n with
  |some ⟨[],.val v⟩=>match pi s cfg v.cs with
   |some cs=>.t n v.agg cs::QL s r
   |none=>QL s r
  |_=>QL s r
def TC (s:State O) (m:Nat):List Nat:=Ox m (XC m) []
def hOf (s:State O) (m:Ms):List (Nat×TypeId×Bool):=MT s (((TC s m.r).map (xk s)).flatten) []
def ke (s:State O) (n:Nat):List Nat:=match s.getT n with
 |some ⟨_,.val ⟨false,[.own _ id]⟩⟩=>[id]
 |_=>[]
def AAM (s:State O) (m:Ms):List Nat:=match CT 60002 cfg.ie with
 |true=>(((TC s m.r).filter fun n => !m.t.testBit n).map (ke s)).flatten
 |false=>[]
def oq (s:State O) (m:Ms):List (Nat×TypeId×Bool):=MT s (((TC s m.r).map (xk s)).flatten++AAM cfg s m) []
def ww (s:State O) (m:Ms) (live:Nat):Option (List Slot) :=
 let rs:=TC s m.r
 let tmps:=(m.t ||| rs.foldl (fun a n=>match ACQ s ((oq cfg s m).map (·.1)) n with|true=>a ||| C7 n|false=>a) 0) &&& live
 match LQ cfg s (((rs.filter fun n=>live.testBit n||(CT 60000 cfg.ie&&ACv s n)).map (kG s)).flatten) []with
 |some l=>some (QL cfg s (Ox tmps (XC tmps) [])++l)
 |none=>none
def C9 (s:State O) (m:Ms):List Nat:=((TC s m.r).map (kG s)).flatten
def oO:List (AC O)→List Nat
 | []=>[]
 | .own _ id::r=>id::oO r
 |_::r=>oO r
def oE (s:State O):List Nat→List Nat
 | []=>[]
 |n::r=>(match s.getT n with|some ⟨_,.val v⟩=>oO v.cs|_=>[])++oE s r
def AAF (s:State O):List Nat→List Nat
 | []=>[]
 |b::r=>(match s.getB b with|some e=>oO e.cs|none=>[])++AAF s r
def cA (s:State O) (m:Ms):List Nat:=oE s (Ox (m.t ||| m.r) (XC (m.t ||| m.r)) [])++AAF s (C9 s m)
def Xq (s:State O) (m:Ms):List Nat:=cA s m++(hOf s m).map (·.1)
def Qh (s:State O) (ids:List Nat):List (Nat×HEnt O):=s.hp.filter fun (n,_) => !CT n ids
def O0 (s:State O) (bs:List Nat):List (Nat×BEnt O):=s.bx.filter fun (n,_) => !CT n bs
def cleanB (l:List (Nat×BEnt O)):List (Nat×BEnt O):=l.map fun (n,e)=>(n,{ e with dirty:=false })
def cleanH (l:List (Nat×HEnt O)):List (Nat×HEnt O):=l.map fun (n,e)=>(n,{ e with dirty:=false })
def Iy (s:State O) (keep:List Nat) (used:List Nat):SlotC→AC O→Except String (O.Lf×List Nat)
 | .int k, .int k' i => match V7 k k' with | true => .ok (.int i, used) | false => .error "a slot of another kind"
 | .bool,.bool b=>.ok (.bool b,used)
 | .str,.str x=>.ok (.str x,used)
 | .any T, .any T' => match Nat.beq T T' with | true => .ok (.bool O.m, used) | false => .error "a slot of another type"
 | .opq nw, .opq nw' n => match nw' || !nw with | true => .ok (.int n, used) | false => .error "another slot"
 | .own e _, .nil e' => match Nat.beq e e' with | true => .ok (.rows O.s, used) | false => .error "a slot of another element"
 | .imm e _, .nil e' => match Nat.beq e e' with | true => .ok (.rows O.s, used) | false => .error "a slot of another element"
 | .own e nw,.own e' id=>match s.getH id with
  |some h=>match Nat.beq e e'&&Nat.beq e h.e && !h.frozen&&(h.nw || !nw) && !CT id used && !CT id keep with
   |true=>.ok (.rows h.l,id::used)
   | false => .error "an owned slot that is shared"
  | none => .error "a slot whose slice is gone"
 | .own _ _, .imm _ _ _ => .error "an owned slot that is not owned"
 | .imm e nw, .imm e' nw' l => match Nat.beq e e' && (nw' || !nw) with | true => .ok (.rows l, used) | false => .error "a shared slot"
 | .imm e nw,.own e' id=>match s.getH id with
  |some h=>match Nat.beq e e'&&Nat.beq e h.e&&(h.nw || !nw)&&(h.frozen || !CT id keep) && !CT id used with
   |true=>.ok (.rows h.l,match h.frozen with|true=>used|false=>id::used)
   | false => .error "a shared slot of an owned slice"
  | none => .error "a slot whose slice is gone"
 | _, _ => .error "a slot"
def H1 (s:State O) (keep used:List Nat):List SlotC→List (AC O)→Except String (List O.Lf×List Nat)
 | [],[]=>.ok ([],used)
 |a::as,c::cs=>match Iy s keep used a c with
  | .error e=>.error e
  | .ok (l,u)=>match H1 s keep u as cs with
   | .error e=>.error e
   | .ok (ls,u)=>.ok (l::ls,u)
 | _, _ => .error "slots"
def I8 (s:State O) (keep:List Nat):List Nat→List Slot→Except String (List O.Lf)
 |_,[]=>.ok []
 |used,.t n agg cs::r=>match s.getT n with
  |some ⟨[],.val v⟩=>match v.agg==agg,H1 s keep used cs v.cs with
   |true,.ok (ls,u)=>match I8 s keep u r with
    | .ok more=>.ok (ls++more)
    | .error e=>.error e
   |true,.error e=>.error e
   | false, _ => .error "a slot s form"
  | _ => .error "a slot that is not there"
 |used,.b b cs::r=>match s.getB b with
  |some e=>match H1 s keep used cs e.cs with
   | .ok (ls,u)=>match I8 s keep u r with
    | .ok more=>.ok (ls++more)
    | .error e=>.error e
   | .error e=>.error e
  | none => .error "a slot s variable is gone"
def RQ (s:State O):List (Nat×BEnt O)→Bool
 | []=>true
 |(n,_)::r=>match s.getB n with
  |some e=>match e.dirty with
   |true=>false
   |false=>RQ s r
  |none=>false
def Q9 (s:State O):List (Nat×HEnt O)→Bool
 | []=>true
 |(n,_)::r=>match s.getH n with
  |some e=>match e.dirty with
   |true=>false
   |false=>Q9 s r
  |none=>false
def UA (c:O.C) (j q:Nat):SlotC→AC O×List (Nat×HEnt O)
 | .int k=>(.int k (O.c c j),[])
 | .bool=>(.bool (O.p c j),[])
 | .str=>(.str (O.cS c j),[])
 | .own e nw=>(.own e q,[(q,{ e,frozen:=false,nw,l:=O.k c j,dirty:=true })])
 | .imm e nw=>(.imm e nw (O.k c j),[])
 | .any T=>(.any T,[])
 | .opq nw=>(.opq nw (O.c c j),[])
def L3 (c:O.C):Nat→Nat→List SlotC→List (AC O)×List (Nat×HEnt O)
 |_,_,[]=>([],[])
 |j,q,a::as=>match UA c j q a with
  |(x,h)=>match L3 c (j+1) (q+h.length) as with
   |(xs,hs)=>(x::xs,h++hs)
def Bk (c:O.C):Nat→Nat→List Slot→State O→State O
 |_,q,[],s=>{ s with st:=q }
 |j,q,.t n agg cs::r,s=>match L3 c j q cs with
  |(xs,hs)=>Bk c (j+cs.length) (q+hs.length) r { s with tm:=GT s.tm n (some ⟨[],.val { agg,cs:=xs }⟩),hp:=hs++s.hp }
 |j,q,.b b cs::r,s=>match L3 c j q cs with
  |(xs,hs)=>Bk c (j+cs.length) (q+hs.length) r { s with bx:=OE s.bx b (some { cs:=xs,dirty:=true }),hp:=hs++s.hp }
def oQ (t:TM (TV O)):List Nat→TM (TV O)
 | []=>t
 |n::r=>oQ (GT t n none) r
structure Way (O:Alg) where
 e:Ex
 slots:List Slot
 base:State O
 hs:List (Nat×TypeId×Bool)
def aZ (s:State O):List (Nat×TypeId×Bool)→Except String (List O.Lf)
 | []=>.ok []
 |(n,e,nw)::r=>match s.getH n with
  | none => .error "a kept slice is gone"
  |some h=>match Nat.beq h.e e&&(!h.frozen&&h.nw==nw)with
   | false => .error "a kept slice"
   |true=>match aZ s r with
    | .ok ls=>.ok (.rows h.l::ls)
    | .error e=>.error e
def QP (c:O.C):Nat→List (Nat×TypeId×Bool)→List (Nat×HEnt O)
 |_,[]=>[]
 |j,(n,e,nw)::r=>(n,{ e,frozen:=false,nw,l:=O.k c j,dirty:=true })::QP c (j+1) r
def Way.keep (w:Way O):List Nat:=w.hs.map (·.1)++w.base.hp.map (·.1)
def Way.baseC (w:Way O) (c:O.C) (j:Nat):State O:={ w.base with hp:=QP c j w.hs++w.base.hp }
def Way.encL (w:Way O) (s':State O):Except String (List O.Lf):=match aZ s' w.hs with
 | .error e=>.error e
 | .ok a=>match I8 s' w.keep [] w.slots with
  | .error e=>.error e
  | .ok b=>.ok (a++b)
def NB (s:State O) (e:Ex) (m:Ms) (live:Nat):Except String (Way O):=match ww cfg s m live with
  | none => .error "a layout"
  | some sl=>.ok { e,slots:=sl,base :=
      { tm:=oQ s.tm (Ox m.t (XC m.t) []),bx:=O0 s (C9 s m),hp:=Qh s (Xq s m),st:=s.st },hs:=oq cfg s m }
def Way.enc (w:Way O) (tag:Option Nat) (s':State O):O.M :=
 match RQ s' w.base.bx,Q9 s' w.base.hp with
 |true,true=>match w.encL s' with
  | .ok ls=>O.a (match tag with|some t=>.int (O.lit .i64 t)::ls|none=>ls)
  | .error e=>O.ac e
 | _, _ => O.ac "memory that a join does not know"
def Way.dec (w:Way O) (tagged:Bool) (c:O.C):State O:=Bk c ((match tagged with|true=>1|false=>0)+w.hs.length) w.base.st w.slots (w.baseC c (match tagged with|true=>1|false=>0))
def Za (s:State O) (lv:Lv) (e:Ex):Option Ms→Except String (List (Way O))
 |none=>.ok []
 |some m=>match NB cfg s e m (lv.of e)with
  | .ok w=>.ok [w]
  | .error e=>.error e
def Ws (s:State O) (lv:Lv):List (Nat×Ms)→Except String (List (Way O))
 | []=>.ok []
 |(id,m)::r=>match Za cfg s lv (.ext id) (some m),Ws s lv r with
  | .ok a,.ok b=>.ok (a++b)
  | .error e,_=>.error e
  |_,.error e=>.error e
def Wc (s:State O) (a:An) (lv:Lv):Except String (List (Way O)) :=
 match Za cfg s lv .nrm a.nrm,Za cfg s lv .ret a.ret,Ws cfg s lv a.exts with
 | .ok x,.ok y,.ok z=>.ok (x++y++z)
 | .error e,_,_=>.error e
 |_,.error e,_=>.error e
 |_,_,.error e=>.error e
def yv:Ex→Ex→Bool
 | .nrm,.nrm=>true
 | .ret,.ret=>true
 | .ext a,.ext b=>Nat.beq a b
 |_,_=>false
def Lw (tagged:Bool) (e:Ex) (s':State O):Nat→List (Way O)→O.M
 | _, [] => O.ac "a way out that was not seen"
 |i,w::r=>match yv e w.e with
  |true=>w.enc (match tagged with|true=>some i|false=>none) s'
  |false=>Lw tagged e s' (i+1) r
def NT (c:O.C) (k:Ex→State O→O.M) (tagged:Bool):Nat→List (Way O)→O.M
 | _, [] => O.ac "no way out"
 |_,[w]=>k w.e (w.dec tagged c)
 |i,w::r=>O.b (O.z c i) (k w.e (w.dec tagged c)) (NT c k tagged (i+1) r)
def cleaned (s:State O):State O:={ s with bx:=cleanB s.bx,hp:=cleanH s.hp }
def scope (a:An) (lv:Lv) (s:State O) (run:State O→(Ex→State O→O.M)→O.M) (k:Ex→State O→O.M):O.M :=
 match Wc cfg s a lv with
 | .error e=>O.ac e
 | .ok ws =>
  let tagged:=Nat.blt 1 ws.length
  O.d (run (cleaned s) fun e s'=>Lw tagged e s' 0 ws) fun c=>NT c k tagged 0 ws
def Bn:List Oper→List Nat→List Nat
 | [],acc=>acc
 |o::r,acc=>Bn r (acc++[o.after.toList.foldl (fun s e=>match e.ground with
  | .textOnly _ | .gcOnly _=>s
  |_=>s ||| C7 e.on ||| acc.getD e.on 0) 0])
def Nj (bs:List Nat) (ms:List (Nat×Nat)):Bool :=
 let rec inner (j bj rj wj:Nat):Nat→List (Nat×Nat)→Bool
  |_,[]=>true
  |i,(r,w)::l=>match Nat.ble j i with
   |true=>true
   |false=>match bj.testBit i||(Nat.beq (w &&& (rj ||| wj)) 0&&Nat.beq (wj &&& r) 0)with
    |true=>inner j bj rj wj (i+1) l
    |false=>false
 let rec outer:Nat→List Nat→List (Nat×Nat)→Bool
  |j,b::bs,(r,w)::l=>match inner j b r w 0 ms with
   |true=>outer (j+1) bs l
   |false=>false
  |_,_,_=>true
 outer 0 bs ms
def iJ:List Nat→Bool
 | []=>true
 |n::l => !CT n l&&iJ l
def VQ:List O.B→O.M→O.M
 | [],m=>m
 |a::r,m=>O.l a (VQ r m)
def FY:TM (TV O)→TM (TV O)
 | .e=>.e
 | .leaf a=>match a.gs with
  | []=>.leaf a
  |_=>.e
 | .node l r=>.node (FY l) (FY r)
def GH (ops:List Oper):Nat→List Nat→List Oper→Bool
 |i,b::bs,o::r=>match o.guard with
  |none=>GH ops (i+1) bs r
  |some (j,_)=>Nat.blt j i&&b.testBit j&&(match(ops[j]?).bind (·.dst)with|some _=>true|none=>false)&&GH ops (i+1) bs r
 |_,_,[]=>true
 |_,[],_::_=>false
def bI:Nat→List Oper→Bool
 |_,[]=>true
 |i,o::r=>(o.after.toList.all fun e=>match e.ground with
  | .textOnly _ | .gcOnly _=>true
  |_=>Nat.blt e.on i)&&bI (i+1) r
def EE (inl : FuncId → List (AV O) → State O → (AV O → State O → O.M) → O.M) (all : List Oper) (draw : Bool) :
    List Oper→Nat→State O→List (Nat×Nat)→(State O→List (Nat×Nat)→O.M)→O.M
  | [],id,s,ms,k=>k { s with st:=id } ms
  |o::r,id,s,ms,k=>match RM.run s (LC P cfg all o id) 0 with
    | .error e=>O.ac e
    | .ok (.plain as w,rd)=>VQ as (EE inl all draw r (id+BW P o) (s.apply w) (ms++[(rd,w.mask)]) k)
    | .ok (.call g f fns args dm next,rd) =>
      let m:=O.f f fns args
      O.d (match g with|none=>m|some g=>O.b g m (O.a dm)) fun c=>match next c with
        | none => O.ac "a result"
        |some w=>EE inl all draw r (id+BW P o) (s.apply w) (ms++[(rd,w.mask)]) k
    | .ok (.inl f args,rd)=>match draw with
      | true => O.ac "a call that has no contract in a region that draws"
      |false=>inl f args { s with st:=id+BW P o } fun v s' =>
        EE inl all draw r s'.st (match o.dst with|some d=>{ s' with tm:=GT s'.tm d (some ⟨[],v⟩) } | none=>s') (ms++[(0,0)]) k
    | .ok (.inlg g f args w,rd)=>match draw with
      | true => O.ac "a call that has no contract in a region that draws"
      |false=>O.b g (inl f args { s with st:=id+BW P o } fun v s' =>
        EE inl all draw r s'.st (match o.dst with|some d=>{ s' with tm:=GT s'.tm d (some ⟨[],v⟩) } | none=>s') (ms++[(0,0)]) k)
        (EE inl all draw r (id+BW P o) (s.apply w) (ms++[(rd,w.mask)]) k)
def Am:List Oper→List Nat
 | []=>[]
 |o::r=>match o.dst with|some d=>d::Am r|none=>Am r
def ABE (o:Oper):Bool:=match o.op,o.guard with
 | .call ⟨.value _,_,_⟩,none=>true
 |_,_=>false
def bB (ops:List Oper):Bool:=match ops.drop (ops.length-1)with
 | [o]=>ABE o&&Nat.beq ((Bn ops []).getD (ops.length-1) 0 &&& (C7 (ops.length-1)-1)) (C7 (ops.length-1)-1)
 |_=>false
def Kv (inl:FuncId→List (AV O)→State O→(AV O→State O→O.M)→O.M) (ops:List Oper) (draw:Bool) (s:State O) (k:State O→O.M):O.M :=
 match iJ (Am ops)&&(GH ops 0 (Bn ops []) ops&&bI 0 ops)with
 | false => O.ac "a temporary that is written twice"
 |true=>match draw&&bB ops with
  |true=>EE P cfg inl ops true (ops.take (ops.length-1)) s.st s [] fun s' ms =>
   match Nj (Bn ops []) ms with
   | false => O.ac "an order that is open"
   |true=>EE P cfg inl ops false (ops.drop (ops.length-1)) s'.st s' [] fun s' _=>k { s' with tm:=FY s'.tm }
  |false=>EE P cfg inl ops draw ops s.st s [] fun s' ms =>
   match !draw||Nj (Bn ops []) ms with
   | false => O.ac "an order that is open"
   |true=>k { s' with tm:=FY s'.tm }
def vj (s:State O):Operand→Option O.B
 | .tmp n=>match s.getT n with
  |some ⟨[],.val ⟨false,[.bool b]⟩⟩=>some b
  |_=>none
 | .const (.bool b)=>some (match b with|true=>O.m|false=>O.h)
 |_=>none
def uo (head:Way O) (ws:List (Way O)) (tagged:Bool) (self:List O.Lf→O.M):Ex→State O→O.M:=fun e s'=>match e with
 | .nrm=>match RQ s' head.base.bx,Q9 s' head.base.hp with
  |true,true=>match head.encL s' with
   | .ok ls=>self ls
   | .error e=>O.ac e
  | _, _ => O.ac "memory that a loop does not know"
 |e=>Lw tagged e s' 0 ws
def lE (o:Oper):Bool:=match o.op,o.guard with
 | .panic _,none=>true
 |_,_=>false
def X (inl:FuncId→List (AV O)→State O→(AV O→State O→O.M)→O.M):Code→Bool→Lv→State O→(Ex→State O→O.M)→O.M
 | .skip,_,_,s,k=>k .nrm s
 | .region _ ops draw,_,_,s,k=>match ops.toList.any lE with
  |true=>O.l O.h (O.a [])
  |false=>Kv P cfg inl ops.toList draw s fun s'=>k .nrm s'
 | .seq a b,light,lv,s,k=>X inl a (light&&Nat.ble (WV b) 6) { lv with nrm:=Vb b ||| lv.all } s fun e s'=>match e with
  | .nrm=>X inl b light lv s' k
  |e=>k e s'
 | .cond c a b,light,lv,s,k=>match vj s c with
  | none => O.ac "a condition"
  |some x=>match light||Nat.blt ((cnt a).nrm+(cnt b).nrm) 2 with
   |true=>O.b x (X inl a light lv s k) (X inl b light lv s k)
   |false=>scope cfg (an P (.cond c a b)) lv s (fun s k=>O.b x (X inl a true lv s k) (X inl b true lv s k)) k
 | .block id b,light,lv,s,k =>
  let lv':Lv:={ lv with exts:=(id,lv.nrm)::lv.exts }
  let k':Ex→State O→O.M:=fun e s'=>match e with
   | .ext i=>match Nat.beq i id with
    |true=>k .nrm s'
    |false=>k e s'
   |e=>k e s'
  match light||Nat.blt ((cnt b).nrm+vC (cnt b).exts id) 2 with
  |true=>X inl b light lv' s k'
  |false=>scope cfg (an P b) lv' s (fun s k=>X inl b true lv' s k) k'
 | .loop b,_,lv,s,k =>
  let a:=an P b
  let lvb:Lv:={ lv with nrm:=Vb b ||| lv.all }
  match a.nrm with
  | none => O.ac "a loop of one round"
  |some m=>match NB cfg s .nrm m lvb.nrm,Wc cfg s (an P (.loop b)) lv with
   | .ok head,.ok ws =>
    let tagged:=Nat.blt 1 ws.length
    match head.encL s with
    | .error e=>O.ac e
    | .ok ls=>O.d (O.t (fun self c=>X inl b true lvb (cleaned (head.dec false c)) (uo head ws tagged self)) ls) fun c=>NT c k tagged 0 ws
   | .error e,_=>O.ac e
   |_,.error e=>O.ac e
 | .exit id,_,_,s,k=>k (.ext id) s
 | .ret,_,_,s,k=>k .ret s
 | _, _, _, _, _ => O.ac "code"
def qD (s:State O):ResultVar→Option (Val O)
 | .tmp t=>match s.getT t with
  |some ⟨[],.val v⟩=>some v
  |_=>none
 | .cell a T=>match s.getT a with
  |some ⟨[],.val ⟨false,[.ptr b off]⟩⟩=>match s.getB b with
   |some e=>match Ft e.cs off (P.cellsOf T)with
    |some cs=>match Qp P T cs.length with
     |true=>some { agg:=Ag P T,cs }
     |false=>none
    |none=>none
   |none=>none
  |_=>none
def Nv (s:State O):List ResultVar→Option (List (Val O))
 | []=>some []
 |r::rs=>match qD P s r,Nv s rs with
  |some v,some l=>some (v::l)
  |_,_=>none
def P7:List ResultVar→Nat
 | []=>0
 | .tmp t::r=>C7 t ||| P7 r
 | .cell t _::r=>C7 t ||| P7 r
def B5:Nat→List (AV O)→TM (TV O)→TM (TV O)
 |_,[],t=>t
 |i,v::r,t=>B5 (i+1) r (GT t i (some ⟨[],v⟩))
def px (cfg:Cfg):List TypeId→Option (List SlotC)
 | []=>some []
 |t::ts=>match px cfg ts with
  |none=>none
  |some r=>match AK P t with
   | .int k=>some (.int k::r)
   | .bool=>some (.bool::r)
   | .str=>some (.str::r)
   | .sl e=>some ((match wR cfg e with|false=>.own e false|true=>.imm e false)::r)
   |_=>none
def Il:List TypeId→List (AC O)→Option (List (Val O))
 | [],_=>some []
 |t::ts,cs=>match AW P t with
  |none=>none
  |some l=>match Il ts (cs.drop l.length)with
   |none=>none
   |some r=>some ({ agg:=Ag P t,cs:=cs.take l.length }::r)
def Om:List TypeId→List (Val O)→Bool
 | [],[]=>true
 |t::ts,v::vs=>(match AW P t with
  |some l=>v.agg==Ag P t&&AX P l v.cs
  |none=>false)&&Om ts vs
 |_,_=>false
def Uz:Ex→Bool
 | .ext _=>true
 |_=>false
def jD (a:An):Ms:=match YL a.nrm a.ret with
 |some m=>m
 |none=>⟨0,0⟩
def jk (rec':Code→Bool→Lv→State O→(Ex→State O→O.M)→O.M) (f:FuncId) (args:List (AV O)) (s:State O) (k:AV O→State O→O.M):O.M :=
  match P.funcs[f]? with
  | none => O.ac "no such function"
  |some fn=>match fn.body with
    | none => O.ac "a function without a body"
    |some body=>match DK fn.ntmps body with
     | false => O.ac "temporaries"
     |true =>
      let s1:State O:={ s with tm:=B5 0 args .e }
      let live:=P7 fn.results.toList ||| (C7 args.length-1)
      let lv:Lv:={ nrm:=live,ret:=live,exts:=[] }
      let c:=cnt body
      match Nat.blt (c.nrm+c.ret) 2 || !(oq cfg s1 (jD (an P body))).isEmpty with
      |true=>rec' body false lv s1 fun e s'=>match Uz e,Nv P s' fn.results.toList with
        |false,some vs=>k (LI vs) { s' with tm:=s.tm }
        | _, _ => O.ac "results"
      |false =>
        let a:=an P body
        let m:Ms:=jD a
        match LQ cfg s1 (C9 s1 m) [],(LL P fn.resultTypes.toList).bind (px P cfg)with
        |some sl,some rs =>
          let base:State O:={ s with bx:=O0 s (C9 s1 m),hp:=Qh s (cA s1 m) }
          let keep:=base.hp.map (·.1)
          O.d (rec' body true lv (cleaned s1) fun e s'=>match Uz e,Nv P s' fn.results.toList with
            | true, _ | _, none => O.ac "results"
            |false,some vs=>match Om P fn.resultTypes.toList vs&&RQ s' base.bx,Q9 s' base.hp,H1 s' keep [] rs ((vs.map (·.cs)).flatten)with
              |true,true,.ok (ls,used)=>match I8 s' keep used sl with
                | .ok more=>O.a (ls++more)
                | .error e=>O.ac e
              |true,true,.error e=>O.ac e
              | _, _, _ => O.ac "memory that a call does not know") fun c =>
            match L3 c 0 base.st rs with
            |(xs,hs)=>match Il P fn.resultTypes.toList xs with
              | none => O.ac "results"
              |some vs=>k (LI vs) (Bk c rs.length (base.st+hs.length) sl { base with hp:=hs++base.hp })
        | _, _ => O.ac "a layout of a call"
def XL:Nat→Code→Bool→Lv→State O→(Ex→State O→O.M)→O.M
 | 0 => fun _ _ _ _ _ => O.ac "too deep"
 |n+1=>X P cfg (jk P cfg (XL n))
def Ak (give:Bool):Nat→List TypeId→List O.Lf→Option (List (AC O)×List (Nat×HEnt O)×List O.Lf)
 |_,[],ls=>some ([],[],ls)
 |q,t::ts,l::ls=>match AK P t,l with
  | .int k,.int i=>(Ak give q ts ls).map fun (cs,h,r)=>(.int k i::cs,h,r)
  | .bool,.bool b=>(Ak give q ts ls).map fun (cs,h,r)=>(.bool b::cs,h,r)
  | .str,.str s=>(Ak give q ts ls).map fun (cs,h,r)=>(.str s::cs,h,r)
  | .opq,.int n=>(Ak give q ts ls).map fun (cs,h,r)=>(.opq false n::cs,h,r)
  | .sl e,.rows l=>match give with
   |false=>(Ak give q ts ls).map fun (cs,h,r)=>(.imm e false l::cs,h,r)
   |true=>(Ak give (q+1) ts ls).map fun (cs,h,r)=>(.own e q::cs,(q,{ e,frozen:=false,nw:=false,l,dirty:=true })::h,r)
  |_,_=>none
 |_,_::_,[]=>none
def BS:List Bool→Nat→List TypeId→List Nat→List O.Lf→Option (List (AV O)×List (Nat×HEnt O))
 |_,_,[],[],[]=>some ([],[])
 |gv,q,t::ts,fns,ls=>match AK P t with
  | .fn=>match fns with
   |f::fns=>match vk P f with
    |some cts=>match Fx cts ls with
     |some (caps,ls)=>(BS gv.tail q ts fns ls).map fun (r,h)=>(one (.fn f caps)::r,h)
     |none=>none
    |none=>none
   | []=>none
  |_=>match AW P t with
   |none=>none
   |some l=>match Ak P (gv.headD false) q l ls with
    |none=>none
    |some (cs,h,ls)=>(BS gv.tail (q+h.length) ts fns ls).map fun (r,hs)=>(.val { agg:=Ag P t,cs }::r,h++hs)
 |_,_,[],_,_=>none
def Qo {α:Type} (l:α):Except String (List α)→Except String (List α)
 | .ok ls=>.ok (l::ls)
 | .error e=>.error e
def EC (s:State O) (own:Nat→Bool) (nw:Bool) (used:List Nat):List (AC O)→Except String (List O.Lf)
 | []=>.ok []
 |c::r=>match c with
  | .int _ i=>Qo (.int i) (EC s own nw used r)
  | .bool b=>Qo (.bool b) (EC s own nw used r)
  | .str x=>Qo (.str x) (EC s own nw used r)
  | .nil _=>Qo (.rows O.s) (EC s own nw used r)
  | .opq n i=>match n || !nw with
   |true=>Qo (.int i) (EC s own nw used r)
   | false => .error "a result that is not fresh"
  | .imm e n l=>match !own e&&(n || !nw)with
   |true=>Qo (.rows l) (EC s own nw used r)
   | false => .error "a result that is not fresh"
  | .own e id=>match s.getH id with
   |some h=>match(!own e || !h.frozen)&&(h.frozen || !CT id used)&&(h.nw || !nw)with
    |true=>Qo (.rows h.l) (EC s own nw (id::used) r)
    | false => .error "a result that is shared"
   | none => .error "a result that is gone"
  | _ => .error "a result that is no data"
def wP (own:Nat→Bool) (s:State O):State O:={ s with hp:=s.hp.map fun (n,h)=>(n,{ h with frozen:=h.frozen || !own h.e }) }
def wG (own:Nat→Bool) (nw:Bool) (fn:Func) (e:Ex) (s':State O):O.M:=match Uz e,Nv P s' fn.results.toList with
 | true, _ | _, none => O.ac "results"
 |false,some rs=>match Om P fn.resultTypes.toList rs,EC s' own nw [] ((rs.map (·.cs)).flatten)with
  |true,.ok ls=>O.a ls
  |true,.error e=>O.ac e
  | false, _ => O.ac "results of other kinds"
def kS (own:Nat→Bool) (nw:Bool) (fn:Func):Ex→State O→O.M:=fun e s0=>wG P own nw fn e (wP own s0)
def XF (own:Nat→Bool) (nw:Bool) (gives:List Bool) (f:FuncId) (fns:List Nat) (args:List O.Lf):O.M:=match P.funcs[f]? with
  | none => O.ac "no such function"
  |some fn=>match fn.body,BS P gives 1 fn.params.toList fns args with
    |some body,some (vs,hs)=>match DK fn.ntmps body with
     | false => O.ac "temporaries"
     |true =>
      let lv:Lv:={ nrm:=P7 fn.results.toList,ret:=P7 fn.results.toList,exts:=[] }
      XL P cfg 6 body true lv { tm:=B5 0 vs .e,bx:=[],hp:=hs,st:=1+hs.length } (kS P own nw fn)
    | none, _ => O.ac "no body"
    | _, none => O.ac "parameters"
end
end Go.Px
