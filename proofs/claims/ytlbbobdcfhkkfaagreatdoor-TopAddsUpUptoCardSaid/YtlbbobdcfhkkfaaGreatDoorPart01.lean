/- Part 1. -/
import GoSem.Step
set_option linter.unusedVariables false
set_option linter.unusedSimpArgs false
namespace Go.Px
theorem zzj (a b:Bool):((a&&b)=true)=(a=true∧b=true):=Bool.and_eq_true a b
theorem zzk {α:Type} {l:List α} {i:Nat} {a:α}:l.getD i a=l[i]?.getD a:=List.getD_eq_getElem?_getD
theorem zzl {α:Type} {a:α} {l:List α}:a∈a::l:=List.mem_cons_self
theorem zzm {α:Type} (y:α) {a:α} {l:List α}:a∈l→a∈y::l:=List.mem_cons_of_mem y
theorem zzn {α:Type} {l:List α} {i:Nat} (h:i<l.length):l[i]?=some l[i]:=List.getElem?_eq_getElem h
theorem zzo {α β:Type} {x:Option α} {f:α→β} {b:β}:x.map f=some b↔∃ a,x=some a∧f a=b:=Option.map_eq_some_iff
inductive Leaf (I B S L:Type) where
 | int (i:I)
 | bool (b:B)
 | str (s:S)
 | rows (l:L)
structure Alg where
 I:Type
 B:Type
 S:Type
 L:Type
 C:Type
 M:Type
 lit:IntKind→Int→I
 p:IntKind→I→I→I
 u:IntKind→I→I→I
 al:IntKind→I→I→I
 az:IntKind→I→I→I
 ap:IntKind→I→I→I
 ar:IntKind→I→I
 ax:Nat→IntKind→I→I→I
 ba:Bool→IntKind→I→I→I
 ao:I→S
 z:I→I→B
 o:I→I→B
 e:I→I→B
 m:B
 g:B
 h:B→B
 af:B→B→B
 an:B→B→B
 ai:B→I→I→I
 i:B→B→B→B
 av:B→S→S→S
 bb:B→L→L→L
 s:ByteArray→S
 aq:S→S→B
 bc:S→S→B
 x:S→I
 bd:S→I→I
 ay:S→I→I→S
 ag:S→S→S
 aw:S→L
 y:L
 ab:List (List (Leaf I B S L))→L
 ae:L→L→L
 l:L→I
 v:L→I→Nat→List (Leaf I B S L)→L
 aj:L→I→I→L
 am:I→List (Leaf I B S L)→L
 n:L→I→Nat→I
 rB:L→I→Nat→B
 rS:L→I→Nat→S
 rL:L→I→Nat→L
 be:L→S
 bf:L→B
 d:C→Nat→I
 q:C→Nat→B
 cS:C→Nat→S
 k:C→Nat→L
 ac:C→Nat→B
 r:I→I→B
 ak:I→I→I→B
 t:I→Nat→B
 a:List (Leaf I B S L)→M
 ad:String→M
 j:B→M→M
 b:B→M→M→M
 c:M→(C→M)→M
 f:Nat→List Nat→List (Leaf I B S L)→M
 w:((List (Leaf I B S L)→M)→C→M)→List (Leaf I B S L)→M
abbrev Alg.Lf (O:Alg):Type:=Leaf O.I O.B O.S O.L
inductive Cap (O:Alg) where
 | box (b off:Nat)
 | row (e:TypeId) (l:O.L)
inductive AC (O:Alg) where
 | int (k:IntKind) (i:O.I)
 | bool (b:O.B)
 | str (s:O.S)
 | nil (e:TypeId)
 | imm (e:TypeId) (nw:Bool) (l:O.L)
 | own (e:TypeId) (id:Nat)
 | ptr (b off:Nat)
 | aptr (b off n sz:Nat) (i:O.I) (inner:Nat)
 | eptr (id:Nat) (i:O.I) (off:Nat)
 | iptr (e:TypeId) (nw:Bool) (l:O.L) (i:O.I) (off:Nat)
 | fn (f:FuncId) (caps:List (Cap O))
 | nilptr
 | tail (e:TypeId) (id:Nat) (i:O.I)
 | mp (e:TypeId) (id:Nat)
 | any (T:TypeId)
 | opq (nw:Bool) (n:O.I)
 | qlit (b n:Nat)
def Cap.ac {O:Alg}:Cap O→AC O
 | .box b off=>.ptr b off
 | .row e l=>.iptr e false l (O.lit .i64 0) 0
def Cap.box? {O:Alg}:Cap O→List Nat
 | .box b _=>[b]
 | .row _ _=>[]
def JI {O:Alg}:List (Cap O)→List Nat
 | []=>[]
 | c::r=>c.box?++JI r
structure Val (O:Alg) where
 agg:Bool
 cs:List (AC O)
inductive AV (O:Alg) where
 | val (v:Val O)
 | tup (vs:List (Val O))
structure TV (O:Alg) where
 gs:List (Nat×Bool)
 v:AV O
structure BEnt (O:Alg) where
 cs:List (AC O)
 dirty:Bool
structure HEnt (O:Alg) where
 e:TypeId
 frozen:Bool
 nw:Bool
 l:O.L
 dirty:Bool
inductive TM (α:Type) where
 | e
 | leaf (a:α)
 | node (l r:TM α)
def TM.get {α:Type}:Nat→TM α→Nat→Option α
 | 0,.leaf a,_=>some a
 | d+1,.node l r,k=>match Nat.beq (k % 2) 0 with
  | true=>TM.get d l (k / 2)
  | false=>TM.get d r (k / 2)
 | _,_,_=>none
def TM.kids {α:Type}:TM α→TM α×TM α
 | .node l r=>(l,r)
 | _=>(.e,.e)
def TM.set {α:Type}:Nat→TM α→Nat→Option α→TM α
 | 0,_,_,some a=>.leaf a
 | 0,_,_,none=>.e
 | d+1,t,k,a=>match t.kids with
  | (l,r)=>match Nat.beq (k % 2) 0 with
   | true=>.node (TM.set d l (k / 2) a) r
   | false=>.node l (TM.set d r (k / 2) a)
def AM {α:Type}:List (Nat×α)→Nat→Option α
 | [],_=>none
 | (j,a)::l,k=>match Nat.beq j k with
  | true=>some a
  | false=>AM l k
def Xo {α:Type}:List (Nat×α)→Nat→List (Nat×α)
 | [],_=>[]
 | (j,a)::l,k=>match Nat.beq j k with
  | true=>Xo l k
  | false=>(j,a)::Xo l k
def Ol {α:Type} (l:List (Nat×α)) (k:Nat):Option α→List (Nat×α)
 | some a=>(k,a)::Xo l k
 | none=>Xo l k
def Po:Nat:=9
structure State (O:Alg) where
 tm:TM (TV O)
 bx:List (Nat×BEnt O)
 hp:List (Nat×HEnt O)
 st:Nat
def ED:Nat:=512
def Dc {α:Type} (t:TM α) (n:Nat):Option α:=match Nat.blt n ED with
 | true=>TM.get Po t n
 | false=>none
def GH {α:Type} (t:TM α) (n:Nat) (v:Option α):TM α:=match Nat.blt n ED with
 | true=>TM.set Po t n v
 | false=>t
def State.getT {O:Alg} (s:State O) (n:Nat):Option (TV O):=Dc s.tm n
def State.getB {O:Alg} (s:State O) (n:Nat):Option (BEnt O):=AM s.bx n
def State.getH {O:Alg} (s:State O) (n:Nat):Option (HEnt O):=AM s.hp n
structure Wr (O:Alg) where
 ts:List (Nat×Option (TV O)):=[]
 bs:List (Nat×Option (BEnt O)):=[]
 hs:List (Nat×Option (HEnt O)):=[]
def State.applyT {O:Alg} (t:TM (TV O)):List (Nat×Option (TV O))→TM (TV O)
 | []=>t
 | (n,v)::r=>State.applyT (GH t n v) r
def BK {α:Type} (t:List (Nat×α)):List (Nat×Option α)→List (Nat×α)
 | []=>t
 | (n,v)::r=>BK (Ol t n v) r
def State.apply {O:Alg} (s:State O) (w:Wr O):State O :=
 { tm:=State.applyT s.tm w.ts,bx:=BK s.bx w.bs,hp:=BK s.hp w.hs,st:=s.st }
def DZ (k:Nat):Nat:=2 ^ k
def TT (f:Nat→Nat) {α:Type}:List (Nat×α)→Nat
 | []=>0
 | (n,_)::r=>DZ (f n) ||| TT f r
def Wr.mask {O:Alg} (w:Wr O):Nat :=
 TT (fun n=>3 * n) w.ts ||| TT (fun n=>3 * n+1) w.bs ||| TT (fun n=>3 * n+2) w.hs
inductive RM (O:Alg) (α:Type) where
 | ret (a:α)
 | fail (w:String)
 | t (n:Nat) (f:Option (TV O)→RM O α)
 | b (n:Nat) (f:Option (BEnt O)→RM O α)
 | h (n:Nat) (f:Option (HEnt O)→RM O α)
def RM.bind {O:Alg} {α β:Type}:RM O α→(α→RM O β)→RM O β
 | .ret a,f=>f a
 | .fail w,_=>.fail w
 | .t n g,f=>.t n fun v=>(g v).bind f
 | .b n g,f=>.b n fun v=>(g v).bind f
 | .h n g,f=>.h n fun v=>(g v).bind f
instance {O:Alg}:Monad (RM O) where
 pure:=RM.ret
 bind:=RM.bind
def RM.run {O:Alg} {α:Type} (s:State O):RM O α→Nat→Except String (α×Nat)
 | .ret a,m=>.ok (a,m)
 | .fail w,_=>.error w
 | .t n g,m=>RM.run s (g (s.getT n)) (m ||| DZ (3 * n))
 | .b n g,m=>RM.run s (g (s.getB n)) (m ||| DZ (3 * n+1))
 | .h n g,m=>RM.run s (g (s.getH n)) (m ||| DZ (3 * n+2))
def RM.ofOpt {O:Alg} {α:Type} (w:String):Option α→RM O α
 | some a=>.ret a
 | none=>.fail w
def RM.guard {O:Alg} (b:Bool) (w:String):RM O Unit:=match b with
 | true=>.ret ()
 | false=>.fail w
inductive LK where
 | int (k:IntKind) | bool | str | sl (e:TypeId) | ptr | fn | other | opq
def Tm:IntKind→IntKind→Bool
 | .i8,.i8 | .i16,.i16 | .i32,.i32 | .i64,.i64 | .u8,.u8 | .u16,.u16 | .u32,.u32 | .u64,.u64=>true
 | _,_=>false
def FX (P:Program) (e:TypeId):Bool:=Nat.beq e 9&&Nat.beq P.funcs.size 199
def slK (b:Bool) (e:TypeId):LK:=match b with | true=>.opq | false=>.sl e
def AL (P:Program) (t:TypeId):LK:=match P.underlying t with
 | some (.int k)=>.int k
 | some .bool=>.bool
 | some .string=>.str
 | some (.slice e)=>slK (FX P e) e
 | some (.pointer _)=>.ptr
 | some (.func _ _ _)=>.fn
 | _=>.other
def Ds {α:Type}:Nat→List α→List α
 | 0,_=>[]
 | n+1,l=>l++Ds n l
def N2 {α:Type}:List (Option (List α))→Option (List α)
 | []=>some []
 | none::_=>none
 | some a::r=>match N2 r with
  | some b=>some (a++b)
  | none=>none
def B5 (P:Program):Nat→TypeId→Option (List TypeId)
 | 0,_=>none
 | n+1,t=>match P.underlying t with
  | some (.struct fs)=>N2 (fs.toList.map fun f=>B5 P n f.type)
  | some (.array k e)=>(B5 P n e).map (Ds k)
  | some (.tuple _) | some .invalid | some (.named _ _) | none=>none
  | some _=>some [t]
def DQ:Nat:=20
def AW (P:Program) (t:TypeId):Option (List TypeId):=match B5 P DQ t with
 | some l=>match Nat.beq l.length (P.cellsOf t)&&Nat.blt 0 l.length with
  | true=>some l
  | false=>none
 | none=>none
def Ad (P:Program) (t:TypeId):Bool:=match P.underlying t with
 | some (.struct _) | some (.array _ _)=>true
 | _=>false
def Oy (P:Program) (t:TypeId):Option TypeId:=match P.underlying t with
 | some (.slice e)=>(match FX P e with | true=>none | false=>some e)
 | _=>none
def AB7 (P:Program) (n:Nat):TypeId:=P.types.size+2+n
def AQ:List Nat→List Nat→Bool
 | [],[]=>true
 | a::l,b::r=>match Nat.beq a b with
  | true=>AQ l r
  | false=>false
 | _,_=>false
def C1 (n:Nat):List Nat→Bool
 | []=>false
 | m::l=>match Nat.beq n m with
  | true=>true
  | false=>C1 n l
def WN (P:Program) (e:TypeId) (off:Nat) (t:TypeId):Option (List TypeId) :=
 match AW P e,AW P t with
 | some l,some r=>match AQ ((l.drop off).take r.length) r with
  | true=>some r
  | false=>none
 | _,_=>none
section
variable {O:Alg} (P:Program)
def Wd (t:TypeId) (v:Value):Option (AC O):=match AL P t,v with
 | .int k,.int k' n=>match Tm k k' with
  | true=>some (.int k (O.lit k n))
  | false=>none
 | .bool,.bool b=>some (.bool (match b with | true=>O.m | false=>O.g))
 | .str,.string s=>some (.str (O.s s))
 | .sl e,.slice none 0 0=>match AW P e with
  | some _=>some (.nil e)
  | none=>none
 | .ptr,.pointer none=>some .nilptr
 | .opq,.slice none 0 0=>some (.opq true (O.lit .i64 0))
 | _,_=>none
def Lr:List TypeId→List Value→Option (List (AC O))
 | [],[]=>some []
 | t::ts,v::vs=>match Wd P t v,Lr ts vs with
  | some a,some r=>some (a::r)
  | _,_=>none
 | _,_=>none
def RJ (t:TypeId) (v:Value):Option (Val O):=match v with
 | .agg cs=>match AW P t with
  | some ts=>match Lr P ts cs.toList with
   | some l=>some { agg:=true,cs:=l }
   | none=>none
  | none=>none
 | v=>match Wd P t v with
  | some c=>some { agg:=false,cs:=[c] }
  | none=>none
def JF (t:TypeId):Option (Val O):=match P.info? t with
 | some i=>match i.zero with
  | some v=>RJ P t v
  | none=>none
 | none=>none
def PX (nw:Bool) (l:O.L) (i:O.I):Nat→List TypeId→Option (List (AC O))
 | _,[]=>some []
 | j,t::ts=>match PX nw l i (j+1) ts with
  | none=>none
  | some r=>match AL P t with
   | .int k=>some (.int k (O.n l i j)::r)
   | .bool=>some (.bool (O.rB l i j)::r)
   | .str=>some (.str (O.rS l i j)::r)
   | .sl e=>some (.imm e nw (O.rL l i j)::r)
   | .opq=>some (.opq nw (O.n l i j)::r)
   | _=>none
def A0 (own:Nat→Bool) (nw:Bool) (c:O.C):Nat→Nat→List TypeId→Option (List (AC O)×List (Nat×HEnt O))
 | _,_,[]=>some ([],[])
 | j,q,t::ts=>match AL P t with
  | .int k=>(A0 own nw c (j+1) q ts).map fun (r,h)=>(.int k (O.d c j)::r,h)
  | .bool=>(A0 own nw c (j+1) q ts).map fun (r,h)=>(.bool (O.q c j)::r,h)
  | .str=>(A0 own nw c (j+1) q ts).map fun (r,h)=>(.str (O.cS c j)::r,h)
  | .sl e=>match own e with
   | true=>(A0 own nw c (j+1) (q+1) ts).map fun (r,h)=>(.own e q::r,(q,{ e,frozen:=false,nw,l:=O.k c j,dirty:=true })::h)
   | false=>(A0 own nw c (j+1) q ts).map fun (r,h)=>(.imm e nw (O.k c j)::r,h)
  | .opq=>(A0 own nw c (j+1) q ts).map fun (r,h)=>(.opq nw (O.d c j)::r,h)
  | _=>none
def yG:List TypeId→Option (List O.Lf)
 | []=>some []
 | t::ts=>match yG ts with
  | none=>none
  | some r=>match AL P t with
   | .int k=>some (.int (O.lit k 0)::r)
   | .bool=>some (.bool O.g::r)
   | .str=>some (.str (O.s ByteArray.empty)::r)
   | .sl _=>some (.rows O.y::r)
   | .opq=>some (.int (O.lit .i64 0)::r)
   | _=>none
end
def dg:List (Nat×Bool)→List (Nat×Bool)→Bool
 | [],_=>true
 | (n,b)::r,ctx=>match ctx.any (fun (m,c)=>Nat.beq n m&&(b==c)) with
  | true=>dg r ctx
  | false=>false
inductive StepRes (O:Alg) where
 | plain (as:List O.B) (w:Wr O)
 | call (g:Option O.B) (f:FuncId) (fns:List Nat) (args:List O.Lf) (dflt:List O.Lf) (next:O.C→Option (Wr O))
 | inl (f:FuncId) (args:List (AV O))
 | inlg (g:O.B) (f:FuncId) (args:List (AV O)) (w:Wr O)
structure CI where
 f:FuncId
 fns:List Nat
 own:Bool
 nw:Bool
 gives:List Bool:=[]
 sk:List Nat:=[]
def CI.ow (ci:CI) (e:Nat):Bool:=ci.own && !C1 e ci.sk
structure Bld where
 f:FuncId
 k:Nat
 T:TypeId
 u:TypeId
structure Cfg where
 gam:List CI
 imm:Bool:=false
 old:Bool:=false
 ie:List Nat:=[]
 bld:List Bld:=[]
 stop:List Nat:=[]
def iC:List Bld→Nat→Option Bld
 | [],_=>none
 | b::l,f=>match Nat.beq b.f f with
  | true=>some b
  | false=>iC l f
def Wh:List CI→Nat→List Nat→Option CI
 | [],_,_=>none
 | c::l,f,fns=>match Nat.beq c.f f&&AQ c.fns fns with
  | true=>some c
  | false=>Wh l f fns
section
variable {O:Alg} (P:Program) (cfg:Cfg)
def one (c:AC O):AV O:=.val { agg:=false,cs:=[c] }
def ev (ctx:List (Nat×Bool)) (T:TypeId):Operand→RM O (AV O)
 | .tmp n=>.t n fun
  | some tv=>match dg tv.gs ctx with
   | true=>.ret tv.v
   | false => .fail "a guarded temporary"
  | none => .fail "no such temporary"
 | .const v=>match RJ P T v with
  | some v=>.ret (.val v)
  | none => .fail "a constant"
 | .func f=>.ret (one (.fn f []))
 | .global _ => .fail "a global"
def evV (ctx:List (Nat×Bool)) (T:TypeId) (x:Operand):RM O (Val O):=(ev P ctx T x).bind fun
 | .val v=>.ret v
 | .tup _ => .fail "a tuple"
def evC (ctx:List (Nat×Bool)) (T:TypeId) (x:Operand):RM O (AC O):=(evV P ctx T x).bind fun v =>
 match v.agg,v.cs with
 | false,[c]=>.ret c
 | _, _ => .fail "not one cell"
def evI (ctx:List (Nat×Bool)):Operand→RM O (O.I)
 | .const (.int k n)=>.ret (O.lit k n)
 | .tmp n=>.t n fun
  | some tv=>match dg tv.gs ctx,tv.v with
   | true,.val ⟨false,[.int _ i]⟩=>.ret i
   | _, _ => .fail "no integer"
  | none => .fail "no such temporary"
 | _ => .fail "no integer"
def WR:List (Nat×Bool)→RM O (Option O.B)
 | []=>.ret none
 | (n,want)::r=>.t n fun
  | some ⟨_,.val ⟨false,[.bool b]⟩⟩=>(WR r).bind fun g =>
   let c:=match want with | true=>b | false=>O.h b
   .ret (some (match g with | none=>c | some g=>O.af g c))
  | _ => .fail "no guard"
def Xa (ops:List Oper) (o:Oper):RM O (List (Nat×Bool)):=match o.guard with
 | none=>.ret []
 | some (j,want)=>match (ops[j]?).bind (·.dst) with
  | some d=>.t d fun
   | some tv=>.ret ((d,want)::tv.gs)
   | none => .fail "no such guard"
  | none => .fail "a guard without a value"
def ik (g:Option O.B) (a:O.B):O.B:=match g with
 | none=>a
 | some g=>O.h (O.af g (O.h a))
def gt (b:O.B):AC O→AC O→Option (AC O)
 | .int k x,.int k' y=>match Tm k k' with
  | true=>some (.int k (O.ai b x y))
  | false=>none
 | .bool x,.bool y=>some (.bool (O.i b x y))
 | .str x,.str y=>some (.str (O.av b x y))
 | .imm e nw x,.imm e' nw' y=>match Nat.beq e e' with
  | true=>some (.imm e (nw&&nw') (O.bb b x y))
  | false=>none
 | _,_=>none
def DE (b:O.B):List (AC O)→List (AC O)→Option (List (AC O))
 | [],[]=>some []
 | x::xs,y::ys=>match gt b x y,DE b xs ys with
  | some c,some r=>some (c::r)
  | _,_=>none
 | _,_=>none
def AAk (op:BinOp) (a b:O.I):Option O.B:=match op with
 | .eql=>some (O.e a b)
 | .neq=>some (O.h (O.e a b))
 | .lss=>some (O.o a b)
 | .leq=>some (O.z a b)
 | .gtr=>some (O.o b a)
 | .geq=>some (O.z b a)
 | _=>none
def eqC:AC O→AC O→Option O.B
 | .int k a,.int k' b=>match Tm k k' with
  | true=>some (O.e a b)
  | false=>none
 | .bool a,.bool b=>some (O.an a b)
 | .str a,.str b=>some (O.aq a b)
 | _,_=>none
def K8:List (AC O)→List (AC O)→Option O.B
 | [],[]=>some O.m
 | [x],[y]=>eqC x y
 | x::xs,y::ys=>match eqC x y,K8 xs ys with
  | some a,some r=>some (O.af a r)
  | _,_=>none
 | _,_=>none
def WQ:LK→AC O→Bool
 | .int k,.int k' _=>Tm k k'
 | .bool,.bool _=>true
 | .str,.str _=>true
 | _,_=>false
def Bx:List TypeId→List (AC O)→Bool
 | [],[]=>true
 | t::ts,c::cs=>match WQ (AL P t) c with
  | true=>Bx ts cs
  | false=>false
 | _,_=>false
def YB:Nat→List Field→Bool
 | _,[]=>true
 | off, f :: fs => match Nat.beq f.offset off && (f.name != "_") with
  | true=>YB (off+P.cellsOf f.type) fs
  | false=>false
def Qr:Option (List Nat)→Option (List Nat)→Bool
 | some a,some b=>AQ a b
 | _,_=>false
def XV:Nat→TypeId→Bool
 | 0,_=>false
 | n+1,t=>match P.underlying t with
  | some .bool | some (.int _) | some .string=>Qr (AW P t) (some [t])
  | some (.struct fs) => !P.stoodInHeld t&&YB P 0 fs.toList&&fs.toList.all (fun f=>XV n f.type)&&Qr (AW P t) (N2 (fs.toList.map fun f=>AW P f.type))
  | some (.array k e)=>XV n e&&Qr (AW P t) ((AW P e).map (Ds k))
  | _=>false
def Iq:Operand→Bool
 | .const (.int _ n) => !(n==0)
 | _=>false
def jB:AC O→RM O (O.Lf×List (Nat×Option (HEnt O))×Bool)
 | .int _ i=>.ret (.int i,[],true)
 | .bool b=>.ret (.bool b,[],true)
 | .str s=>.ret (.str s,[],true)
 | .nil _=>.ret (.rows O.y,[],true)
 | .imm _ nw l=>.ret (.rows l,[],nw)
 | .opq nw n=>.ret (.int n,[],nw)
 | .own _ id=>.h id fun
  | some h=>.ret (.rows h.l,[(id,some { h with frozen:=true,dirty:=true })],h.nw)
  | none => .fail "a slice that is gone"
 | _ => .fail "no data"
def LS:List (AC O)→RM O (List O.Lf×List (Nat×Option (HEnt O))×Bool)
 | []=>.ret ([],[],true)
 | c::r=>(jB c).bind fun (a,h,n)=>(LS r).bind fun (as,hs,ns)=>.ret (a::as,h++hs,n&&ns)
def Dn {α:Type}:List α→Nat→List α→Option (List α)
 | l,_,[]=>some l
 | [],_,_::_=>none
 | x::l,0,y::ys=>(Dn l 0 ys).map (y::·)
 | x::l,n+1,ys=>(Dn l n ys).map (x::·)
def Gc {α:Type} (l:List α) (off n:Nat):Option (List α) :=
 let r:=(l.drop off).take n
 match Nat.beq r.length n with
 | true=>some r
 | false=>none
def SV (f:Nat→Option (List (AC O))) (i:O.I):Nat→Option (List (AC O))
 | 0=>f 0
 | k+1=>match SV f i k,f (k+1) with
  | some r,some c=>DE (O.e i (O.lit .i64 ((k+1:Nat):Int))) c r
  | _,_=>none
def mo (off sz inner:Nat) (i:O.I) (v:List (AC O)):Nat→List (AC O)→Option (List (AC O))
 | 0,cs=>some cs
 | k+1,cs=>match Gc cs (off+k * sz+inner) v.length with
  | none=>none
  | some old=>match DE (O.e i (O.lit .i64 (k:Int))) v old with
   | none=>none
   | some new=>match Dn cs (off+k * sz+inner) new with
    | none=>none
    | some cs=>mo off sz inner i v k cs
def oV (T:TypeId):AC O→RM O (List (AC O))
 | .ptr b off=>.b b fun
  | some e => RM.ofOpt "load" (Gc e.cs off (P.cellsOf T))
  | none => .fail "no such variable"
 | .aptr b off n sz i inner=>.b b fun
  | some e =>
   match n with
   | 0 => .fail "an array of no elements"
   | n + 1 => RM.ofOpt "load of an element" (SV (fun k => Gc e.cs (off + k * sz + inner) (P.cellsOf T)) i n)
  | none => .fail "no such variable"
 | .eptr id i off=>.h id fun
  | some h=>match WN P h.e off T with
   | some ts => RM.ofOpt "load of a row" (PX P h.nw h.l i off ts)
   | none => .fail "a row of another type"
  | none => .fail "a slice that is gone"
 | .iptr e nw l i off=>match WN P e off T with
  | some ts => RM.ofOpt "load of a row" (PX P nw l i off ts)
  | none => .fail "a row of another type"
 | _ => .fail "load no address"
def ZH:AC O→RM O (TypeId×O.L×Bool)
 | .nil e=>.ret (e,O.y,true)
 | .imm e nw l=>.ret (e,l,nw)
 | .own _ id=>.h id fun
  | some h=>.ret (h.e,h.l,h.nw)
  | none => .fail "a slice that is gone"
 | _ => .fail "no slice"
def Su (T:TypeId) (f:Nat):Option Field:=match P.underlying T with
 | some (.struct fs)=>fs.toList[f]?
 | _=>none
def Dl (n:Nat):AC O→Option (AC O)
 | .ptr b off=>some (.ptr b (off+n))
 | .aptr b off m sz i inner=>some (.aptr b off m sz i (inner+n))
 | .eptr id i off=>some (.eptr id i (off+n))
 | .iptr e nw l i off=>some (.iptr e nw l i (off+n))
 | _=>none
def U1 (place:Nat→Option (Nat×TypeId)) (ctx:List (Nat×Bool)):List (Nat×Operand)→List (AC O)→RM O (List (AC O))
 | [],cs=>.ret cs
 | (i,x)::r,cs=>match place i with
  | none => .fail "no such part"
  | some (off, T) => (evV P ctx T x).bind fun v => (RM.guard (Nat.beq v.cs.length (P.cellsOf T) && Nat.blt 0 v.cs.length) "a part of another size").bind fun _ =>
   match Dn cs off v.cs with
   | some cs=>U1 place ctx r cs
   | none => .fail "a part that does not fit"
def Ji {α:Type} (n:Nat):Nat→List α→List (List α)
 | 0,_=>[]
 | k+1,l=>l.take n::Ji n k (l.drop n)
def nV:List (List (AC O))→RM O (List (List O.Lf)×List (Nat×Option (HEnt O))×Bool)
 | []=>.ret ([],[],true)
 | c::r=>(LS c).bind fun (a,h,n)=>(nV r).bind fun (as,hs,ns)=>.ret (a::as,h++hs,n&&ns)
def Zv (lt:O.I→O.I→O.B):AC O→List (AC O)→Option (AC O)
 | c,[]=>some c
 | .int k x,.int k' y::r=>match Tm k k' with
  | true=>Zv lt (.int k (O.ai (lt y x) y x)) r
  | false=>none
 | _,_=>none
def sj (ctx:List (Nat×Bool)) (T:TypeId):List Operand→RM O (List (AC O))
 | []=>.ret []
 | x::r=>(evC P ctx T x).bind fun c=>(sj ctx T r).bind fun l=>.ret (c::l)
def Pu:AC O→Bool
 | .int _ _ | .bool _ | .str _ | .nil _=>true
 | _=>false
def BG:LK→AC O→Bool
 | .int k,.int k' _=>Tm k k'
 | .bool,.bool _=>true
 | .str,.str _=>true
 | .sl e,.nil e'=>Nat.beq e e'
 | .sl e,.imm e' _ _=>Nat.beq e e'
 | .sl e,.own e' _=>Nat.beq e e'
 | .opq,.opq _ _=>true
 | _,_=>false
def AX:List TypeId→List (AC O)→Bool
 | [],[]=>true
 | t::ts,c::cs=>match BG (AL P t) c with
  | true=>AX ts cs
  | false=>false
 | _,_=>false
def K4 (ts:List TypeId):List (List (AC O))→Bool
 | []=>true
 | r::rs=>match AX P ts r with
  | true=>K4 ts rs
  | false=>false
def dx:Operand→Operand→Bool
 | .tmp a,.tmp b=>Nat.beq a b
 | .const (.int _ a),.const (.int _ b)=>decide (a=b)
 | _,_=>false
def Sr:List (AC O)→Bool
 | []=>true
 | .any _::_=>false
 | _::r=>Sr r
def gf (T:TypeId):List (AC O)→List (AC O)
 | [.nilptr,.nil e]=>[.any T,.nil e]
 | cs=>cs
def rt (T:TypeId) (v:List (AC O)):AC O→RM O (Wr O)
  | .ptr b off=>.b b fun
    | some e => (RM.guard (Nat.beq v.length (P.cellsOf T) && Nat.blt 0 v.length) "store size").bind fun _ =>
      (RM.ofOpt "store" (Dn e.cs off v)).bind fun cs => (RM.guard (Sr cs) "store").bind fun _ => .ret { bs := [(b, some { cs, dirty := true })] }
    | none => .fail "no such variable"
  | .aptr b off n sz i inner=>.b b fun
    | some e =>
      (RM.guard (Nat.beq v.length (P.cellsOf T) && Nat.blt 0 v.length) "store size").bind fun _ =>
      (RM.ofOpt "store of an element" (mo off sz inner i v n e.cs)).bind fun cs => (RM.guard (Sr cs) "store").bind fun _ => .ret { bs := [(b, some { cs, dirty := true })] }
    | none => .fail "no such variable"
  | .eptr id i off=>.h id fun
    | some h => (RM.guard (!h.frozen) "a store into a shared slice").bind fun _ =>
      match WN P h.e off T with
      | some ts => (RM.guard (Nat.beq v.length ts.length && Nat.beq v.length (P.cellsOf T)) "store size").bind fun _ =>
        (LS v).bind fun (ls, fr, nw) => (RM.guard (AX P ts v && !C1 id (fr.map (·.1))) "store kinds").bind fun _ =>
          .ret { hs:=fr++[(id,some { h with l:=O.v h.l i off ls,nw:=h.nw&&nw,dirty:=true })] }
      | none => .fail "a row of another type"
    | none => .fail "a slice that is gone"
  | _ => .fail "store no address"
def nW (ctx:List (Nat×Bool)):List Operand→RM O (List (Cap O))
 | []=>.ret []
 | x::r=>(evC P ctx 0 x).bind fun
  | .ptr b off=>(nW ctx r).bind fun l=>.ret (.box b off::l)
  | _ => .fail "makeFunc captured"
def XZ (ctx:List (Nat×Bool)):List TypeId→List Operand→RM O (List (AV O))
 | [],[]=>.ret []
 | t::ts,x::xs=>(ev P ctx t x).bind fun v=>(XZ ctx ts xs).bind fun r=>.ret (v::r)
 | _, _ => .fail "arguments"
def WS (used:List Nat):List (AC O)→RM O (List O.Lf×List Nat)
 | []=>.ret ([],used)
 | .own _ id::r=>.h id fun
  | some h=>match !h.frozen && !C1 id used with
   | true=>(WS (id::used) r).bind fun (ls,u)=>.ret (.rows h.l::ls,u)
   | false => .fail "a slice that cannot be handed over"
  | none => .fail "a slice that is gone"
 | .imm _ _ _ :: _ | .opq _ _ :: _ => .fail "a shared slice cannot be handed over"
 | c::r=>(jB c).bind fun (l,_,_)=>(WS used r).bind fun (ls,u)=>.ret (l::ls,u)
def uv:AC O→Bool
 | .ptr .. | .aptr .. | .eptr .. | .iptr .. | .fn .. | .nilptr | .tail .. | .any .. | .qlit ..=>false
 | _=>true
def Je:List (AV O)→Option (List Nat)
 | []=>some []
 | .val ⟨false,[.fn f _]⟩::r=>(Je r).map (f::·)
 | .val v::r=>match v.cs.all uv with
  | true=>Je r
  | false=>none
 | .tup _::_=>none
def jT (n:Nat):List Oper→Option TypeId
 | []=>none
 | o::r=>match o.op with
  | .load T (.tmp m)=>match Nat.beq m n with
   | true=>some T
   | false=>jT n r
  | _=>jT n r
def orT:Option TypeId→Option TypeId→Option TypeId
 | some t,_=>some t
 | none,x=>x
def gw (n:Nat):Code→Option TypeId
 | .region _ ops _=>jT n ops.toList
 | .seq a b | .cond _ a b=>orT (gw n a) (gw n b)
 | .block _ b | .loop b | .scope b=>gw n b
 | _=>none
def rJ (b:Code):Nat→Nat→Option (List TypeId)
 | _,0=>some []
 | n,k+1=>match gw n b,rJ b (n+1) k with
  | some t,some r=>some (t::r)
  | _,_=>none
def tV (P:Program) (f:FuncId):Option (List TypeId):=match P.funcs[f]? with
 | some fn=>match fn.nfree with
  | 0=>some []
  | k+1=>match fn.body with
   | some b=>rJ b fn.params.size (k+1)
   | none=>none
 | none=>none
def nT (T:TypeId):Nat→List TypeInfo→Option TypeId
 | _,[]=>none
 | i,x::r=>match x.desc with
  | .slice e=>match Nat.beq e T with
   | true=>some i
   | false=>nT T (i+1) r
  | _=>nT T (i+1) r
def tR (P:Program) (T:TypeId):Bool:=match nT T 0 P.types.toList with
 | some t=>(match AL P t with | .sl e=>Nat.beq e T | _=>false)
 | none=>false
def jI:AC O→Bool
 | .int _ _ | .bool _ | .str _=>true
 | _=>false
def nD:List TypeId→List (Cap O)→RM O (List O.Lf)
  | [],[]=>.ret []
  | T::ts,.box b off::r=>.b b fun
    | some e=>match AW P T,Gc e.cs off (P.cellsOf T) with
      | some l, some cs => (RM.guard (AX P l cs && cs.all jI && tR P T) "a variable that is taken along").bind fun _ =>
        (LS cs).bind fun (ls,_,_)=>(nD ts r).bind fun more=>.ret (.rows (O.ab [ls])::more)
      | _, _ => .fail "a variable that is taken along"
    | none => .fail "no such variable"
  | _, _ => .fail "what is taken along"
def Fk:List TypeId→List O.Lf→Option (List (Cap O)×List O.Lf)
 | [],ls=>some ([],ls)
 | t::ts,.rows l::ls=>(Fk ts ls).map fun (c,r)=>(.row t l::c,r)
 | _::_,_=>none
def Mk:List Bool→List Nat→List (AV O)→RM O (List O.Lf×List (Nat×Option (HEnt O))×List Nat)
 | _,used,[]=>.ret ([],[],used)
 | gv, used, .val ⟨false, [.fn f caps]⟩ :: r => (RM.ofOpt "what is taken along" (tV P f)).bind fun ts => (nD P ts caps).bind fun cl => (Mk gv.tail used r).bind fun (ls', fr', u') => .ret (cl ++ ls', fr', u')
 | gv,used,.val v::r=>match gv.headD false with
  | true=>(WS used v.cs).bind fun (ls,u)=>(Mk gv.tail u r).bind fun (ls',fr,u')=>.ret (ls++ls',fr,u')
  | false=>(LS v.cs).bind fun (ls,fr,_)=>(Mk gv.tail used r).bind fun (ls',fr',u')=>.ret (ls++ls',fr++fr',u')
 | _, _, .tup _ :: _ => .fail "arguments"
def gq (used:List Nat):List (Nat×Option (HEnt O))→Bool
 | []=>true
 | (n,_)::r => !C1 n used&&gq used r
def Bz (own:Nat→Bool) (nw:Bool) (c:O.C):Nat→Nat→List TypeId→Option (List (Val O)×List (Nat×HEnt O))
 | _,_,[]=>some ([],[])
 | j,q,t::ts=>match AW P t with
  | none=>none
  | some l=>match A0 P own nw c j q l with
   | none=>none
   | some (cs,h)=>match Bz own nw c (j+l.length) (q+h.length) ts with
    | none=>none
    | some (vs,hs)=>some ({ agg:=Ad P t,cs }::vs,h++hs)
def Kt:List (Val O)→AV O
 | [v]=>.val v
 | vs=>.tup vs
def K7 (P:Program):List TypeId→Option (List TypeId)
 | []=>some []
 | t::ts=>match AW P t,K7 P ts with
  | some a,some r=>some (a++r)
  | _,_=>none
def bM (P:Program):List TypeId→Nat
 | []=>0
 | t::ts=>(match AL P t with | .sl _ | .opq=>1 | _=>0)+bM P ts
def hG (P:Program) (e:TypeId):Bool:=match AW P e with
 | some l=>Nat.beq (bM P l) 0
 | none=>false
def BV (P:Program) (o:Oper):Nat:=match o.op with
 | .call c=>match c.callee with
  | .builtin _=>1
  | _=>16
 | .alloc _ | .box _ _ | .buildSlice _ _ _ | .makeSlice _ _ _ | .convert _ _ _ | .slice _ _ _ _ _=>1
 | .makeMap _ _ | .mapUpdate _ _ _ _ | .lookup _ _ _ _ | .mapEntry _ _ _ | .entryStore _ _ _ _=>1
 | _=>0
def IJ:List TypeId→List (AV O)→Bool
 | [],[]=>true
 | t::ts,v::vs=>(match AL P t,v with
  | .fn,.val ⟨false,[.fn _ _]⟩=>true
  | .fn,_=>false
  | _,.val ⟨false,[.fn _ _]⟩=>false
  | _,.val v=>match AW P t with
   | some l=>v.agg==Ad P t&&AX P l v.cs
   | none=>false
  | _,.tup _=>false)&&IJ ts vs
 | _,_=>false
def TI:List (AV O)→Bool
 | []=>true
 | .val ⟨false,[.fn _ (_::_)]⟩::_=>false
 | _::r=>TI r
def yH {α:Type} (g:Option α) (b:Nat→Bool):Nat→Bool:=match g with
 | none=>b
 | some _=>fun _=>false
def pE (ctx:List (Nat×Bool)) (g:Option O.B) (id:Nat) (d:Option Nat) (ci:CI) (fn:Func) (fr:List (Nat×Option (HEnt O))) (u:List Nat):O.C→Option (Wr O):=fun c =>
 match Bz P (yH g ci.ow) ci.nw c 0 id fn.resultTypes.toList with
  | none=>none
  | some (vs,nh)=>match Nat.ble nh.length 16 with
   | true=>some { ts:=match d with | some d=>[(d,some ⟨ctx,Kt vs⟩)] | none=>[],hs:=(match ci.nw with | true=>[] | false=>fr)++(u.map (fun n=>(n,none))++nh.map fun (n,h)=>(n,some h)) }
   | false=>none
def iQ (gives:List Bool):Bool:=Nat.blt 8 gives.length
def bG (gives:List Bool) (used:List Nat) (fr:List (Nat×Option (HEnt O))):Bool:=gq used fr&&(!iQ gives||used.isEmpty)
def jO (ctx:List (Nat×Bool)) (g:Option O.B) (d:Option Nat) (f:FuncId) (args:List (AV O)):RM O (StepRes O):=match C1 f cfg.stop with
 | true => .fail "a function that is not entered"
 | false=>match g,ctx,d with
  | none,_,_=>.ret (.inl f args)
  | some b,[_],some d=>match (P.funcs[f]?).bind fun fn=>(match fn.resultTypes.toList with | [t]=>JF P t | _=>none) with
   | some z=>.ret (.inlg b f args { ts:=[(d,some ⟨ctx,.val z⟩)] })
   | none => .fail "a call under a guard that has no contract"
  | some _, _, _ => .fail "a call under a guard that has no contract"
def eH (ctx:List (Nat×Bool)) (g:Option O.B) (id:Nat) (d:Option Nat) (f:FuncId) (caps:List (Cap O)) (args:List (AV O)):RM O (StepRes O) :=
  let inl:RM O (StepRes O):=jO P cfg ctx g d f (args++caps.map fun c=>one c.ac)
  match caps with
  | _::_=>inl
  | []=>match Je args with
    | none=>inl
    | some fns=>match Wh cfg.gam f fns with
      | none=>inl
      | some ci=>match P.funcs[f]? with
        | none => .fail "no such function"
        | some fn => (RM.guard (fn.body.isSome && !(fn.name == "runtime.NumGoroutine") && (IJ P fn.params.toList args && (ci.nw || TI args))) "a callee").bind fun _ =>
          (Mk P ci.gives [] args).bind fun (ls,fr,used)=>match (K7 P fn.resultTypes.toList).bind (yG P),bG ci.gives used fr with
          | some dm,true=>.ret (.call g f fns ls dm (pE P ctx g id d ci fn fr used))
          | _, _ => .fail "a result that is no data"
abbrev Le (O:Alg):=List O.B×AV O×List (Nat×Option (HEnt O))
def okP (as:List O.B) (v:AV O):RM O (Le O):=.ret (as,v,[])
def QM (T:TypeId) (n:Nat):Bool:=(P.underlying T).isSome&&(Ad P T||Nat.beq n 1)
def uJ (ctx:List (Nat×Bool)) (ty:TypeId) (n:Nat) (a b:Operand):RM O (Le O):=.t n fun
  | some tv=>match dg tv.gs ctx,tv.v with
    | true,.val ⟨false,[.bool c]⟩ =>
      (evV P ((n,true)::ctx) ty a).bind fun x=>(evV P ((n,false)::ctx) ty b).bind fun y =>
      match x.agg==y.agg,DE c x.cs y.cs with
      | true,some cs=>okP [] (.val { agg:=x.agg,cs })
      | _, _ => .fail "pick"
    | _, _ => .fail "pick no bool"
  | none => .fail "no such temporary"
def yR:BinOp→Option Nat
 | .and=>some 0
 | .or=>some 1
 | .xor=>some 2
 | .andNot=>some 3
 | _=>none
def AAN:BinOp→Option Bool
 | .shl=>some true
 | .shr=>some false
 | _=>none
def bC:Operand→Bool
 | .const (.int _ n)=>decide (0≤n)
 | _=>false
def sV (op:BinOp) (T:TypeId) (y:Operand) (a b:Val O):RM O (Le O):=match a.agg,b.agg,a.cs,b.cs with
  | false,false,[.int k i],[.int k' j]=>match AAN op with
   | some l=>okP (match bC y with | true=>[] | false=>[O.z (O.lit k' 0) j]) (one (.int k (O.ba l k i j)))
   | none=>match Tm k k' with
    | false => .fail "operands of different kinds"
    | true=>match yR op with
     | some c=>okP [] (one (.int k (O.ax c k i j)))
     | none=>match op with
      | .add=>okP [] (one (.int k (O.p k i j)))
      | .sub=>okP [] (one (.int k (O.u k i j)))
      | .mul=>okP [] (one (.int k (O.al k i j)))
      | .quo=>okP (match Iq y with | true=>[] | false=>[O.h (O.e j (O.lit k 0))]) (one (.int k (O.az k i j)))
      | .rem=>okP (match Iq y with | true=>[] | false=>[O.h (O.e j (O.lit k 0))]) (one (.int k (O.ap k i j)))
      | op=>match AAk op i j with
        | some c=>okP [] (one (.bool c))
        | none => .fail "an operator on integers"
  | false,false,[.str s],[.str t]=>match op with
    | .eql=>okP [] (one (.bool (O.aq s t)))
    | .neq=>okP [] (one (.bool (O.h (O.aq s t))))
    | .lss=>okP [] (one (.bool (O.bc s t)))
    | .add=>okP [O.t (O.x s) 1,O.t (O.x t) 1] (one (.str (O.ag s t)))
    | _ => .fail "an operator on strings"
  | p,q,xs,ys=>match AW P T with
    | none => .fail "an operator"
    | some ts=>match p==Ad P T&&q==Ad P T&&XV P DQ T && !P.eqGuardType P.depth T&&Bx P ts xs&&Bx P ts ys,op,K8 xs ys with
      | true,.eql,some c=>okP [] (one (.bool c))
      | true,.neq,some c=>okP [] (one (.bool (O.h c)))
      | _, _, _ => .fail "an operator"
def kC (src dst:TypeId) (c:AC O):RM O (Le O):=match P.underlying src with
 | none => .fail "convert"
 | some _=>match AL P dst,c with
  | .int k,.int _ i=>okP [] (one (.int k (O.ar k i)))
  | .str,.str s=>okP [] (one (.str s))
  | .str,.int _ i=>okP [] (one (.str (O.ao i)))
  | _, _ => .fail "convert"
def V5 (T:TypeId) (p:AC O) (ix:Operand) (i:O.I):RM O (Le O):=match P.underlying T with
 | some (.array n e) => (RM.guard (Nat.blt 0 (P.cellsOf e)) "indexAddr element").bind fun _ => match ix with
  | .const (.int _ c)=>match decide (0≤c∧c<n),Dl (c.toNat * P.cellsOf e) p with
   | true,some p=>okP [] (one p)
   | _, _ => .fail "indexAddr"
  | _=>match p with
   | .ptr b off=>okP [O.r i (O.lit .i64 n)] (one (.aptr b off n (P.cellsOf e) i 0))
   | _ => .fail "indexAddr an array in an array"
 | some (.slice e)=>match p with
  | .own e' h => (ZH (AC.own e' h : AC O)).bind fun (_, l, _) => (RM.guard (Nat.beq e e') "indexAddr element").bind fun _ =>
   okP [O.r i (O.l l)] (one (.eptr h i 0))
  | .imm e' nw l => (RM.guard (Nat.beq e e') "indexAddr element").bind fun _ => okP [O.r i (O.l l)] (one (.iptr e' nw l i 0))
  | .nil e=>okP [O.g] (one (.iptr e true O.y i 0))
  | .qlit b n => (RM.guard (Nat.beq (P.cellsOf e) 1) "indexAddr element").bind fun _ => okP [O.r i (O.lit .i64 n)] (one (.aptr b 0 n 1 i 0))
  | _ => .fail "indexAddr no slice"
 | _ => .fail "indexAddr type"
def jg (T:TypeId) (v:Val O) (ix:Operand) (i:O.I):RM O (Le O):=match P.underlying T,v.agg,v.cs with
 | some .string,false,[.str s]=>okP [O.r i (O.x s)] (one (.int .u8 (O.bd s i)))
 | some (.array n e),true,cs=>match ix with
  | .const (.int _ c)=>match decide (0≤c∧c<n),Gc cs (c.toNat * P.cellsOf e) (P.cellsOf e) with
   | true, some cs => (RM.guard (QM P e cs.length) "index size").bind fun _ => okP [] (.val { agg := Ad P e, cs })
   | _, _ => .fail "index"
  | _=>match n with
   | 0 => .fail "an array of no elements"
   | n+1=>match SV (fun k=>Gc cs (k * P.cellsOf e) (P.cellsOf e)) i n with
    | some cs => (RM.guard (QM P e cs.length) "index size").bind fun _ =>
     okP [O.r i (O.lit .i64 ((n+1:Nat):Int))] (.val { agg:=Ad P e,cs })
    | none => .fail "index of an array"
 | _, _, _ => .fail "index type"
def gh (ctx:List (Nat×Bool)) (d:O.I):Option Operand→RM O O.I
 | none=>.ret d
 | some x=>evI ctx x
def UV:Option Operand→Bool
 | none=>true
 | some (.const (.int _ n))=>decide (n=0)
 | _=>false
def xR (ctx:List (Nat×Bool)) (e':TypeId) (c:AC O) (lo hi:Option Operand):RM O (Le O) :=
  (ZH c).bind fun (e, l, nw) => (RM.guard (Nat.beq e e') "slice").bind fun _ =>
  (gh ctx (O.lit .i64 0) lo).bind fun a=>(gh ctx (O.l l) hi).bind fun b=>match c with
  | .own _ h=>.h h fun
    | some en=>.ret ([O.ak a b (O.l l)],one (.imm e nw (O.aj l a b)),[(h,some { en with frozen:=true,dirty:=true })])
    | none => .fail "a slice that is gone"
  | _=>okP [O.ak a b (O.l l)] (one (.imm e nw (O.aj l a b)))
def iV (ctx:List (Nat×Bool)) (T:TypeId) (c:AC O) (lo hi mx:Option Operand):RM O (Le O):=match mx with
 | some m=>match P.underlying T,c,UV lo,UV hi&&hi.isSome,UV (some m) with
  | some (.slice e'),.imm e _ _,true,true,true=>match Nat.beq e e' with
   | true=>okP [] (one (.nil e))
   | false => .fail "slice"
  | _, _, _, _, _ => .fail "slice with three bounds"
 | none=>match P.underlying T with
  | some .string=>match c with
   | .str s=>(gh ctx (O.lit .i64 0) lo).bind fun l=>(gh ctx (O.x s) hi).bind fun h =>
    okP [O.ak l h (O.x s)] (one (.str (O.ay s l h)))
   | _ => .fail "slice"
  | some (.slice e')=>xR ctx e' c lo hi
  | _ => .fail "slice"
def ZV (ctx:List (Nat×Bool)) (ty:TypeId):Op→RM O (Le O)
  | .move x | .assign x=>(ev P ctx ty x).bind fun v=>okP [] v
  | .pick (.tmp n) a b=>uJ P ctx ty n a b
  | .build T parts=>match JF P T with
    | none => .fail "build"
    | some z=>match z.agg with
      | false => .fail "build"
      | true=>(match P.underlying T with
        | some (.struct fs) => (RM.guard (fs.toList.all fun f => (P.info? f.type).isSome) "build fields").bind fun _ =>
          U1 P (fun i=>(fs.toList[i]?).map fun (f:Field)=>(f.offset,f.type)) ctx parts.toList z.cs
        | some (.array _ e) => (RM.guard (Nat.blt 0 (P.cellsOf e)) "build element").bind fun _ => U1 P (fun i => some (i * P.cellsOf e, e)) ctx parts.toList z.cs
        | _ => .fail "build type").bind fun cs => okP [] (.val { agg := true, cs })
  | .load T a=>(evC P ctx T a).bind fun p=>(oV P T p).bind fun cs =>
    (RM.guard (QM P T cs.length) "load size").bind fun _ => okP [] (.val { agg := Ad P T, cs })
  | .nilCheck x=>(evC P ctx ty x).bind fun p=>match p with
    | .ptr b off=>okP [] (one (.ptr b off))
    | .eptr i x off=>okP [] (one (.eptr i x off))
    | .iptr e nw l i off=>okP [] (one (.iptr e nw l i off))
    | .aptr b off n sz i inner=>okP [] (one (.aptr b off n sz i inner))
    | _ => .fail "nilCheck"
  | .binOp op T x y yT=>(evV P ctx T x).bind fun a=>(evV P ctx yT y).bind fun b=>sV P op T y a b
  | .unOp op T x=>(evC P ctx T x).bind fun c=>match op,c with
    | .not,.bool b=>okP [] (one (.bool (O.h b)))
    | .neg,.int k i=>okP [] (one (.int k (O.u k (O.lit k 0) i)))
    | .xor,.int k i=>okP [] (one (.int k (O.ax 2 k (O.lit k (match k.signed with | true => -1 | false=>k.max)) i)))
    | _, _ => .fail "a unary operator"
  | .convert src dst x=>(evC P ctx src x).bind fun c=>kC P src dst c
  | .extract x i=>(ev P ctx ty x).bind fun
    | .tup vs=>match vs[i]? with
      | some v=>okP [] (.val v)
      | none => .fail "extract"
    | .val _ => .fail "extract"
  | .field T x f=>(evV P ctx T x).bind fun v=>match Su P T f with
    | none => .fail "field"
    | some fd=>match v.agg,Gc v.cs fd.offset (P.cellsOf fd.type) with
      | true, some cs => (RM.guard (QM P fd.type cs.length) "field size").bind fun _ => okP [] (.val { agg := Ad P fd.type, cs })
      | _, _ => .fail "field"
  | .fieldAddr T x f=>(evC P ctx T x).bind fun p=>match Su P T f with
    | none => .fail "fieldAddr"
    | some fd => (RM.guard (!Nat.beq (P.cellsOf fd.type) 0) "a field of no size").bind fun _ => match Dl fd.offset p with
      | some p=>okP [] (one p)
      | none => .fail "fieldAddr no address"
  | .indexAddr T x ix=>(evC P ctx T x).bind fun p=>(evI ctx ix).bind fun i=>V5 P T p ix i
  | .index T x ix=>(evV P ctx T x).bind fun v=>(evI ctx ix).bind fun i=>jg P T v ix i
  | .slice T x lo hi mx=>(evC P ctx T x).bind fun c=>iV P ctx T c lo hi mx
  | .makeFunc (.func f) first caps=>match first.toList with
    | []=>(nW P ctx caps.toList).bind fun l=>okP [] (one (.fn f l))
    | _ => .fail "makeFunc"
  | .call c=>match c.callee with
    | .builtin .len=>match c.args.toList,c.argTypes.toList with
      | [x],[T]=>match P.underlying T with
        | some (.array n _)=>okP [] (one (.int .i64 (O.lit .i64 n)))
        | some .string=>(evC P ctx T x).bind fun
          | .str s=>okP [] (one (.int .i64 (O.x s)))
          | _ => .fail "len"
        | some (.slice _)=>(evC P ctx T x).bind fun v=>(ZH v).bind fun (_,l,_)=>okP [] (one (.int .i64 (O.l l)))
        | _ => .fail "len"
      | _, _ => .fail "len"
    | .builtin .min=>(sj P ctx ty c.args.toList).bind fun
      | v::u::r=>match Zv O.o v (u::r) with
        | some m=>okP [] (one m)
        | none => .fail "min"
      | _ => .fail "min"
    | .builtin .max=>(sj P ctx ty c.args.toList).bind fun
      | v::u::r=>match Zv (fun a b=>O.o b a) v (u::r) with
        | some m=>okP [] (one m)
        | none => .fail "max"
      | _ => .fail "max"
    | _ => .fail "call"
  | _ => .fail "an operation"
def dY (T:TypeId):Option TypeId:=match P.underlying T with
 | some (.slice e)=>(match FX P e&&(Nat.beq (P.cellsOf e) 1&&(AW P e).isSome) with | true=>some e | false=>none)
 | _=>none
abbrev AAp (O:Alg):=List O.B×AC O×Wr O
def J2 (ctx:List (Nat×Bool)) (id:Nat):Op→RM O (AAp O)
  | .alloc T=>match JF P T with
    | some v => (RM.guard (Nat.beq v.cs.length (P.cellsOf T) && Sr v.cs) "alloc size").bind fun _ => .ret ([], .ptr id 0, { bs := [(id, some { cs := gf T v.cs, dirty := true })] })
    | none => .fail "alloc"
  | .box T x => (evV P ctx T x).bind fun v => (RM.guard (Sr v.cs) "a variable").bind fun _ => .ret ([], .ptr id 0, { bs := [(id, some { cs := v.cs, dirty := true })] })
  | .buildSlice T len parts=>match Oy P T with
    | none=>match dY P T with
      | none => .fail "buildSlice"
      | some e=>match JF P e with
        | none => .fail "buildSlice zero"
        | some z => (RM.guard (Nat.ble len 100000 && (Nat.blt 0 len && Nat.beq z.cs.length 1)) "buildSlice size").bind fun _ =>
          (U1 P (fun i => some (i * P.cellsOf e, e)) ctx parts.toList (Ds len z.cs)).bind fun cs => (RM.guard (cs.all Pu) "a literal").bind fun _ =>
          .ret ([],.qlit id len,{ bs:=[(id,some { cs,dirty:=true })] })
    | some e=>match JF P e,AW P e with
      | some z, some ts => (RM.guard (Nat.ble (len * P.cellsOf e) 100000 && Nat.beq z.cs.length (P.cellsOf e)) "buildSlice size").bind fun _ =>
        (U1 P (fun i=>some (i * P.cellsOf e,e)) ctx parts.toList (Ds len z.cs)).bind fun cs =>
        (nV (Ji (P.cellsOf e) len cs)).bind fun (rows, fr, nw) => (RM.guard (K4 P ts (Ji (P.cellsOf e) len cs)) "buildSlice kinds").bind fun _ =>
        .ret ([],.own e id,{ hs:=fr++[(id,some { e,frozen:=false,nw,l:=O.ab rows,dirty:=true })] })
      | _, _ => .fail "buildSlice zero"
  | .makeSlice T len cap=>match Oy P T with
    | none => .fail "makeSlice"
    | some e=>match JF P e,P.info? e,AW P e with
      | some z, some ti, some ts => (evI ctx len).bind fun n => (RM.guard (dx len cap && K4 P ts [z.cs] && z.cs.all Pu) "makeSlice cap").bind fun _ =>
        (LS z.cs).bind fun (ls,_,_) =>
        .ret ([O.t n ti.bytes],.own e id,{ hs:=[(id,some { e,frozen:=false,nw:=true,l:=O.am n ls,dirty:=true })] })
      | _, _, _ => .fail "makeSlice zero"
  | .call c=>match c.callee,c.args.toList,c.argTypes.toList with
    | .builtin .append,[x,y],[T,U]=>match Oy P T,Oy P U with
      | some e, some e' => (RM.guard (Nat.beq T U) "append types").bind fun _ => (evC P ctx T x).bind fun a => (evC P ctx U y).bind fun b =>
        (ZH b).bind fun (eb,lb,nb') =>
        let nb:=nb'||hG P e
        match P.info? e,AW P e,JF (O:=O) P e with
        | some ti, some _, some z => (RM.guard (Nat.beq e eb && Nat.beq z.cs.length (P.cellsOf e)) "append elements").bind fun _ => match a with
          | .nil ea => (RM.guard (Nat.beq e ea) "append elements").bind fun _ =>
            .ret ([O.t (O.l lb) ti.bytes],.own e id,{ hs:=[(id,some { e,frozen:=false,nw:=nb,l:=lb,dirty:=true })] })
          | .own ea i=>.h i fun
            | some h => (RM.guard (!h.frozen && Nat.beq e ea && Nat.beq e h.e) "append to a shared slice").bind fun _ =>
              .ret ([O.t (O.l (O.ae h.l lb)) ti.bytes],.own e id,
                { hs:=[(i,none),(id,some { e,frozen:=false,nw:=h.nw&&nb,l:=O.ae h.l lb,dirty:=true })] })
            | none => .fail "append a slice that is gone"
          | _ => .fail "append to a slice that came in"
        | _, _, _ => .fail "append type"
      | _, _ => .fail "append types"
    | _, _, _ => .fail "call"
  | .convert src dst x=>(evC P ctx src x).bind fun c=>match AL P src,AL P dst,c with
    | .str,.sl e,.str s=>match AL P e,AW P e with
      | .int .u8,some [t]=>match AL P t with
        | .int .u8=>.ret ([],.imm e true (O.aw s),{})
        | _ => .fail "convert"
      | _, _ => .fail "convert"
    | _, _, _ => .fail "convert"
  | _ => .fail "an operation"
def th:Op→Bool
 | .alloc _ | .box _ _ | .buildSlice _ _ _ | .makeSlice _ _ _=>true
 | .convert _ dst _=>match AL P dst with
  | .sl _=>true
  | _=>false
 | .call c=>match c.callee with
  | .builtin .append=>true
  | _=>false
 | _=>false
def eJ:List (Nat×Option (HEnt O))→RM O (List (Nat×Option (HEnt O)))
 | []=>.ret []
 | (n,_)::r=>.h n fun
  | some h=>(eJ r).bind fun l=>.ret ((n,some { h with frozen:=true,dirty:=true })::l)
  | none => .fail "a slice that is gone"
def yK (ctx:List (Nat×Bool)) (id:Nat):Op→RM O (AC O)
 | .buildSlice T len parts=>(J2 P ctx id (.buildSlice T len parts)).bind fun (as,c,w)=>match as,c,w.hs,w.bs with
  | [],.own e q,[(j,some h)],[]=>match Nat.beq q id&&(Nat.beq j id&&Nat.beq e h.e) with
   | true=>.ret (.imm e h.nw h.l)
   | false => .fail "a literal under a guard"
  | _, _, _, _ => .fail "a literal under a guard"
 | _ => .fail "an operation under a guard"
inductive Spec where
 | take (T:TypeId) (x hi:Operand)
 | tail (T:TypeId) (x lo:Operand)
 | clr (T:TypeId) (x:Operand)
 | bld (b:Bld) (x:Operand) (r:List Operand)
 | qapp (T U:TypeId) (x y:Operand)
def Qs (cfg:Cfg):Op→Option Spec
 | .slice T x lo (some hi) none=>match C1 60001 cfg.ie&&UV lo with
  | true=>some (.take T x hi)
  | false=>none
 | .slice T x (some lo) none none=>match C1 60001 cfg.ie with
  | true=>some (.tail T x lo)
  | false=>none
 | .call ⟨.builtin .clear,args,tys⟩=>match args.toList,tys.toList with
  | [x],[T]=>some (.clr T x)
  | _,_=>none
 | .call ⟨.value (.func f),args,_⟩=>match iC cfg.bld f,args.toList with
  | some b,x::r=>some (.bld b x r)
  | _,_=>none
 | .call ⟨.builtin .append,args,tys⟩=>match args.toList,tys.toList with
  | [x,y],[T,U]=>some (.qapp T U x y)
  | _,_=>none
 | _=>none
def Zb (ctx:List (Nat×Bool)) (id:Nat) (d:Option Nat) (T:TypeId) (hi:Operand) (c:AC O):RM O (Option (StepRes O)):=match c,Oy P T,d with
  | .own e q,some e',some d=>.h q fun
    | some en=>match !en.frozen&&(Nat.beq e en.e&&Nat.beq e e') with
      | true => (evI ctx hi).bind fun b => .ret (some (.plain [O.ak (O.lit .i64 0) b (O.l en.l)]
          { ts:=[(d,some ⟨ctx,one (.own e id)⟩)],hs:=[(q,none),(id,some { en with l:=O.aj en.l (O.lit .i64 0) b,dirty:=true })] }))
      | false=>.ret none
    | none => .fail "a slice that is gone"
  | _,_,_=>.ret none
def aX (ctx:List (Nat×Bool)) (d:Option Nat) (T:TypeId) (lo:Operand) (c:AC O):RM O (Option (StepRes O)):=match c,Oy P T,d with
 | .own e q,some e',some d=>.h q fun
  | some en=>match !en.frozen&&(Nat.beq e en.e&&Nat.beq e e') with
   | true=>(evI ctx lo).bind fun i=>.ret (some (.plain [O.ak i (O.l en.l) (O.l en.l)] { ts:=[(d,some ⟨ctx,one (.tail e q i)⟩)] }))
   | false=>.ret none
  | none => .fail "a slice that is gone"
 | _,_,_=>.ret none
def mK (d:Option Nat) (T:TypeId) (c:AC O):RM O (Option (StepRes O)):=match c,Oy P T,d with
 | .tail e q i,some e',none=>.h q fun
  | some en=>match JF P e,AW P e with
   | some z, some ts => (RM.guard (!en.frozen && (Nat.beq e en.e && Nat.beq e e') && (K4 P ts [z.cs] && z.cs.all Pu)) "clear").bind fun _ => (LS z.cs).bind fun (ls, _, _) =>
    .ret (some (.plain [] { hs:=[(q,some { en with l:=O.ae (O.aj en.l (O.lit .i64 0) i) (O.am (O.l (O.aj en.l i (O.l en.l))) ls),dirty:=true })] }))
   | _, _ => .fail "clear"
  | none => .fail "a slice that is gone"
 | _, _, _ => .fail "clear"
def gV (u:TypeId):Bool:=match AL P u,AW P u with
 | .int .u8,some [t]=>(match AL P t with | .int .u8=>true | _=>false)
 | _,_=>false
def sJ (u:TypeId):AC O→RM O (O.L×Bool×List (Nat×Option (HEnt O)))
 | .nil e => (RM.guard (Nat.beq e u) "a builder").bind fun _ => .ret (O.y, true, [])
 | .own e q=>.h q fun
  | some en => (RM.guard (!en.frozen && (Nat.beq e u && Nat.beq en.e u)) "a builder").bind fun _ => .ret (en.l, en.nw, [(q, none)])
  | none => .fail "a slice that is gone"
 | _ => .fail "a builder"
def mM (b:Bld):AC O→RM O (Nat×O.L×Bool×List (Nat×Option (HEnt O)))
 | .ptr n off=>.b n fun
  | some e=>match e.cs with
   | [.any T, c] => (RM.guard (Nat.beq T b.T && (Nat.beq off 0 && gV P b.u)) "a builder").bind fun _ => (sJ b.u c).bind fun (l, nw, g) => .ret (n, l, nw, g)
   | _ => .fail "a builder"
  | none => .fail "no such variable"
 | _ => .fail "a builder"
def mO (ctx:List (Nat×Bool)) (id d:Nat) (b:Bld) (c:AC O) (new:O.L) (v:AV O):RM O (Option (StepRes O)) :=
  (mM P b c).bind fun (n,l,nw,g)=>.ret (some (.plain [O.t (O.l (O.ae l new)) 1]
    { ts:=[(d,some ⟨ctx,v⟩)],bs:=[(n,some { cs:=[.any b.T,.own b.u id],dirty:=true })],hs:=g++[(id,some { e:=b.u,frozen:=false,nw,l:=O.ae l new,dirty:=true })] }))
def mP (ctx:List (Nat×Bool)) (id:Nat) (d:Option Nat) (b:Bld) (c:AC O) (r:List Operand):RM O (Option (StepRes O)):=match P.funcs[b.f]? with
 | none => .fail "no such function"
 | some fn => (RM.guard (fn.body.isSome && !(fn.name == "runtime.NumGoroutine")) "a callee without a body").bind fun _ => match b.k, r, d with
  | 0,[y],some d=>(evC P ctx (fn.params[1]?.getD 0) y).bind fun
   | .str s=>mO P ctx id d b c (O.aw s) (.tup [{ agg:=false,cs:=[.int .i64 (O.x s)] },{ agg:=false,cs:=[.any 0] }])
   | _ => .fail "a builder"
  | 1,[y],some d=>(evC P ctx (fn.params[1]?.getD 0) y).bind fun
   | .int .u8 i=>mO P ctx id d b c (O.ab [[.int i]]) (one (.any 0))
   | _ => .fail "a builder"
  | 2,[],some d=>(mM P b c).bind fun (n,l,nw,g)=>.ret (some (.plain [O.t (O.l l) 1,O.bf l] { ts:=[(d,some ⟨ctx,one (.str (O.be l))⟩)],hs:=g }))
  | _, _, _ => .fail "a builder"
def nv (ctx:List (Nat×Bool)) (d:Option Nat) (T U:TypeId) (a b:AC O):RM O (Option (StepRes O)):=match dY P T,d,a,b with
 | some e,some d,.opq true n,.qlit q m=>match P.info? e,JF (O:=O) P e with
  | some ti,some z=>.b q fun
   | some en => (RM.guard (Nat.beq T U && Nat.beq z.cs.length 1 && (Nat.ble m en.cs.length && (Nat.blt 0 m && Nat.ble m 100000))) "append types").bind fun _ =>
    .ret (some (.plain [O.t n 1,O.t (O.p .i64 n (O.lit .i64 m)) ti.bytes] { ts:=[(d,some ⟨ctx,one (.opq true (O.p .i64 n (O.lit .i64 m)))⟩)] }))
   | none => .fail "no such variable"
  | _, _ => .fail "append type"
 | _,_,_,_=>.ret none
def RF (ctx:List (Nat×Bool)) (id:Nat) (d:Option Nat):Spec→RM O (Option (StepRes O))
 | .take T x hi=>(evC P ctx T x).bind fun c=>Zb P ctx id d T hi c
 | .tail T x lo=>(evC P ctx T x).bind fun c=>aX P ctx d T lo c
 | .clr T x=>(evC P ctx T x).bind fun c=>mK P d T c
 | .bld b x r=>(evC P ctx 0 x).bind fun c=>mP P ctx id d b c r
 | .qapp T U x y=>match dY P T with
  | some _=>(evC P ctx T x).bind fun c=>(evC P ctx U y).bind fun b=>nv P ctx d T U c b
  | none=>.ret none
def Xv (ctx:List (Nat×Bool)) (g:Option O.B) (o:Oper) (id:Nat):RM O (StepRes O):=match o.op,th P o.op with
 | .store T a x,_=>match g with
  | some _ => .fail "a store under a guard"
  | none=>(evC P ctx T a).bind fun p=>(evV P ctx T x).bind fun v=>(rt P T v.cs p).bind fun w=>match o.dst with
   | none=>.ret (.plain [] w)
   | some _ => .fail "a store with a value"
 | .call ⟨.value f,args,_⟩,_=>(ev P ctx 0 f).bind fun
  | .val ⟨false,[.fn f caps]⟩=>match P.funcs[f]? with
   | none => .fail "no such function"
   | some fn => (RM.guard (fn.body.isSome && !(fn.name == "runtime.NumGoroutine")) "a callee without a body").bind fun _ => (XZ P ctx (fn.params.toList.take args.size) args.toList).bind fun args => eH P cfg ctx g id o.dst f caps args
  | _ => .fail "call no function"
 | op,true=>match g,o.dst with
  | none,some d=>(J2 P ctx id op).bind fun (as,c,w)=>.ret (.plain as { w with ts:=[(d,some ⟨ctx,one c⟩)] })
  | some _,some d=>(yK P ctx id op).bind fun c=>.ret (.plain [] { ts:=[(d,some ⟨ctx,one c⟩)] })
  | _, none => .fail "an operation under a guard"
 | op,false=>match o.dst with
  | some d=>(ZV P ctx o.type op).bind fun (as,v,fr)=>(eJ fr).bind fun fr=>.ret (.plain (as.map (ik g)) { ts:=[(d,some ⟨ctx,v⟩)],hs:=fr })
  | none => .fail "an operation without a value"
def xa (ctx:List (Nat×Bool)) (g:Option O.B) (o:Oper) (id:Nat):RM O (StepRes O):=match g,Qs cfg o.op with
 | none,some sp=>(RF P ctx id o.dst sp).bind fun
  | some r=>.ret r
  | none=>Xv P cfg ctx g o id
 | _,_=>Xv P cfg ctx g o id
def KY (ops:List Oper) (o:Oper) (id:Nat):RM O (StepRes O) :=
  (Xa ops o).bind fun ctx=>(WR ctx).bind fun g=>xa P cfg ctx g o id
end
structure Ms where
 t:Nat
 r:Nat
def Ms.or (a b:Ms):Ms:=⟨a.t ||| b.t,a.r ||| b.r⟩
def Xs:Option Ms→Option Ms→Option Ms
 | some a,some b=>some (a.or b)
 | some a,none=>some a
 | none,b=>b
def eu (a:Ms):Option Ms→Option Ms
 | some b=>some (a.or b)
 | none=>none
structure An where
 nrm:Option Ms
 ret:Option Ms
 exts:List (Nat×Ms)
def BR:List (Nat×Ms)→Nat→Option Ms
 | [],_=>none
 | (j,m)::l,k=>match Nat.beq j k with
  | true=>some m
  | false=>BR l k
def Ne:List (Nat×Ms)→Nat→List (Nat×Ms)
 | [],_=>[]
 | (j,m)::l,k=>match Nat.beq j k with
  | true=>Ne l k
  | false=>(j,m)::Ne l k
def W2 (l:List (Nat×Ms)) (k:Nat) (m:Ms):List (Nat×Ms):=match BR l k with
 | some m'=>(k,m'.or m)::Ne l k
 | none=>(k,m)::l
def Sv:List (Nat×Ms)→List (Nat×Ms)→List (Nat×Ms)
 | [],r=>r
 | (k,m)::l,r=>Sv l (W2 r k m)
def TF (ops:List Oper):Nat→Nat→Nat
 | 0,t=>t
 | n+1,t=>match ops.find? (fun o=>match o.dst with | some d=>Nat.beq d t | none=>false) with
  | some o=>match o.op with
   | .fieldAddr _ (.tmp x) _ | .indexAddr _ (.tmp x) _ | .nilCheck (.tmp x) | .move (.tmp x) | .load _ (.tmp x) | .assign (.tmp x)=>TF ops n x
   | _=>t
  | none=>t
def qt (P:Program) (all:List Oper):Operand→Nat
 | .tmp a=>match all.find? (fun o=>match o.dst with | some d=>Nat.beq d a | none=>false) with
  | some o=>match AL P o.type with
   | .ptr | .fn=>DZ (TF all 40 a)
   | _=>0
  | none=>0
 | _=>0
def wZ (P:Program) (all:List Oper):Operand→List Operand→Nat
 | .func f,.tmp a::_=>match P.funcs[f]? with
  | some fn=>match fn.params[0]? with
   | some t=>match AL P t with
    | .ptr=>DZ (TF all 40 a)
    | _=>0
   | none=>0
  | none=>0
 | _,_=>0
def AAP (P:Program) (all:List Oper):Operand→List Operand→Nat
 | .func f,args=>match P.funcs[f]? with
  | some fn=>match fn.resultTypes.toList with
   | []=>args.foldl (fun m x=>m ||| (match x with
    | .tmp a=>match all.find? (fun o=>match o.dst with | some d=>Nat.beq d a | none=>false) with
     | some o=>match AL P o.type with
      | .sl _=>DZ (TF all 40 a)
      | _=>0
     | none=>0
    | _=>0)) 0
   | _=>0
  | none=>0
 | _,_=>0
def o5 (P:Program) (all:List Oper):List Oper→Nat
 | []=>0
 | o::r=>(match o.op with
  | .store _ (.tmp a) _=>DZ (TF all 40 a)
  | .mapUpdate _ (.tmp a) _ _ | .mapEntry _ (.tmp a) _ | .entryStore _ (.tmp a) _ _=>DZ (TF all 40 a)
  | .call c=>match c.callee with
   | .value f=>c.args.toList.foldl (fun m x=>m ||| qt P all x) (qt P all f) ||| wZ P all f c.args.toList ||| AAP P all f c.args.toList
   | .builtin .append=>match c.args.toList with
    | .tmp a::_=>DZ (TF all 40 a)
    | _=>0
   | _=>0
  | _=>0) ||| o5 P all r
def bF:List Oper→Nat
 | []=>0
 | o::r=>(match o.dst with | some d=>DZ d | none=>0) ||| bF r
def an (P:Program):Code→An
 | .skip=>⟨some ⟨0,0⟩,none,[]⟩
 | .region _ ops _=>⟨some ⟨bF ops.toList,o5 P ops.toList ops.toList⟩,none,[]⟩
 | .seq a b=>match an P a with
  | ⟨none,r,e⟩=>⟨none,r,e⟩
  | ⟨some m,r,e⟩=>match an P b with
   | ⟨n',r',e'⟩=>⟨eu m n',Xs r (eu m r'),Sv (e'.map fun (k,x)=>(k,m.or x)) e⟩
 | .cond _ a b=>match an P a,an P b with
  | ⟨n,r,e⟩,⟨n',r',e'⟩=>⟨Xs n n',Xs r r',Sv e e'⟩
 | .block id b=>match an P b with
  | ⟨n,r,e⟩=>⟨Xs n (BR e id),r,Ne e id⟩
 | .loop b=>match an P b with
  | ⟨n,r,e⟩=>⟨none,match n with | some m=>eu m r | none=>r,match n with | some m=>e.map (fun (k,x)=>(k,m.or x)) | none=>e⟩
 | .exit id=>⟨none,none,[(id,⟨0,0⟩)]⟩
 | .ret=>⟨none,some ⟨0,0⟩,[]⟩
 | _=>⟨none,none,[]⟩
structure Cn where
 nrm:Nat
 ret:Nat
 exts:List (Nat×Nat)
def tP:List (Nat×Nat)→Nat→Nat
 | [],_=>0
 | (j,m)::l,k=>match Nat.beq j k with
  | true=>m+tP l k
  | false=>tP l k
def cnt:Code→Cn
 | .skip | .region ..=>⟨1,0,[]⟩
 | .seq a b=>match cnt a,cnt b with
  | ⟨0,r,e⟩,_=>⟨0,r,e⟩
  | ⟨n,r,e⟩,⟨n',r',e'⟩=>⟨n',r+r',e++e'⟩
 | .cond _ a b=>match cnt a,cnt b with
  | ⟨n,r,e⟩,⟨n',r',e'⟩=>⟨n+n',r+r',e++e'⟩
 | .block id b=>match cnt b with
  | ⟨n,r,e⟩=>⟨n+tP e id,r,e.filter fun (k,_) => !Nat.beq k id⟩
 | .loop b=>match cnt b with
  | ⟨n,r,e⟩=>⟨0,(match r with | 0=>0 | _=>1),e.map fun (k,_)=>(k,1)⟩
 | .exit id=>⟨0,0,[(id,1)]⟩
 | .ret=>⟨0,1,[]⟩
 | _=>⟨0,0,[]⟩
def nK:Operand→Nat
 | .tmp t=>DZ t
 | _=>0
def MT (nt:Nat):List Oper→Bool
 | []=>true
 | o::r=>(match o.dst with | some d=>Nat.blt d nt | none=>true)&&MT nt r
def DW (nt:Nat):Code→Bool
 | .region _ ops _=>MT nt ops.toList
 | .seq a b=>DW nt a&&DW nt b
 | .cond _ a b=>DW nt a&&DW nt b
 | .block _ b=>DW nt b
 | .loop b=>DW nt b
 | _=>true
def mT:List Oper→Nat
 | []=>0
 | o::r=>o.op.operands.toList.foldl (fun m x=>m ||| nK x) 0 ||| mT r
def Vi:Code→Nat
 | .region _ ops _=>mT ops.toList
 | .seq a b=>Vi a ||| Vi b
 | .cond c a b=>nK c ||| Vi a ||| Vi b
 | .block _ b | .loop b | .scope b=>Vi b
 | _=>0
def Wt:Code→Nat
 | .region _ ops _=>ops.size
 | .seq a b=>Wt a+Wt b
 | .cond _ a b=>4+Wt a+Wt b
 | .block _ b=>Wt b
 | .loop _=>1000
 | _=>0
inductive Ex where
 | nrm
 | ext (id:Nat)
 | ret
structure Lv where
 nrm:Nat
 ret:Nat
 exts:List (Nat×Nat)
def yX:List (Nat×Nat)→Nat→Nat
 | [],_=>0
 | (j,m)::l,k=>match Nat.beq j k with
  | true=>m
  | false=>yX l k
def Lv.of (lv:Lv):Ex→Nat
 | .nrm=>lv.nrm
 | .ret=>lv.ret
 | .ext id=>yX lv.exts id
def Lv.all (lv:Lv):Nat:=lv.exts.foldl (fun m (_,x)=>m ||| x) (lv.nrm ||| lv.ret)
inductive SlotC where
 | int (k:IntKind) | bool | str | own (e:TypeId) (nw:Bool) | imm (e:TypeId) (nw:Bool) | any (T:TypeId) | opq (nw:Bool)
inductive Slot where
 | t (n:Nat) (agg:Bool) (cs:List SlotC)
 | b (id:Nat) (cs:List SlotC)
def tf (cfg:Cfg) (e:Nat):Bool:=cfg.imm||C1 e cfg.ie
def ABQ {O:Alg} (s:State O) (cfg:Cfg):AC O→Option SlotC
 | .int k _=>some (.int k)
 | .bool _=>some .bool
 | .str _=>some .str
 | .any T=>some (.any T)
 | .opq nw _=>some (.opq (nw && !cfg.old))
 | .nil e=>some (match tf cfg e with | true=>.imm e (!cfg.old) | false=>.own e (!cfg.old))
 | .imm e nw _=>some (.imm e (nw && !cfg.old))
 | .own e id=>match s.getH id with
  | some h=>some (match h.frozen||tf cfg e with | true=>.imm e (h.nw && !cfg.old) | false=>.own e (h.nw && !cfg.old))
  | none=>none
 | _=>none
def pd {O:Alg} (s:State O) (cfg:Cfg):List (AC O)→Option (List SlotC)
 | []=>some []
 | c::r=>match ABQ s cfg c,pd s cfg r with
  | some a,some l=>some (a::l)
  | _,_=>none
section
variable {O:Alg} (P:Program) (cfg:Cfg)
def jo (s:State O) (n:Nat):List Nat:=match s.getT n with
 | some ⟨_,.val ⟨false,[.ptr b _]⟩⟩=>[b]
 | some ⟨_,.val ⟨false,[.aptr b _ _ _ _ _]⟩⟩=>[b]
 | some ⟨_,.val ⟨false,[.fn _ caps]⟩⟩=>JI caps
 | _=>[]
def ABh (s:State O) (n:Nat):Bool:=match s.getT n with
 | some ⟨_,.val ⟨false,[.fn _ _]⟩⟩=>true
 | _=>false
def uG (s:State O) (n:Nat):List Nat:=match s.getT n with
 | some ⟨_,.val ⟨false,[.eptr id _ _]⟩⟩=>[id]
 | some ⟨_,.val ⟨false,[.mp _ id]⟩⟩=>[id]
 | _=>[]
def AAl (s:State O) (hid:List Nat) (n:Nat):Bool:=match s.getT n with
 | some ⟨_,.val ⟨false,[.own _ id]⟩⟩ => !C1 id hid
 | _=>false
def K5 (s:State O):List Nat→List Nat→List (Nat×TypeId×Bool)
 | [],_=>[]
 | n::r,seen=>match C1 n seen with
  | true=>K5 s r seen
  | false=>match s.getH n with
   | none=>K5 s r seen
   | some h=>match h.frozen with
    | true=>K5 s r seen
    | false=>(n,h.e,h.nw)::K5 s r (n::seen)
def OP (m:Nat):Nat→List Nat→List Nat
 | 0,acc=>match m.testBit 0 with | true=>0::acc | false=>acc
 | n+1,acc=>OP m n (match m.testBit (n+1) with | true=>(n+1)::acc | false=>acc)
def WP (m:Nat):Nat:=m.log2
def K0 (s:State O):List Nat→List Nat→Option (List Slot)
 | [],_=>some []
 | b::r,seen=>match C1 b seen with
  | true=>K0 s r seen
  | false=>match s.getB b with
   | none=>K0 s r seen
   | some e=>match pd s cfg e.cs,K0 s r (b::seen) with
    | some cs,some l=>some (.b b cs::l)
    | _,_=>none
def NL (s:State O):List Nat→List Slot
 | []=>[]
 | n::r=>match s.getT n with
  | some ⟨[],.val v⟩=>match pd s cfg v.cs with
   | some cs=>.t n v.agg cs::NL s r
   | none=>NL s r
  | _=>NL s r
def Sy (s:State O) (m:Nat):List Nat:=OP m (WP m) []
def hOf (s:State O) (m:Ms):List (Nat×TypeId×Bool):=K5 s (((Sy s m.r).map (uG s)).flatten) []
def jx (s:State O) (n:Nat):List Nat:=match s.getT n with
 | some ⟨_,.val ⟨false,[.own _ id]⟩⟩=>[id]
 | _=>[]
def yJ (s:State O) (m:Ms):List Nat:=match C1 60002 cfg.ie with
 | true=>(((Sy s m.r).filter fun n => !m.t.testBit n).map (jx s)).flatten
 | false=>[]
def nJ (s:State O) (m:Ms):List (Nat×TypeId×Bool):=K5 s (((Sy s m.r).map (uG s)).flatten++yJ cfg s m) []
def uc (s:State O) (m:Ms) (live:Nat):Option (List Slot) :=
 let rs:=Sy s m.r
 let tmps:=(m.t ||| rs.foldl (fun a n=>match AAl s ((nJ cfg s m).map (·.1)) n with | true=>a ||| DZ n | false=>a) 0) &&& live
 match K0 cfg s (((rs.filter fun n=>live.testBit n||(C1 60000 cfg.ie&&ABh s n)).map (jo s)).flatten) [] with
 | some l=>some (NL cfg s (OP tmps (WP tmps) [])++l)
 | none=>none
def DR (s:State O) (m:Ms):List Nat:=((Sy s m.r).map (jo s)).flatten
def fo:List (AC O)→List Nat
 | []=>[]
 | .own _ id::r=>id::fo r
 | _::r=>fo r
def mR (s:State O):List Nat→List Nat
 | []=>[]
 | n::r=>(match s.getT n with | some ⟨_,.val v⟩=>fo v.cs | _=>[])++mR s r
def yL (s:State O):List Nat→List Nat
 | []=>[]
 | b::r=>(match s.getB b with | some e=>fo e.cs | none=>[])++yL s r
def bL (s:State O) (m:Ms):List Nat:=mR s (OP (m.t ||| m.r) (WP (m.t ||| m.r)) [])++yL s (DR s m)
def Xr (s:State O) (m:Ms):List Nat:=bL s m++(hOf s m).map (·.1)
def QR (s:State O) (ids:List Nat):List (Nat×HEnt O):=s.hp.filter fun (n,_) => !C1 n ids
def Ow (s:State O) (bs:List Nat):List (Nat×BEnt O):=s.bx.filter fun (n,_) => !C1 n bs
def cleanB (l:List (Nat×BEnt O)):List (Nat×BEnt O):=l.map fun (n,e)=>(n,{ e with dirty:=false })
def cleanH (l:List (Nat×HEnt O)):List (Nat×HEnt O):=l.map fun (n,e)=>(n,{ e with dirty:=false })
def JC (s:State O) (keep:List Nat) (used:List Nat):SlotC→AC O→Except String (O.Lf×List Nat)
 | .int k, .int k' i => match Tm k k' with | true => .ok (.int i, used) | false => .error "a slot of another kind"
 | .bool,.bool b=>.ok (.bool b,used)
 | .str,.str x=>.ok (.str x,used)
 | .any T, .any T' => match Nat.beq T T' with | true => .ok (.bool O.m, used) | false => .error "a slot of another type"
 | .opq nw, .opq nw' n => match nw' || !nw with | true => .ok (.int n, used) | false => .error "another slot"
 | .own e _, .nil e' => match Nat.beq e e' with | true => .ok (.rows O.y, used) | false => .error "a slot of another element"
 | .imm e _, .nil e' => match Nat.beq e e' with | true => .ok (.rows O.y, used) | false => .error "a slot of another element"
 | .own e nw,.own e' id=>match s.getH id with
  | some h=>match Nat.beq e e'&&Nat.beq e h.e && !h.frozen&&(h.nw || !nw) && !C1 id used && !C1 id keep with
   | true=>.ok (.rows h.l,id::used)
   | false => .error "an owned slot that is shared"
  | none => .error "a slot whose slice is gone"
 | .own _ _, .imm _ _ _ => .error "an owned slot that is not owned"
 | .imm e nw, .imm e' nw' l => match Nat.beq e e' && (nw' || !nw) with | true => .ok (.rows l, used) | false => .error "a shared slot"
 | .imm e nw,.own e' id=>match s.getH id with
  | some h=>match Nat.beq e e'&&Nat.beq e h.e&&(h.nw || !nw)&&(h.frozen || !C1 id keep) && !C1 id used with
   | true=>.ok (.rows h.l,match h.frozen with | true=>used | false=>id::used)
   | false => .error "a shared slot of an owned slice"
  | none => .error "a slot whose slice is gone"
 | _, _ => .error "a slot"
def Ht (s:State O) (keep used:List Nat):List SlotC→List (AC O)→Except String (List O.Lf×List Nat)
 | [],[]=>.ok ([],used)
 | a::as,c::cs=>match JC s keep used a c with
  | .error e=>.error e
  | .ok (l,u)=>match Ht s keep u as cs with
   | .error e=>.error e
   | .ok (ls,u)=>.ok (l::ls,u)
 | _, _ => .error "slots"
def Iw (s:State O) (keep:List Nat):List Nat→List Slot→Except String (List O.Lf)
 | _,[]=>.ok []
 | used,.t n agg cs::r=>match s.getT n with
  | some ⟨[],.val v⟩=>match v.agg==agg,Ht s keep used cs v.cs with
   | true,.ok (ls,u)=>match Iw s keep u r with
    | .ok more=>.ok (ls++more)
    | .error e=>.error e
   | true,.error e=>.error e
   | false, _ => .error "a slot s form"
  | _ => .error "a slot that is not there"
 | used,.b b cs::r=>match s.getB b with
  | some e=>match Ht s keep used cs e.cs with
   | .ok (ls,u)=>match Iw s keep u r with
    | .ok more=>.ok (ls++more)
    | .error e=>.error e
   | .error e=>.error e
  | none => .error "a slot s variable is gone"
def RB (s:State O):List (Nat×BEnt O)→Bool
 | []=>true
 | (n,_)::r=>match s.getB n with
  | some e=>match e.dirty with
   | true=>false
   | false=>RB s r
  | none=>false
def Qz (s:State O):List (Nat×HEnt O)→Bool
 | []=>true
 | (n,_)::r=>match s.getH n with
  | some e=>match e.dirty with
   | true=>false
   | false=>Qz s r
  | none=>false
def F2 (c:O.C) (j q:Nat):SlotC→AC O×List (Nat×HEnt O)
 | .int k=>(.int k (O.d c j),[])
 | .bool=>(.bool (O.q c j),[])
 | .str=>(.str (O.cS c j),[])
 | .own e nw=>(.own e q,[(q,{ e,frozen:=false,nw,l:=O.k c j,dirty:=true })])
 | .imm e nw=>(.imm e nw (O.k c j),[])
 | .any T=>(.any T,[])
 | .opq nw=>(.opq nw (O.d c j),[])
def Lp (c:O.C):Nat→Nat→List SlotC→List (AC O)×List (Nat×HEnt O)
 | _,_,[]=>([],[])
 | j,q,a::as=>match F2 c j q a with
  | (x,h)=>match Lp c (j+1) (q+h.length) as with
   | (xs,hs)=>(x::xs,h++hs)
def B3 (c:O.C):Nat→Nat→List Slot→State O→State O
 | _,q,[],s=>{ s with st:=q }
 | j,q,.t n agg cs::r,s=>match Lp c j q cs with
  | (xs,hs)=>B3 c (j+cs.length) (q+hs.length) r { s with tm:=GH s.tm n (some ⟨[],.val { agg,cs:=xs }⟩),hp:=hs++s.hp }
 | j,q,.b b cs::r,s=>match Lp c j q cs with
  | (xs,hs)=>B3 c (j+cs.length) (q+hs.length) r { s with bx:=Ol s.bx b (some { cs:=xs,dirty:=true }),hp:=hs++s.hp }
def mC (t:TM (TV O)):List Nat→TM (TV O)
 | []=>t
 | n::r=>mC (GH t n none) r
structure Way (O:Alg) where
 e:Ex
 slots:List Slot
 base:State O
 hs:List (Nat×TypeId×Bool)
def ZN (s:State O):List (Nat×TypeId×Bool)→Except String (List O.Lf)
 | []=>.ok []
 | (n,e,nw)::r=>match s.getH n with
  | none => .error "a kept slice is gone"
  | some h=>match Nat.beq h.e e&&(!h.frozen&&h.nw==nw) with
   | false => .error "a kept slice"
   | true=>match ZN s r with
    | .ok ls=>.ok (.rows h.l::ls)
    | .error e=>.error e
def QE (c:O.C):Nat→List (Nat×TypeId×Bool)→List (Nat×HEnt O)
 | _,[]=>[]
 | j,(n,e,nw)::r=>(n,{ e,frozen:=false,nw,l:=O.k c j,dirty:=true })::QE c (j+1) r
def Way.keep (w:Way O):List Nat:=w.hs.map (·.1)++w.base.hp.map (·.1)
def Way.baseC (w:Way O) (c:O.C) (j:Nat):State O:={ w.base with hp:=QE c j w.hs++w.base.hp }
def Way.encL (w:Way O) (s':State O):Except String (List O.Lf):=match ZN s' w.hs with
 | .error e=>.error e
 | .ok a=>match Iw s' w.keep [] w.slots with
  | .error e=>.error e
  | .ok b=>.ok (a++b)
def Mv (s:State O) (e:Ex) (m:Ms) (live:Nat):Except String (Way O):=match uc cfg s m live with
  | none => .error "a layout"
  | some sl => .ok { e, slots := sl, base :=
      { tm:=mC s.tm (OP m.t (WP m.t) []),bx:=Ow s (DR s m),hp:=QR s (Xr s m),st:=s.st },hs:=nJ cfg s m }
def Way.enc (w:Way O) (tag:Option Nat) (s':State O):O.M :=
 match RB s' w.base.bx,Qz s' w.base.hp with
 | true,true=>match w.encL s' with
  | .ok ls=>O.a (match tag with | some t=>.int (O.lit .i64 t)::ls | none=>ls)
  | .error e=>O.ad e
 | _, _ => O.ad "memory that a join does not know"
def Way.dec (w:Way O) (tagged:Bool) (c:O.C):State O:=B3 c ((match tagged with | true=>1 | false=>0)+w.hs.length) w.base.st w.slots (w.baseC c (match tagged with | true=>1 | false=>0))
def aa (s:State O) (lv:Lv) (e:Ex):Option Ms→Except String (List (Way O))
 | none=>.ok []
 | some m=>match Mv cfg s e m (lv.of e) with
  | .ok w=>.ok [w]
  | .error e=>.error e
def W8 (s:State O) (lv:Lv):List (Nat×Ms)→Except String (List (Way O))
 | []=>.ok []
 | (id,m)::r=>match aa cfg s lv (.ext id) (some m),W8 s lv r with
  | .ok a,.ok b=>.ok (a++b)
  | .error e,_=>.error e
  | _,.error e=>.error e
def Wj (s:State O) (a:An) (lv:Lv):Except String (List (Way O)) :=
 match aa cfg s lv .nrm a.nrm,aa cfg s lv .ret a.ret,W8 cfg s lv a.exts with
 | .ok x,.ok y,.ok z=>.ok (x++y++z)
 | .error e,_,_=>.error e
 | _,.error e,_=>.error e
 | _,_,.error e=>.error e
def wO:Ex→Ex→Bool
 | .nrm,.nrm=>true
 | .ret,.ret=>true
 | .ext a,.ext b=>Nat.beq a b
 | _,_=>false
def Ly (tagged:Bool) (e:Ex) (s':State O):Nat→List (Way O)→O.M
 | _, [] => O.ad "a way out that was not seen"
 | i,w::r=>match wO e w.e with
  | true=>w.enc (match tagged with | true=>some i | false=>none) s'
  | false=>Ly tagged e s' (i+1) r
def NG (c:O.C) (k:Ex→State O→O.M) (tagged:Bool):Nat→List (Way O)→O.M
 | _, [] => O.ad "no way out"
 | _,[w]=>k w.e (w.dec tagged c)
 | i,w::r=>O.b (O.ac c i) (k w.e (w.dec tagged c)) (NG c k tagged (i+1) r)
def cleaned (s:State O):State O:={ s with bx:=cleanB s.bx,hp:=cleanH s.hp }
def scope (a:An) (lv:Lv) (s:State O) (run:State O→(Ex→State O→O.M)→O.M) (k:Ex→State O→O.M):O.M :=
 match Wj cfg s a lv with
 | .error e=>O.ad e
 | .ok ws =>
  let tagged:=Nat.blt 1 ws.length
  O.c (run (cleaned s) fun e s'=>Ly tagged e s' 0 ws) fun c=>NG c k tagged 0 ws
def B6:List Oper→List Nat→List Nat
 | [],acc=>acc
 | o::r,acc=>B6 r (acc++[o.after.toList.foldl (fun s e=>match e.ground with
  | .textOnly _ | .gcOnly _=>s
  | _=>s ||| DZ e.on ||| acc.getD e.on 0) 0])
def Nl (bs:List Nat) (ms:List (Nat×Nat)):Bool :=
 let rec inner (j bj rj wj:Nat):Nat→List (Nat×Nat)→Bool
  | _,[]=>true
  | i,(r,w)::l=>match Nat.ble j i with
   | true=>true
   | false=>match bj.testBit i||(Nat.beq (w &&& (rj ||| wj)) 0&&Nat.beq (wj &&& r) 0) with
    | true=>inner j bj rj wj (i+1) l
    | false=>false
 let rec outer:Nat→List Nat→List (Nat×Nat)→Bool
  | j,b::bs,(r,w)::l=>match inner j b r w 0 ms with
   | true=>outer (j+1) bs l
   | false=>false
  | _,_,_=>true
 outer 0 bs ms
def iE:List Nat→Bool
 | []=>true
 | n::l => !C1 n l&&iE l
def Ux:List O.B→O.M→O.M
 | [],m=>m
 | a::r,m=>O.j a (Ux r m)
def Fb:TM (TV O)→TM (TV O)
 | .e=>.e
 | .leaf a=>match a.gs with
  | []=>.leaf a
  | _=>.e
 | .node l r=>.node (Fb l) (Fb r)
def E8 (ops:List Oper):Nat→List Nat→List Oper→Bool
 | i,b::bs,o::r=>match o.guard with
  | none=>E8 ops (i+1) bs r
  | some (j,_)=>Nat.blt j i&&b.testBit j&&(match (ops[j]?).bind (·.dst) with | some _=>true | none=>false)&&E8 ops (i+1) bs r
 | _,_,[]=>true
 | _,[],_::_=>false
def ZQ:Nat→List Oper→Bool
 | _,[]=>true
 | i,o::r=>(o.after.toList.all fun e=>match e.ground with
  | .textOnly _ | .gcOnly _=>true
  | _=>Nat.blt e.on i)&&ZQ (i+1) r
def EG (inl : FuncId → List (AV O) → State O → (AV O → State O → O.M) → O.M) (all : List Oper) (draw : Bool) :
    List Oper→Nat→State O→List (Nat×Nat)→(State O→List (Nat×Nat)→O.M)→O.M
  | [],id,s,ms,k=>k { s with st:=id } ms
  | o::r,id,s,ms,k=>match RM.run s (KY P cfg all o id) 0 with
    | .error e=>O.ad e
    | .ok (.plain as w,rd)=>Ux as (EG inl all draw r (id+BV P o) (s.apply w) (ms++[(rd,w.mask)]) k)
    | .ok (.call g f fns args dm next,rd) =>
      let m:=O.f f fns args
      O.c (match g with | none=>m | some g=>O.b g m (O.a dm)) fun c=>match next c with
        | none => O.ad "a result"
        | some w=>EG inl all draw r (id+BV P o) (s.apply w) (ms++[(rd,w.mask)]) k
    | .ok (.inl f args,rd)=>match draw with
      | true => O.ad "a call that has no contract in a region that draws"
      | false=>inl f args { s with st:=id+BV P o } fun v s' =>
        EG inl all draw r s'.st (match o.dst with | some d=>{ s' with tm:=GH s'.tm d (some ⟨[],v⟩) } | none=>s') (ms++[(0,0)]) k
    | .ok (.inlg g f args w,rd)=>match draw with
      | true => O.ad "a call that has no contract in a region that draws"
      | false=>O.b g (inl f args { s with st:=id+BV P o } fun v s' =>
        EG inl all draw r s'.st (match o.dst with | some d=>{ s' with tm:=GH s'.tm d (some ⟨[],v⟩) } | none=>s') (ms++[(0,0)]) k)
        (EG inl all draw r (id+BV P o) (s.apply w) (ms++[(rd,w.mask)]) k)
def Ah:List Oper→List Nat
 | []=>[]
 | o::r=>match o.dst with | some d=>d::Ah r | none=>Ah r
def yi (o:Oper):Bool:=match o.op,o.guard with
 | .call ⟨.value _,_,_⟩,none=>true
 | _,_=>false
def aL (ops:List Oper):Bool:=match ops.drop (ops.length - 1) with
 | [o]=>yi o&&Nat.beq ((B6 ops []).getD (ops.length - 1) 0 &&& (DZ (ops.length - 1) - 1)) (DZ (ops.length - 1) - 1)
 | _=>false
def Kh (inl:FuncId→List (AV O)→State O→(AV O→State O→O.M)→O.M) (ops:List Oper) (draw:Bool) (s:State O) (k:State O→O.M):O.M :=
 match iE (Ah ops)&&(E8 ops 0 (B6 ops []) ops&&ZQ 0 ops) with
 | false => O.ad "a temporary that is written twice"
 | true=>match draw&&aL ops with
  | true=>EG P cfg inl ops true (ops.take (ops.length - 1)) s.st s [] fun s' ms =>
   match Nl (B6 ops []) ms with
   | false => O.ad "an order that is open"
   | true=>EG P cfg inl ops false (ops.drop (ops.length - 1)) s'.st s' [] fun s' _=>k { s' with tm:=Fb s'.tm }
  | false=>EG P cfg inl ops draw ops s.st s [] fun s' ms =>
   match !draw||Nl (B6 ops []) ms with
   | false => O.ad "an order that is open"
   | true=>k { s' with tm:=Fb s'.tm }
def tD (s:State O):Operand→Option O.B
 | .tmp n=>match s.getT n with
  | some ⟨[],.val ⟨false,[.bool b]⟩⟩=>some b
  | _=>none
 | .const (.bool b)=>some (match b with | true=>O.m | false=>O.g)
 | _=>none
def tW (head:Way O) (ws:List (Way O)) (tagged:Bool) (self:List O.Lf→O.M):Ex→State O→O.M:=fun e s'=>match e with
 | .nrm=>match RB s' head.base.bx,Qz s' head.base.hp with
  | true,true=>match head.encL s' with
   | .ok ls=>self ls
   | .error e=>O.ad e
  | _, _ => O.ad "memory that a loop does not know"
 | e=>Ly tagged e s' 0 ws
def jU (o:Oper):Bool:=match o.op,o.guard with
 | .panic _,none=>true
 | _,_=>false
def X (inl:FuncId→List (AV O)→State O→(AV O→State O→O.M)→O.M):Code→Bool→Lv→State O→(Ex→State O→O.M)→O.M
 | .skip,_,_,s,k=>k .nrm s
 | .region _ ops draw,_,_,s,k=>match ops.toList.any jU with
  | true=>O.j O.g (O.a [])
  | false=>Kh P cfg inl ops.toList draw s fun s'=>k .nrm s'
 | .seq a b,light,lv,s,k=>X inl a (light&&Nat.ble (Wt b) 6) { lv with nrm:=Vi b ||| lv.all } s fun e s'=>match e with
  | .nrm=>X inl b light lv s' k
  | e=>k e s'
 | .cond c a b,light,lv,s,k=>match tD s c with
  | none => O.ad "a condition"
  | some x=>match light||Nat.blt ((cnt a).nrm+(cnt b).nrm) 2 with
   | true=>O.b x (X inl a light lv s k) (X inl b light lv s k)
   | false=>scope cfg (an P (.cond c a b)) lv s (fun s k=>O.b x (X inl a true lv s k) (X inl b true lv s k)) k
 | .block id b,light,lv,s,k =>
  let lv':Lv:={ lv with exts:=(id,lv.nrm)::lv.exts }
  let k':Ex→State O→O.M:=fun e s'=>match e with
   | .ext i=>match Nat.beq i id with
    | true=>k .nrm s'
    | false=>k e s'
   | e=>k e s'
  match light||Nat.blt ((cnt b).nrm+tP (cnt b).exts id) 2 with
  | true=>X inl b light lv' s k'
  | false=>scope cfg (an P b) lv' s (fun s k=>X inl b true lv' s k) k'
 | .loop b,_,lv,s,k =>
  let a:=an P b
  let lvb:Lv:={ lv with nrm:=Vi b ||| lv.all }
  match a.nrm with
  | none => O.ad "a loop of one round"
  | some m=>match Mv cfg s .nrm m lvb.nrm,Wj cfg s (an P (.loop b)) lv with
   | .ok head,.ok ws =>
    let tagged:=Nat.blt 1 ws.length
    match head.encL s with
    | .error e=>O.ad e
    | .ok ls=>O.c (O.w (fun self c=>X inl b true lvb (cleaned (head.dec false c)) (tW head ws tagged self)) ls) fun c=>NG c k tagged 0 ws
   | .error e,_=>O.ad e
   | _,.error e=>O.ad e
 | .exit id,_,_,s,k=>k (.ext id) s
 | .ret,_,_,s,k=>k .ret s
 | _, _, _, _, _ => O.ad "code"
def nE (s:State O):ResultVar→Option (Val O)
 | .tmp t=>match s.getT t with
  | some ⟨[],.val v⟩=>some v
  | _=>none
 | .cell a T=>match s.getT a with
  | some ⟨[],.val ⟨false,[.ptr b off]⟩⟩=>match s.getB b with
   | some e=>match Gc e.cs off (P.cellsOf T) with
    | some cs=>match QM P T cs.length with
     | true=>some { agg:=Ad P T,cs }
     | false=>none
    | none=>none
   | none=>none
  | _=>none
def NX (s:State O):List ResultVar→Option (List (Val O))
 | []=>some []
 | r::rs=>match nE P s r,NX s rs with
  | some v,some l=>some (v::l)
  | _,_=>none
def P5:List ResultVar→Nat
 | []=>0
 | .tmp t::r=>DZ t ||| P5 r
 | .cell t _::r=>DZ t ||| P5 r
def CN:Nat→List (AV O)→TM (TV O)→TM (TV O)
 | _,[],t=>t
 | i,v::r,t=>CN (i+1) r (GH t i (some ⟨[],v⟩))
def nZ (cfg:Cfg):List TypeId→Option (List SlotC)
 | []=>some []
 | t::ts=>match nZ cfg ts with
  | none=>none
  | some r=>match AL P t with
   | .int k=>some (.int k::r)
   | .bool=>some (.bool::r)
   | .str=>some (.str::r)
   | .sl e=>some ((match tf cfg e with | false=>.own e false | true=>.imm e false)::r)
   | _=>none
def Ip:List TypeId→List (AC O)→Option (List (Val O))
 | [],_=>some []
 | t::ts,cs=>match AW P t with
  | none=>none
  | some l=>match Ip ts (cs.drop l.length) with
   | none=>none
   | some r=>some ({ agg:=Ad P t,cs:=cs.take l.length }::r)
def OT:List TypeId→List (Val O)→Bool
 | [],[]=>true
 | t::ts,v::vs=>(match AW P t with
  | some l=>v.agg==Ad P t&&AX P l v.cs
  | none=>false)&&OT ts vs
 | _,_=>false
def U4:Ex→Bool
 | .ext _=>true
 | _=>false
def gE (a:An):Ms:=match Xs a.nrm a.ret with
 | some m=>m
 | none=>⟨0,0⟩
def jt (rec':Code→Bool→Lv→State O→(Ex→State O→O.M)→O.M) (f:FuncId) (args:List (AV O)) (s:State O) (k:AV O→State O→O.M):O.M :=
  match P.funcs[f]? with
  | none => O.ad "no such function"
  | some fn=>match fn.body with
    | none => O.ad "a function without a body"
    | some body=>match DW fn.ntmps body with
     | false => O.ad "temporaries"
     | true =>
      let s1:State O:={ s with tm:=CN 0 args .e }
      let live:=P5 fn.results.toList ||| (DZ args.length - 1)
      let lv:Lv:={ nrm:=live,ret:=live,exts:=[] }
      let c:=cnt body
      match Nat.blt (c.nrm+c.ret) 2 || !(nJ cfg s1 (gE (an P body))).isEmpty with
      | true=>rec' body false lv s1 fun e s'=>match U4 e,NX P s' fn.results.toList with
        | false,some vs=>k (Kt vs) { s' with tm:=s.tm }
        | _, _ => O.ad "results"
      | false =>
        let a:=an P body
        let m:Ms:=gE a
        match K0 cfg s1 (DR s1 m) [],(K7 P fn.resultTypes.toList).bind (nZ P cfg) with
        | some sl,some rs =>
          let base:State O:={ s with bx:=Ow s (DR s1 m),hp:=QR s (bL s1 m) }
          let keep:=base.hp.map (·.1)
          O.c (rec' body true lv (cleaned s1) fun e s'=>match U4 e,NX P s' fn.results.toList with
            | true, _ | _, none => O.ad "results"
            | false,some vs=>match OT P fn.resultTypes.toList vs&&RB s' base.bx,Qz s' base.hp,Ht s' keep [] rs ((vs.map (·.cs)).flatten) with
              | true,true,.ok (ls,used)=>match Iw s' keep used sl with
                | .ok more=>O.a (ls++more)
                | .error e=>O.ad e
              | true,true,.error e=>O.ad e
              | _, _, _ => O.ad "memory that a call does not know") fun c =>
            match Lp c 0 base.st rs with
            | (xs,hs)=>match Ip P fn.resultTypes.toList xs with
              | none => O.ad "results"
              | some vs=>k (Kt vs) (B3 c rs.length (base.st+hs.length) sl { base with hp:=hs++base.hp })
        | _, _ => O.ad "a layout of a call"
def XL:Nat→Code→Bool→Lv→State O→(Ex→State O→O.M)→O.M
 | 0 => fun _ _ _ _ _ => O.ad "too deep"
 | n+1=>X P cfg (jt P cfg (XL n))
def Ao (give:Bool):Nat→List TypeId→List O.Lf→Option (List (AC O)×List (Nat×HEnt O)×List O.Lf)
 | _,[],ls=>some ([],[],ls)
 | q,t::ts,l::ls=>match AL P t,l with
  | .int k,.int i=>(Ao give q ts ls).map fun (cs,h,r)=>(.int k i::cs,h,r)
  | .bool,.bool b=>(Ao give q ts ls).map fun (cs,h,r)=>(.bool b::cs,h,r)
  | .str,.str s=>(Ao give q ts ls).map fun (cs,h,r)=>(.str s::cs,h,r)
  | .opq,.int n=>(Ao give q ts ls).map fun (cs,h,r)=>(.opq false n::cs,h,r)
  | .sl e,.rows l=>match give with
   | false=>(Ao give q ts ls).map fun (cs,h,r)=>(.imm e false l::cs,h,r)
   | true=>(Ao give (q+1) ts ls).map fun (cs,h,r)=>(.own e q::cs,(q,{ e,frozen:=false,nw:=false,l,dirty:=true })::h,r)
  | _,_=>none
 | _,_::_,[]=>none
def BP:List Bool→Nat→List TypeId→List Nat→List O.Lf→Option (List (AV O)×List (Nat×HEnt O))
 | _,_,[],[],[]=>some ([],[])
 | gv,q,t::ts,fns,ls=>match AL P t with
  | .fn=>match fns with
   | f::fns=>match tV P f with
    | some cts=>match Fk cts ls with
     | some (caps,ls)=>(BP gv.tail q ts fns ls).map fun (r,h)=>(one (.fn f caps)::r,h)
     | none=>none
    | none=>none
   | []=>none
  | _=>match AW P t with
   | none=>none
   | some l=>match Ao P (gv.headD false) q l ls with
    | none=>none
    | some (cs,h,ls)=>(BP gv.tail (q+h.length) ts fns ls).map fun (r,hs)=>(.val { agg:=Ad P t,cs }::r,h++hs)
 | _,_,[],_,_=>none
def QZ {α:Type} (l:α):Except String (List α)→Except String (List α)
 | .ok ls=>.ok (l::ls)
 | .error e=>.error e
def EC (s:State O) (own:Nat→Bool) (nw:Bool) (used:List Nat):List (AC O)→Except String (List O.Lf)
 | []=>.ok []
 | c::r=>match c with
  | .int _ i=>QZ (.int i) (EC s own nw used r)
  | .bool b=>QZ (.bool b) (EC s own nw used r)
  | .str x=>QZ (.str x) (EC s own nw used r)
  | .nil _=>QZ (.rows O.y) (EC s own nw used r)
  | .opq n i=>match n || !nw with
   | true=>QZ (.int i) (EC s own nw used r)
   | false => .error "a result that is not fresh"
  | .imm e n l=>match !own e&&(n || !nw) with
   | true=>QZ (.rows l) (EC s own nw used r)
   | false => .error "a result that is not fresh"
  | .own e id=>match s.getH id with
   | some h=>match (!own e || !h.frozen)&&(h.frozen || !C1 id used)&&(h.nw || !nw) with
    | true=>QZ (.rows h.l) (EC s own nw (id::used) r)
    | false => .error "a result that is shared"
   | none => .error "a result that is gone"
  | _ => .error "a result that is no data"
def tI (own:Nat→Bool) (s:State O):State O:={ s with hp:=s.hp.map fun (n,h)=>(n,{ h with frozen:=h.frozen || !own h.e }) }
def tU (own:Nat→Bool) (nw:Bool) (fn:Func) (e:Ex) (s':State O):O.M:=match U4 e,NX P s' fn.results.toList with
 | true, _ | _, none => O.ad "results"
 | false,some rs=>match OT P fn.resultTypes.toList rs,EC s' own nw [] ((rs.map (·.cs)).flatten) with
  | true,.ok ls=>O.a ls
  | true,.error e=>O.ad e
  | false, _ => O.ad "results of other kinds"
def iR (own:Nat→Bool) (nw:Bool) (fn:Func):Ex→State O→O.M:=fun e s0=>tU P own nw fn e (tI own s0)
def XF (own:Nat→Bool) (nw:Bool) (gives:List Bool) (f:FuncId) (fns:List Nat) (args:List O.Lf):O.M:=match P.funcs[f]? with
  | none => O.ad "no such function"
  | some fn=>match fn.body,BP P gives 1 fn.params.toList fns args with
    | some body,some (vs,hs)=>match DW fn.ntmps body with
     | false => O.ad "temporaries"
     | true =>
      let lv:Lv:={ nrm:=P5 fn.results.toList,ret:=P5 fn.results.toList,exts:=[] }
      XL P cfg 6 body true lv { tm:=CN 0 vs .e,bx:=[],hp:=hs,st:=1+hs.length } (iR P own nw fn)
    | none, _ => O.ad "no body"
    | _, none => O.ad "parameters"
end
end Go.Px
