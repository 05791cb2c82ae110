/- Part 1. -/
import GoSem.Step
import Derived.WalkKit
import Derived.Lib.LaidTab
set_option linter.unusedVariables false
set_option linter.unusedSimpArgs false
section
namespace Go.Px
inductive Leaf (I B S L:Type) where
 | int (i:I)
 | bool (b:B)
 | str (s:S)
 | rows (l:L)
structure Alg where
 I:Type
 B:Type
 S:Type
 L:Type
 C:Type
 M:Type
 lit:IntKind→Int→I
 add:IntKind→I→I→I
 sub:IntKind→I→I→I
 mul:IntKind→I→I→I
 quo:IntKind→I→I→I
 rem:IntKind→I→I→I
 conv:IntKind→I→I
 le:I→I→B
 lt:I→I→B
 eqI:I→I→B
 tt:B
 ff:B
 bnot:B→B
 band:B→B→B
 beq:B→B→B
 iteI:B→I→I→I
 iteB:B→B→B→B
 iteS:B→S→S→S
 iteL:B→L→L→L
 slit:ByteArray→S
 eqS:S→S→B
 ltS:S→S→B
 slen:S→I
 sidx:S→I→I
 ssub:S→I→I→S
 scat:S→S→S
 sbytes:S→L
 lnil:L
 llit:List (List (Leaf I B S L))→L
 lapp:L→L→L
 llen:L→I
 lset:L→I→Nat→List (Leaf I B S L)→L
 lsub:L→I→I→L
 lrep:I→List (Leaf I B S L)→L
 rI:L→I→Nat→I
 rB:L→I→Nat→B
 rS:L→I→Nat→S
 rL:L→I→Nat→L
 lkey:Nat→L→List I→I
 lget:Nat→L→List I→I
 lput:Nat→L→List I→I→L
 cI:C→Nat→I
 cB:C→Nat→B
 cS:C→Nat→S
 cL:C→Nat→L
 isTag:C→Nat→B
 inb:I→I→B
 inr:I→I→I→B
 small:I→Nat→B
 ret:List (Leaf I B S L)→M
 fail:String→M
 assert:B→M→M
 ite:B→M→M→M
 bind:M→(C→M)→M
 call:Nat→List Nat→List (Leaf I B S L)→M
 fix:((List (Leaf I B S L)→M)→C→M)→List (Leaf I B S L)→M
abbrev Alg.Lf (O:Alg):Type:=Leaf O.I O.B O.S O.L
inductive AC (O:Alg) where
 | int (k:IntKind) (i:O.I)
 | bool (b:O.B)
 | str (s:O.S)
 | nil (e:TypeId)
 | imm (e:TypeId) (nw:Bool) (l:O.L)
 | own (e:TypeId) (id:Nat)
 | ptr (b off:Nat)
 | aptr (b off n sz:Nat) (i:O.I) (inner:Nat)
 | eptr (id:Nat) (i:O.I) (off:Nat)
 | iptr (e:TypeId) (nw:Bool) (l:O.L) (i:O.I) (off:Nat)
 | fn (f:FuncId) (caps:List (Nat×Nat))
 | nilptr
 | tail (e:TypeId) (id:Nat) (i:O.I)
 | mp (e:TypeId) (id:Nat)
structure Val (O:Alg) where
 agg:Bool
 cs:List (AC O)
inductive AV (O:Alg) where
 | val (v:Val O)
 | tup (vs:List (Val O))
structure TV (O:Alg) where
 gs:List (Nat×Bool)
 v:AV O
structure BEnt (O:Alg) where
 cs:List (AC O)
 dirty:Bool
structure HEnt (O:Alg) where
 e:TypeId
 frozen:Bool
 nw:Bool
 l:O.L
 dirty:Bool
inductive TM (α:Type) where
 | e
 | leaf (a:α)
 | node (l r:TM α)
def TM.get {α:Type}:Nat→TM α→Nat→Option α
 | 0,.leaf a,_=>some a
 | d+1,.node l r,k=>match Nat.beq (k % 2) 0 with
  | true=>TM.get d l (k / 2)
  | false=>TM.get d r (k / 2)
 | _,_,_=>none
def TM.kids {α:Type}:TM α→TM α×TM α
 | .node l r=>(l,r)
 | _=>(.e,.e)
def TM.set {α:Type}:Nat→TM α→Nat→Option α→TM α
 | 0,_,_,some a=>.leaf a
 | 0,_,_,none=>.e
 | d+1,t,k,a=>match t.kids with
  | (l,r)=>match Nat.beq (k % 2) 0 with
   | true=>.node (TM.set d l (k / 2) a) r
   | false=>.node l (TM.set d r (k / 2) a)
def AJ {α:Type}:List (Nat×α)→Nat→Option α
 | [],_=>none
 | (j,a)::l,k=>match Nat.beq j k with
  | true=>some a
  | false=>AJ l k
def Ts {α:Type}:List (Nat×α)→Nat→List (Nat×α)
 | [],_=>[]
 | (j,a)::l,k=>match Nat.beq j k with
  | true=>Ts l k
  | false=>(j,a)::Ts l k
def MU {α:Type} (l:List (Nat×α)) (k:Nat):Option α→List (Nat×α)
 | some a=>(k,a)::Ts l k
 | none=>Ts l k
def Mu:Nat:=9
structure State (O:Alg) where
 tm:TM (TV O)
 bx:List (Nat×BEnt O)
 hp:List (Nat×HEnt O)
 st:Nat
def DA:Nat:=512
def Cd {α:Type} (t:TM α) (n:Nat):Option α:=match Nat.blt n DA with
 | true=>TM.get Mu t n
 | false=>none
def F2 {α:Type} (t:TM α) (n:Nat) (v:Option α):TM α:=match Nat.blt n DA with
 | true=>TM.set Mu t n v
 | false=>t
def State.getT {O:Alg} (s:State O) (n:Nat):Option (TV O):=Cd s.tm n
def State.getB {O:Alg} (s:State O) (n:Nat):Option (BEnt O):=AJ s.bx n
def State.getH {O:Alg} (s:State O) (n:Nat):Option (HEnt O):=AJ s.hp n
structure Wr (O:Alg) where
 ts:List (Nat×Option (TV O)):=[]
 bs:List (Nat×Option (BEnt O)):=[]
 hs:List (Nat×Option (HEnt O)):=[]
def State.applyT {O:Alg} (t:TM (TV O)):List (Nat×Option (TV O))→TM (TV O)
 | []=>t
 | (n,v)::r=>State.applyT (F2 t n v) r
def A0 {α:Type} (t:List (Nat×α)):List (Nat×Option α)→List (Nat×α)
 | []=>t
 | (n,v)::r=>A0 (MU t n v) r
def State.apply {O:Alg} (s:State O) (w:Wr O):State O :=
 { tm:=State.applyT s.tm w.ts,bx:=A0 s.bx w.bs,hp:=A0 s.hp w.hs,st:=s.st }
def DB (k:Nat):Nat:=2 ^ k
def P0 (f:Nat→Nat) {α:Type}:List (Nat×α)→Nat
 | []=>0
 | (n,_)::r=>DB (f n) ||| P0 f r
def Wr.mask {O:Alg} (w:Wr O):Nat :=
 P0 (fun n=>3 * n) w.ts ||| P0 (fun n=>3 * n+1) w.bs ||| P0 (fun n=>3 * n+2) w.hs
inductive RM (O:Alg) (α:Type) where
 | ret (a:α)
 | fail (w:String)
 | t (n:Nat) (f:Option (TV O)→RM O α)
 | b (n:Nat) (f:Option (BEnt O)→RM O α)
 | h (n:Nat) (f:Option (HEnt O)→RM O α)
def RM.bind {O:Alg} {α β:Type}:RM O α→(α→RM O β)→RM O β
 | .ret a,f=>f a
 | .fail w,_=>.fail w
 | .t n g,f=>.t n fun v=>(g v).bind f
 | .b n g,f=>.b n fun v=>(g v).bind f
 | .h n g,f=>.h n fun v=>(g v).bind f
instance {O:Alg}:Monad (RM O) where
 pure:=RM.ret
 bind:=RM.bind
def RM.run {O:Alg} {α:Type} (s:State O):RM O α→Nat→Except String (α×Nat)
 | .ret a,m=>.ok (a,m)
 | .fail w,_=>.error w
 | .t n g,m=>RM.run s (g (s.getT n)) (m ||| DB (3 * n))
 | .b n g,m=>RM.run s (g (s.getB n)) (m ||| DB (3 * n+1))
 | .h n g,m=>RM.run s (g (s.getH n)) (m ||| DB (3 * n+2))
def RM.ofOpt {O:Alg} {α:Type} (w:String):Option α→RM O α
 | some a=>.ret a
 | none=>.fail w
def RM.guard {O:Alg} (b:Bool) (w:String):RM O Unit:=match b with
 | true=>.ret ()
 | false=>.fail w
inductive LK where
 | int (k:IntKind) | bool | str | sl (e:TypeId) | ptr | fn | other
def QB:IntKind→IntKind→Bool
 | .i8,.i8 | .i16,.i16 | .i32,.i32 | .i64,.i64 | .u8,.u8 | .u16,.u16 | .u32,.u32 | .u64,.u64=>true
 | _,_=>false
def AK (P:Program) (t:TypeId):LK:=match P.underlying t with
 | some (.int k)=>.int k
 | some .bool=>.bool
 | some .string=>.str
 | some (.slice e)=>.sl e
 | some (.pointer _)=>.ptr
 | some (.func _ _ _)=>.fn
 | _=>.other
def Dc {α:Type}:Nat→List α→List α
 | 0,_=>[]
 | n+1,l=>l++Dc n l
def MI {α:Type}:List (Option (List α))→Option (List α)
 | []=>some []
 | none::_=>none
 | some a::r=>match MI r with
  | some b=>some (a++b)
  | none=>none
def BP (P:Program):Nat→TypeId→Option (List TypeId)
 | 0,_=>none
 | n+1,t=>match P.underlying t with
  | some (.struct fs)=>MI (fs.toList.map fun f=>BP P n f.type)
  | some (.array k e)=>(BP P n e).map (Dc k)
  | some (.tuple _) | some .invalid | some (.named _ _) | none=>none
  | some _=>some [t]
def CU:Nat:=20
def AN (P:Program) (t:TypeId):Option (List TypeId):=match BP P CU t with
 | some l=>match Nat.beq l.length (P.cellsOf t)&&Nat.blt 0 l.length with
  | true=>some l
  | false=>none
 | none=>none
def AO (P:Program) (t:TypeId):Bool:=match P.underlying t with
 | some (.struct _) | some (.array _ _)=>true
 | _=>false
def PZ (P:Program) (t:TypeId):Option TypeId:=match P.underlying t with
 | some (.slice e)=>some e
 | _=>none
def LF (P:Program):Nat→List Field→Bool
 | _,[]=>true
 | off, f :: fs => match Nat.beq f.offset off && (f.name != "_"), P.underlying f.type with
  | true,some (.int .i64)=>LF P (off+1) fs
  | _,_=>false
def Ty (P:Program) (K:TypeId) (n:Nat):Bool:=match P.underlying K with
 | some (.struct fs)=>LF P 0 fs.toList&&Nat.beq fs.toList.length n && !P.stoodInHeld K
 | _=>false
def MT (P:Program) (T:TypeId) (n:Nat):Bool:=match P.underlying T with
 | some (.map K V)=>Ty P K n&&(match P.underlying V with | some (.int .i64)=>true | _=>false)&&(match P.info? V with
  | some i=>(match i.zero with | some (.int .i64 z)=>z==0 | _=>false)
  | none=>false)
 | _=>false
def noSl (P:Program) (T:TypeId):Bool:=P.types.toList.all fun i=>match i.desc with
 | .slice e => !Nat.beq e T
 | _=>true
def Ck (P:Program) (n:Nat):TypeId:=P.types.size+2+n
def IH (P:Program) (T:TypeId):TypeId×TypeId:=match P.underlying T with
 | some (.map K V)=>(K,V)
 | _=>(T,T)
def Au:List Nat→List Nat→Bool
 | [],[]=>true
 | a::l,b::r=>match Nat.beq a b with
  | true=>Au l r
  | false=>false
 | _,_=>false
def CP (n:Nat):List Nat→Bool
 | []=>false
 | m::l=>match Nat.beq n m with
  | true=>true
  | false=>CP n l
def SU (P:Program) (e:TypeId) (off:Nat) (t:TypeId):Option (List TypeId) :=
 match AN P e,AN P t with
 | some l,some r=>match Au ((l.drop off).take r.length) r with
  | true=>some r
  | false=>none
 | _,_=>none
section
variable {O:Alg} (P:Program)
def aD (t:TypeId) (v:Value):Option (AC O):=match AK P t,v with
 | .int k,.int k' n=>match QB k k' with
  | true=>some (.int k (O.lit k n))
  | false=>none
 | .bool,.bool b=>some (.bool (match b with | true=>O.tt | false=>O.ff))
 | .str,.string s=>some (.str (O.slit s))
 | .sl e,.slice none 0 0=>match AN P e with
  | some _=>some (.nil e)
  | none=>none
 | .ptr,.pointer none=>some .nilptr
 | _,_=>none
def Pl:List TypeId→List Value→Option (List (AC O))
 | [],[]=>some []
 | t::ts,v::vs=>match aD P t v,Pl ts vs with
  | some a,some r=>some (a::r)
  | _,_=>none
 | _,_=>none
def Wo (t:TypeId) (v:Value):Option (Val O):=match v with
 | .agg cs=>match AN P t with
  | some ts=>match Pl P ts cs.toList with
   | some l=>some { agg:=true,cs:=l }
   | none=>none
  | none=>none
 | v=>match aD P t v with
  | some c=>some { agg:=false,cs:=[c] }
  | none=>none
def Rg (t:TypeId):Option (Val O):=match P.info? t with
 | some i=>match i.zero with
  | some v=>Wo P t v
  | none=>none
 | none=>none
def NS (nw:Bool) (l:O.L) (i:O.I):Nat→List TypeId→Option (List (AC O))
 | _,[]=>some []
 | j,t::ts=>match NS nw l i (j+1) ts with
  | none=>none
  | some r=>match AK P t with
   | .int k=>some (.int k (O.rI l i j)::r)
   | .bool=>some (.bool (O.rB l i j)::r)
   | .str=>some (.str (O.rS l i j)::r)
   | .sl e=>some (.imm e nw (O.rL l i j)::r)
   | _=>none
def Am (own:Nat→Bool) (nw:Bool) (c:O.C):Nat→Nat→List TypeId→Option (List (AC O)×List (Nat×HEnt O))
 | _,_,[]=>some ([],[])
 | j,q,t::ts=>match AK P t with
  | .int k=>(Am own nw c (j+1) q ts).map fun (r,h)=>(.int k (O.cI c j)::r,h)
  | .bool=>(Am own nw c (j+1) q ts).map fun (r,h)=>(.bool (O.cB c j)::r,h)
  | .str=>(Am own nw c (j+1) q ts).map fun (r,h)=>(.str (O.cS c j)::r,h)
  | .sl e=>match own e with
   | true=>(Am own nw c (j+1) (q+1) ts).map fun (r,h)=>(.own e q::r,(q,{ e,frozen:=false,nw,l:=O.cL c j,dirty:=true })::h)
   | false=>(Am own nw c (j+1) q ts).map fun (r,h)=>(.imm e nw (O.cL c j)::r,h)
  | _=>none
def pE:List TypeId→Option (List O.Lf)
 | []=>some []
 | t::ts=>match pE ts with
  | none=>none
  | some r=>match AK P t with
   | .int k=>some (.int (O.lit k 0)::r)
   | .bool=>some (.bool O.ff::r)
   | .str=>some (.str (O.slit ByteArray.empty)::r)
   | .sl _=>some (.rows O.lnil::r)
   | _=>none
end
def UE:List (Nat×Bool)→List (Nat×Bool)→Bool
 | [],_=>true
 | (n,b)::r,ctx=>match ctx.any (fun (m,c)=>Nat.beq n m&&(b==c)) with
  | true=>UE r ctx
  | false=>false
inductive StepRes (O:Alg) where
 | plain (as:List O.B) (w:Wr O)
 | call (g:Option O.B) (f:FuncId) (fns:List Nat) (args:List O.Lf) (dflt:List O.Lf) (next:O.C→Option (Wr O))
 | inl (f:FuncId) (args:List (AV O))
structure CI where
 f:FuncId
 fns:List Nat
 own:Bool
 nw:Bool
 gives:List Bool:=[]
 sk:List Nat:=[]
def CI.ow (ci:CI) (e:Nat):Bool:=ci.own && !CP e ci.sk
structure Cfg where
 gam:List CI
 imm:Bool:=false
 old:Bool:=false
 ie:List Nat:=[]
def So:List CI→Nat→List Nat→Option CI
 | [],_,_=>none
 | c::l,f,fns=>match Nat.beq c.f f&&Au c.fns fns with
  | true=>some c
  | false=>So l f fns
section
variable {O:Alg} (P:Program) (cfg:Cfg)
def one (c:AC O):AV O:=.val { agg:=false,cs:=[c] }
def ev (ctx:List (Nat×Bool)) (T:TypeId):Operand→RM O (AV O)
 | .tmp n=>.t n fun
  | some tv=>match UE tv.gs ctx with
   | true=>.ret tv.v
   | false => .fail "a guarded temporary"
  | none => .fail "no such temporary"
 | .const v=>match Wo P T v with
  | some v=>.ret (.val v)
  | none => .fail "a constant"
 | .func f=>.ret (one (.fn f []))
 | .global _ => .fail "a global"
def evV (ctx:List (Nat×Bool)) (T:TypeId) (x:Operand):RM O (Val O):=(ev P ctx T x).bind fun
 | .val v=>.ret v
 | .tup _ => .fail "a tuple"
def evC (ctx:List (Nat×Bool)) (T:TypeId) (x:Operand):RM O (AC O):=(evV P ctx T x).bind fun v =>
 match v.agg,v.cs with
 | false,[c]=>.ret c
 | _, _ => .fail "not one cell"
def evI (ctx:List (Nat×Bool)):Operand→RM O (O.I)
 | .const (.int k n)=>.ret (O.lit k n)
 | .tmp n=>.t n fun
  | some tv=>match UE tv.gs ctx,tv.v with
   | true,.val ⟨false,[.int _ i]⟩=>.ret i
   | _, _ => .fail "no integer"
  | none => .fail "no such temporary"
 | _ => .fail "no integer"
def au:List (Nat×Bool)→RM O (Option O.B)
 | []=>.ret none
 | (n,want)::r=>.t n fun
  | some ⟨_,.val ⟨false,[.bool b]⟩⟩=>(au r).bind fun g =>
   let c:=match want with | true=>b | false=>O.bnot b
   .ret (some (match g with | none=>c | some g=>O.band g c))
  | _ => .fail "no guard"
def Zr (ops:List Oper) (o:Oper):RM O (List (Nat×Bool)):=match o.guard with
 | none=>.ret []
 | some (j,want)=>match (ops[j]?).bind (·.dst) with
  | some d=>.t d fun
   | some tv=>.ret ((d,want)::tv.gs)
   | none => .fail "no such guard"
  | none => .fail "a guard without a value"
def bX (g:Option O.B) (a:O.B):O.B:=match g with
 | none=>a
 | some g=>O.bnot (O.band g (O.bnot a))
def Ze (b:O.B):AC O→AC O→Option (AC O)
 | .int k x,.int k' y=>match QB k k' with
  | true=>some (.int k (O.iteI b x y))
  | false=>none
 | .bool x,.bool y=>some (.bool (O.iteB b x y))
 | .str x,.str y=>some (.str (O.iteS b x y))
 | .imm e nw x,.imm e' nw' y=>match Nat.beq e e' with
  | true=>some (.imm e (nw&&nw') (O.iteL b x y))
  | false=>none
 | _,_=>none
def CK (b:O.B):List (AC O)→List (AC O)→Option (List (AC O))
 | [],[]=>some []
 | x::xs,y::ys=>match Ze b x y,CK b xs ys with
  | some c,some r=>some (c::r)
  | _,_=>none
 | _,_=>none
def qu (op:BinOp) (a b:O.I):Option O.B:=match op with
 | .eql=>some (O.eqI a b)
 | .neq=>some (O.bnot (O.eqI a b))
 | .lss=>some (O.lt a b)
 | .leq=>some (O.le a b)
 | .gtr=>some (O.lt b a)
 | .geq=>some (O.le b a)
 | _=>none
def eqC:AC O→AC O→Option O.B
 | .int k a,.int k' b=>match QB k k' with
  | true=>some (O.eqI a b)
  | false=>none
 | .bool a,.bool b=>some (O.beq a b)
 | .str a,.str b=>some (O.eqS a b)
 | _,_=>none
def Ik:List (AC O)→List (AC O)→Option O.B
 | [],[]=>some O.tt
 | [x],[y]=>eqC x y
 | x::xs,y::ys=>match eqC x y,Ik xs ys with
  | some a,some r=>some (O.band a r)
  | _,_=>none
 | _,_=>none
def Sw:LK→AC O→Bool
 | .int k,.int k' _=>QB k k'
 | .bool,.bool _=>true
 | .str,.str _=>true
 | _,_=>false
def BO:List TypeId→List (AC O)→Bool
 | [],[]=>true
 | t::ts,c::cs=>match Sw (AK P t) c with
  | true=>BO ts cs
  | false=>false
 | _,_=>false
def Tx:Nat→List Field→Bool
 | _,[]=>true
 | off, f :: fs => match Nat.beq f.offset off && (f.name != "_") with
  | true=>Tx (off+P.cellsOf f.type) fs
  | false=>false
def N3:Option (List Nat)→Option (List Nat)→Bool
 | some a,some b=>Au a b
 | _,_=>false
def UH:Nat→TypeId→Bool
 | 0,_=>false
 | n+1,t=>match P.underlying t with
  | some .bool | some (.int _) | some .string=>N3 (AN P t) (some [t])
  | some (.struct fs) => !P.stoodInHeld t&&Tx P 0 fs.toList&&fs.toList.all (fun f=>UH n f.type)&&N3 (AN P t) (MI (fs.toList.map fun f=>AN P f.type))
  | some (.array k e)=>UH n e&&N3 (AN P t) ((AN P e).map (Dc k))
  | _=>false
def Gq:Operand→Bool
 | .const (.int _ n) => !(n==0)
 | _=>false
def bT:AC O→RM O (O.Lf×List (Nat×Option (HEnt O))×Bool)
 | .int _ i=>.ret (.int i,[],true)
 | .bool b=>.ret (.bool b,[],true)
 | .str s=>.ret (.str s,[],true)
 | .nil _=>.ret (.rows O.lnil,[],true)
 | .imm _ nw l=>.ret (.rows l,[],nw)
 | .own _ id=>.h id fun
  | some h=>.ret (.rows h.l,[(id,some { h with frozen:=true,dirty:=true })],h.nw)
  | none => .fail "a slice that is gone"
 | _ => .fail "no data"
def MO:List (AC O)→RM O (List O.Lf×List (Nat×Option (HEnt O))×Bool)
 | []=>.ret ([],[],true)
 | c::r=>(bT c).bind fun (a,h,n)=>(MO r).bind fun (as,hs,ns)=>.ret (a::as,h++hs,n&&ns)
def Co {α:Type}:List α→Nat→List α→Option (List α)
 | l,_,[]=>some l
 | [],_,_::_=>none
 | x::l,0,y::ys=>(Co l 0 ys).map (y::·)
 | x::l,n+1,ys=>(Co l n ys).map (x::·)
def Gj {α:Type} (l:List α) (off n:Nat):Option (List α) :=
 let r:=(l.drop off).take n
 match Nat.beq r.length n with
 | true=>some r
 | false=>none
def PR (f:Nat→Option (List (AC O))) (i:O.I):Nat→Option (List (AC O))
 | 0=>f 0
 | k+1=>match PR f i k,f (k+1) with
  | some r,some c=>CK (O.eqI i (O.lit .i64 ((k+1:Nat):Int))) c r
  | _,_=>none
def eh (off sz inner:Nat) (i:O.I) (v:List (AC O)):Nat→List (AC O)→Option (List (AC O))
 | 0,cs=>some cs
 | k+1,cs=>match Gj cs (off+k * sz+inner) v.length with
  | none=>none
  | some old=>match CK (O.eqI i (O.lit .i64 (k:Int))) v old with
   | none=>none
   | some new=>match Co cs (off+k * sz+inner) new with
    | none=>none
    | some cs=>eh off sz inner i v k cs
def iU (T:TypeId):AC O→RM O (List (AC O))
 | .ptr b off=>.b b fun
  | some e => RM.ofOpt "load" (Gj e.cs off (P.cellsOf T))
  | none => .fail "no such variable"
 | .aptr b off n sz i inner=>.b b fun
  | some e =>
   match n with
   | 0 => .fail "an array of no elements"
   | n + 1 => RM.ofOpt "load of an element" (PR (fun k => Gj e.cs (off + k * sz + inner) (P.cellsOf T)) i n)
  | none => .fail "no such variable"
 | .eptr id i off=>.h id fun
  | some h=>match SU P h.e off T with
   | some ts => RM.ofOpt "load of a row" (NS P h.nw h.l i off ts)
   | none => .fail "a row of another type"
  | none => .fail "a slice that is gone"
 | .iptr e nw l i off=>match SU P e off T with
  | some ts => RM.ofOpt "load of a row" (NS P nw l i off ts)
  | none => .fail "a row of another type"
 | _ => .fail "load no address"
def Vk:AC O→RM O (TypeId×O.L×Bool)
 | .nil e=>.ret (e,O.lnil,true)
 | .imm e nw l=>.ret (e,l,nw)
 | .own _ id=>.h id fun
  | some h=>.ret (h.e,h.l,h.nw)
  | none => .fail "a slice that is gone"
 | _ => .fail "no slice"
def Pp (T:TypeId) (f:Nat):Option Field:=match P.underlying T with
 | some (.struct fs)=>fs.toList[f]?
 | _=>none
def DY (n:Nat):AC O→Option (AC O)
 | .ptr b off=>some (.ptr b (off+n))
 | .aptr b off m sz i inner=>some (.aptr b off m sz i (inner+n))
 | .eptr id i off=>some (.eptr id i (off+n))
 | .iptr e nw l i off=>some (.iptr e nw l i (off+n))
 | _=>none
def XA (place:Nat→Option (Nat×TypeId)) (ctx:List (Nat×Bool)):List (Nat×Operand)→List (AC O)→RM O (List (AC O))
 | [],cs=>.ret cs
 | (i,x)::r,cs=>match place i with
  | none => .fail "no such part"
  | some (off, T) => (evV P ctx T x).bind fun v => (RM.guard (Nat.beq v.cs.length (P.cellsOf T) && Nat.blt 0 v.cs.length) "a part of another size").bind fun _ =>
   match Co cs off v.cs with
   | some cs=>XA place ctx r cs
   | none => .fail "a part that does not fit"
def HQ {α:Type} (n:Nat):Nat→List α→List (List α)
 | 0,_=>[]
 | k+1,l=>l.take n::HQ n k (l.drop n)
def fB:List (List (AC O))→RM O (List (List O.Lf)×List (Nat×Option (HEnt O))×Bool)
 | []=>.ret ([],[],true)
 | c::r=>(MO c).bind fun (a,h,n)=>(fB r).bind fun (as,hs,ns)=>.ret (a::as,h++hs,n&&ns)
def Vv (lt:O.I→O.I→O.B):AC O→List (AC O)→Option (AC O)
 | c,[]=>some c
 | .int k x,.int k' y::r=>match QB k k' with
  | true=>Vv lt (.int k (O.iteI (lt y x) y x)) r
  | false=>none
 | _,_=>none
def lG (ctx:List (Nat×Bool)) (T:TypeId):List Operand→RM O (List (AC O))
 | []=>.ret []
 | x::r=>(evC P ctx T x).bind fun c=>(lG ctx T r).bind fun l=>.ret (c::l)
def Y1:AC O→Bool
 | .int _ _ | .bool _ | .str _ | .nil _=>true
 | _=>false
def BF:LK→AC O→Bool
 | .int k,.int k' _=>QB k k'
 | .bool,.bool _=>true
 | .str,.str _=>true
 | .sl e,.nil e'=>Nat.beq e e'
 | .sl e,.imm e' _ _=>Nat.beq e e'
 | .sl e,.own e' _=>Nat.beq e e'
 | _,_=>false
def AU:List TypeId→List (AC O)→Bool
 | [],[]=>true
 | t::ts,c::cs=>match BF (AK P t) c with
  | true=>AU ts cs
  | false=>false
 | _,_=>false
def I7 (ts:List TypeId):List (List (AC O))→Bool
 | []=>true
 | r::rs=>match AU P ts r with
  | true=>I7 ts rs
  | false=>false
def Yk:Operand→Operand→Bool
 | .tmp a,.tmp b=>Nat.beq a b
 | .const (.int _ a),.const (.int _ b)=>decide (a=b)
 | _,_=>false
def je (T:TypeId) (v:List (AC O)):AC O→RM O (Wr O)
  | .ptr b off=>.b b fun
    | some e => (RM.guard (Nat.beq v.length (P.cellsOf T) && Nat.blt 0 v.length) "store size").bind fun _ =>
      (RM.ofOpt "store" (Co e.cs off v)).bind fun cs => .ret { bs := [(b, some { cs, dirty := true })] }
    | none => .fail "no such variable"
  | .aptr b off n sz i inner=>.b b fun
    | some e =>
      (RM.guard (Nat.beq v.length (P.cellsOf T) && Nat.blt 0 v.length) "store size").bind fun _ =>
      (RM.ofOpt "store of an element" (eh off sz inner i v n e.cs)).bind fun cs => .ret { bs := [(b, some { cs, dirty := true })] }
    | none => .fail "no such variable"
  | .eptr id i off=>.h id fun
    | some h => (RM.guard (!h.frozen) "a store into a shared slice").bind fun _ =>
      match SU P h.e off T with
      | some ts => (RM.guard (Nat.beq v.length ts.length && Nat.beq v.length (P.cellsOf T)) "store size").bind fun _ =>
        (MO v).bind fun (ls, fr, nw) => (RM.guard (AU P ts v && !CP id (fr.map (·.1))) "store kinds").bind fun _ =>
          .ret { hs:=fr++[(id,some { h with l:=O.lset h.l i off ls,nw:=h.nw&&nw,dirty:=true })] }
      | none => .fail "a row of another type"
    | none => .fail "a slice that is gone"
  | _ => .fail "store no address"
def gr (ctx:List (Nat×Bool)):List Operand→RM O (List (Nat×Nat))
 | []=>.ret []
 | x::r=>(evC P ctx 0 x).bind fun
  | .ptr b off=>(gr ctx r).bind fun l=>.ret ((b,off)::l)
  | _ => .fail "makeFunc captured"
def ZN (ctx:List (Nat×Bool)):List TypeId→List Operand→RM O (List (AV O))
 | [],[]=>.ret []
 | t::ts,x::xs=>(ev P ctx t x).bind fun v=>(ZN ctx ts xs).bind fun r=>.ret (v::r)
 | _, _ => .fail "arguments"
def SQ (used:List Nat):List (AC O)→RM O (List O.Lf×List Nat)
 | []=>.ret ([],used)
 | .own _ id::r=>.h id fun
  | some h=>match !h.frozen && !CP id used with
   | true=>(SQ (id::used) r).bind fun (ls,u)=>.ret (.rows h.l::ls,u)
   | false => .fail "a slice that cannot be handed over"
  | none => .fail "a slice that is gone"
 | .imm _ _ _ :: _ => .fail "a shared slice cannot be handed over"
 | c::r=>(bT c).bind fun (l,_,_)=>(SQ used r).bind fun (ls,u)=>.ret (l::ls,u)
def mu:AC O→Bool
 | .ptr .. | .aptr .. | .eptr .. | .iptr .. | .fn .. | .nilptr | .tail ..=>false
 | _=>true
def Hc:List (AV O)→Option (List Nat)
 | []=>some []
 | .val ⟨false,[.fn f []]⟩::r=>(Hc r).map (f::·)
 | .val v::r=>match v.cs.all mu with
  | true=>Hc r
  | false=>none
 | .tup _::_=>none
def Kj:List Bool→List Nat→List (AV O)→RM O (List O.Lf×List (Nat×Option (HEnt O))×List Nat)
 | _,used,[]=>.ret ([],[],used)
 | gv,used,.val ⟨false,[.fn f []]⟩::r=>Kj gv.tail used r
 | gv,used,.val v::r=>match gv.headD false with
  | true=>(SQ used v.cs).bind fun (ls,u)=>(Kj gv.tail u r).bind fun (ls',fr,u')=>.ret (ls++ls',fr,u')
  | false=>(MO v.cs).bind fun (ls,fr,_)=>(Kj gv.tail used r).bind fun (ls',fr',u')=>.ret (ls++ls',fr++fr',u')
 | _, _, .tup _ :: _ => .fail "arguments"
def Zl (used:List Nat):List (Nat×Option (HEnt O))→Bool
 | []=>true
 | (n,_)::r => !CP n used&&Zl used r
def BB (own:Nat→Bool) (nw:Bool) (c:O.C):Nat→Nat→List TypeId→Option (List (Val O)×List (Nat×HEnt O))
 | _,_,[]=>some ([],[])
 | j,q,t::ts=>match AN P t with
  | none=>none
  | some l=>match Am P own nw c j q l with
   | none=>none
   | some (cs,h)=>match BB own nw c (j+l.length) (q+h.length) ts with
    | none=>none
    | some (vs,hs)=>some ({ agg:=AO P t,cs }::vs,h++hs)
def IR:List (Val O)→AV O
 | [v]=>.val v
 | vs=>.tup vs
def Iq (P:Program):List TypeId→Option (List TypeId)
 | []=>some []
 | t::ts=>match AN P t,Iq P ts with
  | some a,some r=>some (a++r)
  | _,_=>none
def W2 (P:Program):List TypeId→Nat
 | []=>0
 | t::ts=>(match AK P t with | .sl _=>1 | _=>0)+W2 P ts
def ZD (P:Program) (e:TypeId):Bool:=match AN P e with
 | some l=>Nat.beq (W2 P l) 0
 | none=>false
def BS (P:Program) (o:Oper):Nat:=match o.op with
 | .call c=>match c.callee with
  | .builtin _=>1
  | _=>16
 | .alloc _ | .box _ _ | .buildSlice _ _ _ | .makeSlice _ _ _ | .convert _ _ _ | .slice _ _ _ _ _=>1
 | .makeMap _ _ | .mapUpdate _ _ _ _ | .lookup _ _ _ _ | .mapEntry _ _ _ | .entryStore _ _ _ _=>1
 | _=>0
def GH:List TypeId→List (AV O)→Bool
 | [],[]=>true
 | t::ts,v::vs=>(match AK P t,v with
  | .fn,.val ⟨false,[.fn _ []]⟩=>true
  | .fn,_=>false
  | _,.val ⟨false,[.fn _ []]⟩=>false
  | _,.val v=>match AN P t with
   | some l=>v.agg==AO P t&&AU P l v.cs
   | none=>false
  | _,.tup _=>false)&&GH ts vs
 | _,_=>false
def pU {α:Type} (g:Option α) (b:Nat→Bool):Nat→Bool:=match g with
 | none=>b
 | some _=>fun _=>false
def fi (ctx:List (Nat×Bool)) (g:Option O.B) (id:Nat) (d:Option Nat) (ci:CI) (fn:Func) (fr:List (Nat×Option (HEnt O))) (u:List Nat):O.C→Option (Wr O):=fun c =>
 match BB P (pU g ci.ow) ci.nw c 0 id fn.resultTypes.toList with
  | none=>none
  | some (vs,nh)=>match Nat.ble nh.length 16 with
   | true=>some { ts:=match d with | some d=>[(d,some ⟨ctx,IR vs⟩)] | none=>[],hs:=(match ci.nw with | true=>[] | false=>fr)++(u.map (fun n=>(n,none))++nh.map fun (n,h)=>(n,some h)) }
   | false=>none
def aa (gives:List Bool):Bool:=Nat.blt 8 gives.length
def Ws (gives:List Bool) (used:List Nat) (fr:List (Nat×Option (HEnt O))):Bool:=Zl used fr&&(!aa gives||used.isEmpty)
def Yi (ctx:List (Nat×Bool)) (g:Option O.B) (id:Nat) (d:Option Nat) (f:FuncId) (caps:List (Nat×Nat)) (args:List (AV O)):RM O (StepRes O) :=
  let inl:RM O (StepRes O):=match g with
    | none=>.ret (.inl f (args++caps.map fun (b,o)=>one (.ptr b o)))
    | some _ => .fail "a call under a guard that has no contract"
  match caps with
  | _::_=>inl
  | []=>match Hc args with
    | none=>inl
    | some fns=>match So cfg.gam f fns with
      | none=>inl
      | some ci=>match P.funcs[f]? with
        | none => .fail "no such function"
        | some fn => (RM.guard (fn.body.isSome && !(fn.name == "runtime.NumGoroutine") && GH P fn.params.toList args) "a callee").bind fun _ =>
          (Kj ci.gives [] args).bind fun (ls,fr,used)=>match (Iq P fn.resultTypes.toList).bind (pE P),Ws ci.gives used fr with
          | some dm,true=>.ret (.call g f fns ls dm (fi P ctx g id d ci fn fr used))
          | _, _ => .fail "a result that is no data"
abbrev JZ (O:Alg):=List O.B×AV O×List (Nat×Option (HEnt O))
def okP (as:List O.B) (v:AV O):RM O (JZ O):=.ret (as,v,[])
def Ng (T:TypeId) (n:Nat):Bool:=(P.underlying T).isSome&&(AO P T||Nat.beq n 1)
def mX (ctx:List (Nat×Bool)) (ty:TypeId) (n:Nat) (a b:Operand):RM O (JZ O):=.t n fun
  | some tv=>match UE tv.gs ctx,tv.v with
    | true,.val ⟨false,[.bool c]⟩ =>
      (evV P ((n,true)::ctx) ty a).bind fun x=>(evV P ((n,false)::ctx) ty b).bind fun y =>
      match x.agg==y.agg,CK c x.cs y.cs with
      | true,some cs=>okP [] (.val { agg:=x.agg,cs })
      | _, _ => .fail "pick"
    | _, _ => .fail "pick no bool"
  | none => .fail "no such temporary"
def kO (op:BinOp) (T:TypeId) (y:Operand) (a b:Val O):RM O (JZ O):=match a.agg,b.agg,a.cs,b.cs with
 | false,false,[.int k i],[.int k' j]=>match QB k k' with
  | false => .fail "operands of different kinds"
  | true=>match op with
   | .add=>okP [] (one (.int k (O.add k i j)))
   | .sub=>okP [] (one (.int k (O.sub k i j)))
   | .mul=>okP [] (one (.int k (O.mul k i j)))
   | .quo=>okP (match Gq y with | true=>[] | false=>[O.bnot (O.eqI j (O.lit k 0))]) (one (.int k (O.quo k i j)))
   | .rem=>okP (match Gq y with | true=>[] | false=>[O.bnot (O.eqI j (O.lit k 0))]) (one (.int k (O.rem k i j)))
   | op=>match qu op i j with
    | some c=>okP [] (one (.bool c))
    | none => .fail "an operator on integers"
 | false,false,[.str s],[.str t]=>match op with
  | .eql=>okP [] (one (.bool (O.eqS s t)))
  | .neq=>okP [] (one (.bool (O.bnot (O.eqS s t))))
  | .lss=>okP [] (one (.bool (O.ltS s t)))
  | .add=>okP [O.small (O.slen s) 1,O.small (O.slen t) 1] (one (.str (O.scat s t)))
  | _ => .fail "an operator on strings"
 | p,q,xs,ys=>match AN P T with
  | none => .fail "an operator"
  | some ts=>match p==AO P T&&q==AO P T&&UH P CU T && !P.eqGuardType P.depth T&&BO P ts xs&&BO P ts ys,op,Ik xs ys with
   | true,.eql,some c=>okP [] (one (.bool c))
   | true,.neq,some c=>okP [] (one (.bool (O.bnot c)))
   | _, _, _ => .fail "an operator"
def cX (src dst:TypeId) (c:AC O):RM O (JZ O):=match P.underlying src with
 | none => .fail "convert"
 | some _=>match AK P dst,c with
  | .int k,.int _ i=>okP [] (one (.int k (O.conv k i)))
  | .str,.str s=>okP [] (one (.str s))
  | _, _ => .fail "convert"
def R8 (T:TypeId) (p:AC O) (ix:Operand) (i:O.I):RM O (JZ O):=match P.underlying T with
 | some (.array n e) => (RM.guard (Nat.blt 0 (P.cellsOf e)) "indexAddr element").bind fun _ => match ix with
  | .const (.int _ c)=>match decide (0≤c∧c<n),DY (c.toNat * P.cellsOf e) p with
   | true,some p=>okP [] (one p)
   | _, _ => .fail "indexAddr"
  | _=>match p with
   | .ptr b off=>okP [O.inb i (O.lit .i64 n)] (one (.aptr b off n (P.cellsOf e) i 0))
   | _ => .fail "indexAddr an array in an array"
 | some (.slice e)=>match p with
  | .own e' h => (Vk (AC.own e' h : AC O)).bind fun (_, l, _) => (RM.guard (Nat.beq e e') "indexAddr element").bind fun _ =>
   okP [O.inb i (O.llen l)] (one (.eptr h i 0))
  | .imm e' nw l => (RM.guard (Nat.beq e e') "indexAddr element").bind fun _ => okP [O.inb i (O.llen l)] (one (.iptr e' nw l i 0))
  | .nil e=>okP [O.ff] (one (.iptr e true O.lnil i 0))
  | _ => .fail "indexAddr no slice"
 | _ => .fail "indexAddr type"
def bC (T:TypeId) (v:Val O) (ix:Operand) (i:O.I):RM O (JZ O):=match P.underlying T,v.agg,v.cs with
 | some .string,false,[.str s]=>okP [O.inb i (O.slen s)] (one (.int .u8 (O.sidx s i)))
 | some (.array n e),true,cs=>match ix with
  | .const (.int _ c)=>match decide (0≤c∧c<n),Gj cs (c.toNat * P.cellsOf e) (P.cellsOf e) with
   | true, some cs => (RM.guard (Ng P e cs.length) "index size").bind fun _ => okP [] (.val { agg := AO P e, cs })
   | _, _ => .fail "index"
  | _=>match n with
   | 0 => .fail "an array of no elements"
   | n+1=>match PR (fun k=>Gj cs (k * P.cellsOf e) (P.cellsOf e)) i n with
    | some cs => (RM.guard (Ng P e cs.length) "index size").bind fun _ =>
     okP [O.inb i (O.lit .i64 ((n+1:Nat):Int))] (.val { agg:=AO P e,cs })
    | none => .fail "index of an array"
 | _, _, _ => .fail "index type"
def Zn (ctx:List (Nat×Bool)) (d:O.I):Option Operand→RM O O.I
 | none=>.ret d
 | some x=>evI ctx x
def QM:Option Operand→Bool
 | none=>true
 | some (.const (.int _ n))=>decide (n=0)
 | _=>false
def o6 (ctx:List (Nat×Bool)) (e':TypeId) (c:AC O) (lo hi:Option Operand):RM O (JZ O) :=
  (Vk c).bind fun (e, l, nw) => (RM.guard (Nat.beq e e') "slice").bind fun _ =>
  (Zn ctx (O.lit .i64 0) lo).bind fun a=>(Zn ctx (O.llen l) hi).bind fun b=>match c with
  | .own _ h=>.h h fun
    | some en=>.ret ([O.inr a b (O.llen l)],one (.imm e nw (O.lsub l a b)),[(h,some { en with frozen:=true,dirty:=true })])
    | none => .fail "a slice that is gone"
  | _=>okP [O.inr a b (O.llen l)] (one (.imm e nw (O.lsub l a b)))
def cM (ctx:List (Nat×Bool)) (T:TypeId) (c:AC O) (lo hi mx:Option Operand):RM O (JZ O):=match mx with
 | some m=>match P.underlying T,c,QM lo,QM hi&&hi.isSome,QM (some m) with
  | some (.slice e'),.imm e _ _,true,true,true=>match Nat.beq e e' with
   | true=>okP [] (one (.nil e))
   | false => .fail "slice"
  | _, _, _, _, _ => .fail "slice with three bounds"
 | none=>match P.underlying T with
  | some .string=>match c with
   | .str s=>(Zn ctx (O.lit .i64 0) lo).bind fun l=>(Zn ctx (O.slen s) hi).bind fun h =>
    okP [O.inr l h (O.slen s)] (one (.str (O.ssub s l h)))
   | _ => .fail "slice"
  | some (.slice e')=>o6 ctx e' c lo hi
  | _ => .fail "slice"
def Vt (ctx:List (Nat×Bool)) (ty:TypeId):Op→RM O (JZ O)
  | .move x | .assign x=>(ev P ctx ty x).bind fun v=>okP [] v
  | .pick (.tmp n) a b=>mX P ctx ty n a b
  | .build T parts=>match Rg P T with
    | none => .fail "build"
    | some z=>match z.agg with
      | false => .fail "build"
      | true=>(match P.underlying T with
        | some (.struct fs) => (RM.guard (fs.toList.all fun f => (P.info? f.type).isSome) "build fields").bind fun _ =>
          XA P (fun i=>(fs.toList[i]?).map fun (f:Field)=>(f.offset,f.type)) ctx parts.toList z.cs
        | some (.array _ e) => (RM.guard (Nat.blt 0 (P.cellsOf e)) "build element").bind fun _ => XA P (fun i => some (i * P.cellsOf e, e)) ctx parts.toList z.cs
        | _ => .fail "build type").bind fun cs => okP [] (.val { agg := true, cs })
  | .load T a=>(evC P ctx T a).bind fun p=>(iU P T p).bind fun cs =>
    (RM.guard (Ng P T cs.length) "load size").bind fun _ => okP [] (.val { agg := AO P T, cs })
  | .nilCheck x=>(evC P ctx ty x).bind fun p=>match p with
    | .ptr b off=>okP [] (one (.ptr b off))
    | .eptr i x off=>okP [] (one (.eptr i x off))
    | .iptr e nw l i off=>okP [] (one (.iptr e nw l i off))
    | .aptr b off n sz i inner=>okP [] (one (.aptr b off n sz i inner))
    | _ => .fail "nilCheck"
  | .binOp op T x y yT=>(evV P ctx T x).bind fun a=>(evV P ctx yT y).bind fun b=>kO P op T y a b
  | .unOp op T x=>(evC P ctx T x).bind fun c=>match op,c with
    | .not,.bool b=>okP [] (one (.bool (O.bnot b)))
    | .neg,.int k i=>okP [] (one (.int k (O.sub k (O.lit k 0) i)))
    | _, _ => .fail "a unary operator"
  | .convert src dst x=>(evC P ctx src x).bind fun c=>cX P src dst c
  | .extract x i=>(ev P ctx ty x).bind fun
    | .tup vs=>match vs[i]? with
      | some v=>okP [] (.val v)
      | none => .fail "extract"
    | .val _ => .fail "extract"
  | .field T x f=>(evV P ctx T x).bind fun v=>match Pp P T f with
    | none => .fail "field"
    | some fd=>match v.agg,Gj v.cs fd.offset (P.cellsOf fd.type) with
      | true, some cs => (RM.guard (Ng P fd.type cs.length) "field size").bind fun _ => okP [] (.val { agg := AO P fd.type, cs })
      | _, _ => .fail "field"
  | .fieldAddr T x f=>(evC P ctx T x).bind fun p=>match Pp P T f with
    | none => .fail "fieldAddr"
    | some fd => (RM.guard (!Nat.beq (P.cellsOf fd.type) 0) "a field of no size").bind fun _ => match DY fd.offset p with
      | some p=>okP [] (one p)
      | none => .fail "fieldAddr no address"
  | .indexAddr T x ix=>(evC P ctx T x).bind fun p=>(evI ctx ix).bind fun i=>R8 P T p ix i
  | .index T x ix=>(evV P ctx T x).bind fun v=>(evI ctx ix).bind fun i=>bC P T v ix i
  | .slice T x lo hi mx=>(evC P ctx T x).bind fun c=>cM P ctx T c lo hi mx
  | .makeFunc (.func f) first caps=>match first.toList with
    | []=>(gr P ctx caps.toList).bind fun l=>okP [] (one (.fn f l))
    | _ => .fail "makeFunc"
  | .call c=>match c.callee with
    | .builtin .len=>match c.args.toList,c.argTypes.toList with
      | [x],[T]=>match P.underlying T with
        | some (.array n _)=>okP [] (one (.int .i64 (O.lit .i64 n)))
        | some .string=>(evC P ctx T x).bind fun
          | .str s=>okP [] (one (.int .i64 (O.slen s)))
          | _ => .fail "len"
        | some (.slice _)=>(evC P ctx T x).bind fun v=>(Vk v).bind fun (_,l,_)=>okP [] (one (.int .i64 (O.llen l)))
        | _ => .fail "len"
      | _, _ => .fail "len"
    | .builtin .min=>(lG P ctx ty c.args.toList).bind fun
      | v::u::r=>match Vv O.lt v (u::r) with
        | some m=>okP [] (one m)
        | none => .fail "min"
      | _ => .fail "min"
    | .builtin .max=>(lG P ctx ty c.args.toList).bind fun
      | v::u::r=>match Vv (fun a b=>O.lt b a) v (u::r) with
        | some m=>okP [] (one m)
        | none => .fail "max"
      | _ => .fail "max"
    | _ => .fail "call"
  | _ => .fail "an operation"
abbrev qy (O:Alg):=List O.B×AC O×Wr O
def H8 (ctx:List (Nat×Bool)) (id:Nat):Op→RM O (qy O)
  | .alloc T=>match Rg P T with
    | some v => (RM.guard (Nat.beq v.cs.length (P.cellsOf T)) "alloc size").bind fun _ => .ret ([], .ptr id 0, { bs := [(id, some { cs := v.cs, dirty := true })] })
    | none => .fail "alloc"
  | .box T x=>(evV P ctx T x).bind fun v=>.ret ([],.ptr id 0,{ bs:=[(id,some { cs:=v.cs,dirty:=true })] })
  | .buildSlice T len parts=>match PZ P T with
    | none => .fail "buildSlice"
    | some e=>match Rg P e,AN P e with
      | some z, some ts => (RM.guard (Nat.ble (len * P.cellsOf e) 100000 && Nat.beq z.cs.length (P.cellsOf e)) "buildSlice size").bind fun _ =>
        (XA P (fun i=>some (i * P.cellsOf e,e)) ctx parts.toList (Dc len z.cs)).bind fun cs =>
        (fB (HQ (P.cellsOf e) len cs)).bind fun (rows, fr, nw) => (RM.guard (I7 P ts (HQ (P.cellsOf e) len cs)) "buildSlice kinds").bind fun _ =>
        .ret ([],.own e id,{ hs:=fr++[(id,some { e,frozen:=false,nw,l:=O.llit rows,dirty:=true })] })
      | _, _ => .fail "buildSlice zero"
  | .makeSlice T len cap=>match PZ P T with
    | none => .fail "makeSlice"
    | some e=>match Rg P e,P.info? e,AN P e with
      | some z, some ti, some ts => (evI ctx len).bind fun n => (RM.guard (Yk len cap && I7 P ts [z.cs] && z.cs.all Y1) "makeSlice cap").bind fun _ =>
        (MO z.cs).bind fun (ls,_,_) =>
        .ret ([O.small n ti.bytes],.own e id,{ hs:=[(id,some { e,frozen:=false,nw:=true,l:=O.lrep n ls,dirty:=true })] })
      | _, _, _ => .fail "makeSlice zero"
  | .call c=>match c.callee,c.args.toList,c.argTypes.toList with
    | .builtin .append,[x,y],[T,U]=>match PZ P T,PZ P U with
      | some e, some e' => (RM.guard (Nat.beq T U) "append types").bind fun _ => (evC P ctx T x).bind fun a => (evC P ctx U y).bind fun b =>
        (Vk b).bind fun (eb,lb,nb') =>
        let nb:=nb'||ZD P e
        match P.info? e,AN P e,Rg (O:=O) P e with
        | some ti, some _, some z => (RM.guard (Nat.beq e eb && Nat.beq z.cs.length (P.cellsOf e)) "append elements").bind fun _ => match a with
          | .nil ea => (RM.guard (Nat.beq e ea) "append elements").bind fun _ =>
            .ret ([O.small (O.llen lb) ti.bytes],.own e id,{ hs:=[(id,some { e,frozen:=false,nw:=nb,l:=lb,dirty:=true })] })
          | .own ea i=>.h i fun
            | some h => (RM.guard (!h.frozen && Nat.beq e ea && Nat.beq e h.e) "append to a shared slice").bind fun _ =>
              .ret ([O.small (O.llen (O.lapp h.l lb)) ti.bytes],.own e id,
                { hs:=[(i,none),(id,some { e,frozen:=false,nw:=h.nw&&nb,l:=O.lapp h.l lb,dirty:=true })] })
            | none => .fail "append a slice that is gone"
          | _ => .fail "append to a slice that came in"
        | _, _, _ => .fail "append type"
      | _, _ => .fail "append types"
    | _, _, _ => .fail "call"
  | .convert src dst x=>(evC P ctx src x).bind fun c=>match AK P src,AK P dst,c with
    | .str,.sl e,.str s=>match AK P e,AN P e with
      | .int .u8,some [t]=>match AK P t with
        | .int .u8=>.ret ([],.imm e true (O.sbytes s),{})
        | _ => .fail "convert"
      | _, _ => .fail "convert"
    | _, _, _ => .fail "convert"
  | _ => .fail "an operation"
def ko:Op→Bool
 | .alloc _ | .box _ _ | .buildSlice _ _ _ | .makeSlice _ _ _=>true
 | .convert _ dst _=>match AK P dst with
  | .sl _=>true
  | _=>false
 | .call c=>match c.callee with
  | .builtin .append=>true
  | _=>false
 | _=>false
def Yq:List (Nat×Option (HEnt O))→RM O (List (Nat×Option (HEnt O)))
 | []=>.ret []
 | (n,_)::r=>.h n fun
  | some h=>(Yq r).bind fun l=>.ret ((n,some { h with frozen:=true,dirty:=true })::l)
  | none => .fail "a slice that is gone"
def pJ (ctx:List (Nat×Bool)) (id:Nat):Op→RM O (AC O)
 | .buildSlice T len parts=>(H8 P ctx id (.buildSlice T len parts)).bind fun (as,c,w)=>match as,c,w.hs,w.bs with
  | [],.own e q,[(j,some h)],[]=>match Nat.beq q id&&(Nat.beq j id&&Nat.beq e h.e) with
   | true=>.ret (.imm e h.nw h.l)
   | false => .fail "a literal under a guard"
  | _, _, _, _ => .fail "a literal under a guard"
 | _ => .fail "an operation under a guard"
inductive Spec where
 | take (T:TypeId) (x hi:Operand)
 | tail (T:TypeId) (x lo:Operand)
 | clr (T:TypeId) (x:Operand)
 | mkMap (T:TypeId)
 | mapUpd (T:TypeId) (m k v:Operand)
 | mapGet (T:TypeId) (m k:Operand)
 | mapEnt (T:TypeId) (m k:Operand)
 | mapSto (T:TypeId) (m x v:Operand)
def PX:List (AC O)→Option (List O.I)
 | []=>some []
 | .int .i64 i::r=>match PX r with
  | some l=>some (i::l)
  | none=>none
 | _=>none
def kK (v:Val O):Option (List O.I):=match v.agg with
 | true=>PX v.cs
 | false=>none
def OY (O:Alg) (l:O.L) (ks:List O.I) (z:O.I):O.L:=O.lput ks.length l ks z
def SC (O:Alg) (l:O.L) (ks:List O.I):O.I:=O.lget ks.length l ks
def ME (cfg:Cfg):Op→Option Spec
 | .slice T x lo (some hi) none=>match CP 60001 cfg.ie&&QM lo with
  | true=>some (.take T x hi)
  | false=>none
 | .slice T x (some lo) none none=>match CP 60001 cfg.ie with
  | true=>some (.tail T x lo)
  | false=>none
 | .call ⟨.builtin .clear,args,tys⟩=>match args.toList,tys.toList with
  | [x],[T]=>some (.clr T x)
  | _,_=>none
 | .makeMap T none=>some (.mkMap T)
 | .mapUpdate T m k v=>some (.mapUpd T m k v)
 | .lookup T m k false=>some (.mapGet T m k)
 | .mapEntry T m k=>some (.mapEnt T m k)
 | .entryStore T m x v=>some (.mapSto T m x v)
 | _=>none
def V7 (ctx:List (Nat×Bool)) (id:Nat) (d:Option Nat) (T:TypeId) (hi:Operand) (c:AC O):RM O (Option (StepRes O)):=match c,PZ P T,d with
  | .own e q,some e',some d=>.h q fun
    | some en=>match !en.frozen&&(Nat.beq e en.e&&Nat.beq e e') with
      | true => (evI ctx hi).bind fun b => .ret (some (.plain [O.inr (O.lit .i64 0) b (O.llen en.l)]
          { ts:=[(d,some ⟨ctx,one (.own e id)⟩)],hs:=[(q,none),(id,some { en with l:=O.lsub en.l (O.lit .i64 0) b,dirty:=true })] }))
      | false=>.ret none
    | none => .fail "a slice that is gone"
  | _,_,_=>.ret none
def WG (ctx:List (Nat×Bool)) (d:Option Nat) (T:TypeId) (lo:Operand) (c:AC O):RM O (Option (StepRes O)):=match c,PZ P T,d with
 | .own e q,some e',some d=>.h q fun
  | some en=>match !en.frozen&&(Nat.beq e en.e&&Nat.beq e e') with
   | true=>(evI ctx lo).bind fun i=>.ret (some (.plain [O.inr i (O.llen en.l) (O.llen en.l)] { ts:=[(d,some ⟨ctx,one (.tail e q i)⟩)] }))
   | false=>.ret none
  | none => .fail "a slice that is gone"
 | _,_,_=>.ret none
def eZ (d:Option Nat) (T:TypeId) (c:AC O):RM O (Option (StepRes O)):=match c,PZ P T,d with
 | .tail e q i,some e',none=>.h q fun
  | some en=>match Rg P e,AN P e with
   | some z, some ts => (RM.guard (!en.frozen && (Nat.beq e en.e && Nat.beq e e') && (I7 P ts [z.cs] && z.cs.all Y1)) "clear").bind fun _ => (MO z.cs).bind fun (ls, _, _) =>
    .ret (some (.plain [] { hs:=[(q,some { en with l:=O.lapp (O.lsub en.l (O.lit .i64 0) i) (O.lrep (O.llen (O.lsub en.l i (O.llen en.l))) ls),dirty:=true })] }))
   | _, _ => .fail "clear"
  | none => .fail "a slice that is gone"
 | _, _, _ => .fail "clear"
def Rz (T:TypeId) (n:Nat) (c:AC O):RM O (Nat×HEnt O):=match c with
 | .mp e q=>.h q fun
  | some en=>match !en.frozen&&((Nat.beq e (Ck P n)&&Nat.beq en.e e)&&MT P T n) with
   | true=>.ret (q,en)
   | false => .fail "another map"
  | none => .fail "a map that is gone"
 | _ => .fail "no map"
def RN (ctx:List (Nat×Bool)) (T:TypeId) (k:Operand):RM O (List O.I) :=
  (evV P ctx T k).bind fun kv => RM.ofOpt "a key" (kK kv)
def Zj:AC O→RM O O.I
 | .int .i64 z=>.ret z
 | _ => .fail "no int"
def kZ (d:Option Nat) (T:TypeId) (c:AC O) (ks:List O.I) (z:O.I):RM O (Option (StepRes O)):=match d with
 | none=>(Rz P T ks.length c).bind fun (q,en)=>.ret (some (.plain [] { hs:=[(q,some { en with l:=OY O en.l ks z,dirty:=true })] }))
 | some _ => .fail "a map"
def TN (ctx:List (Nat×Bool)) (d:Option Nat) (T:TypeId) (c:AC O) (ks:List O.I):RM O (Option (StepRes O)):=match d with
 | some d=>(Rz P T ks.length c).bind fun (q,en)=>.ret (some (.plain [] { ts:=[(d,some ⟨ctx,one (.int .i64 (SC O en.l ks))⟩)] }))
 | none => .fail "a map"
def Zo (ctx:List (Nat×Bool)) (d:Option Nat) (T:TypeId) (c:AC O) (ks:List O.I):RM O (Option (StepRes O)):=match d with
 | some d=>(Rz P T ks.length c).bind fun (q,en)=>.ret (some (.plain [] { ts:=[(d,some ⟨ctx,.tup [{ agg:=false,cs:=[.int .i64 (SC O en.l ks)] },{ agg:=false,cs:=[.int .i64 (O.lkey ks.length en.l ks)] }]⟩)],hs:=[(q,some { en with l:=OY O en.l ks (SC O en.l ks),dirty:=true })] }))
 | none => .fail "a map"
def ke (d:Option Nat) (T:TypeId) (c:AC O) (i z:O.I):RM O (Option (StepRes O)):=match d with
 | none=>(Rz P T (P.cellsOf (IH P T).1) c).bind fun (q,en)=>.ret (some (.plain [O.inb i (O.llen en.l)] { hs:=[(q,some { en with l:=O.lset en.l i (P.cellsOf (IH P T).1) [.int z],dirty:=true })] }))
 | some _ => .fail "a map"
def gE (ctx:List (Nat×Bool)) (id:Nat) (d:Option Nat) (T:TypeId) (n:Nat):RM O (Option (StepRes O)) :=
 match d,MT P T n&&(noSl P (Ck P n)&&Nat.blt n 200) with
 | some d,true=>.ret (some (.plain [] { ts:=[(d,some ⟨ctx,one (.mp (Ck P n) id)⟩)],hs:=[(id,some { e:=Ck P n,frozen:=false,nw:=true,l:=O.lnil,dirty:=true })] }))
 | _, _ => .fail "a map"
def Sb (ctx:List (Nat×Bool)) (id:Nat) (d:Option Nat):Spec→RM O (Option (StepRes O))
 | .mkMap T=>gE P ctx id d T (P.cellsOf (IH P T).1)
 | .mapUpd T m k v=>(evC P ctx T m).bind fun c=>(RN P ctx (IH P T).1 k).bind fun ks=>(evC P ctx (IH P T).2 v).bind fun x=>(Zj x).bind fun z=>kZ P d T c ks z
 | .mapGet T m k=>(evC P ctx T m).bind fun c=>(RN P ctx (IH P T).1 k).bind fun ks=>TN P ctx d T c ks
 | .mapEnt T m k=>(evC P ctx T m).bind fun c=>(RN P ctx (IH P T).1 k).bind fun ks=>Zo P ctx d T c ks
 | .mapSto T m x v=>(evC P ctx T m).bind fun c=>(evC P ctx 0 x).bind fun x=>(Zj x).bind fun i=>(evC P ctx (IH P T).2 v).bind fun y=>(Zj y).bind fun z=>ke P d T c i z
 | .take T x hi=>(evC P ctx T x).bind fun c=>V7 P ctx id d T hi c
 | .tail T x lo=>(evC P ctx T x).bind fun c=>WG P ctx d T lo c
 | .clr T x=>(evC P ctx T x).bind fun c=>eZ P d T c
def Tn (ctx:List (Nat×Bool)) (g:Option O.B) (o:Oper) (id:Nat):RM O (StepRes O):=match o.op,ko P o.op with
 | .store T a x,_=>match g with
  | some _ => .fail "a store under a guard"
  | none=>(evC P ctx T a).bind fun p=>(evV P ctx T x).bind fun v=>(je P T v.cs p).bind fun w=>match o.dst with
   | none=>.ret (.plain [] w)
   | some _ => .fail "a store with a value"
 | .call ⟨.value f,args,_⟩,_=>(ev P ctx 0 f).bind fun
  | .val ⟨false,[.fn f caps]⟩=>match P.funcs[f]? with
   | none => .fail "no such function"
   | some fn => (RM.guard (fn.body.isSome && !(fn.name == "runtime.NumGoroutine")) "a callee without a body").bind fun _ => (ZN P ctx (fn.params.toList.take args.size) args.toList).bind fun args => Yi P cfg ctx g id o.dst f caps args
  | _ => .fail "call no function"
 | op,true=>match g,o.dst with
  | none,some d=>(H8 P ctx id op).bind fun (as,c,w)=>.ret (.plain as { w with ts:=[(d,some ⟨ctx,one c⟩)] })
  | some _,some d=>(pJ P ctx id op).bind fun c=>.ret (.plain [] { ts:=[(d,some ⟨ctx,one c⟩)] })
  | _, none => .fail "an operation under a guard"
 | op,false=>match o.dst with
  | some d=>(Vt P ctx o.type op).bind fun (as,v,fr)=>(Yq fr).bind fun fr=>.ret (.plain (as.map (bX g)) { ts:=[(d,some ⟨ctx,v⟩)],hs:=fr })
  | none => .fail "an operation without a value"
def gC (ctx:List (Nat×Bool)) (g:Option O.B) (o:Oper) (id:Nat):RM O (StepRes O):=match g,ME cfg o.op with
 | none,some sp=>(Sb P ctx id o.dst sp).bind fun
  | some r=>.ret r
  | none=>Tn P cfg ctx g o id
 | _,_=>Tn P cfg ctx g o id
def FW (ops:List Oper) (o:Oper) (id:Nat):RM O (StepRes O) :=
  (Zr ops o).bind fun ctx=>(au ctx).bind fun g=>gC P cfg ctx g o id
end
structure Ms where
 t:Nat
 r:Nat
def Ms.or (a b:Ms):Ms:=⟨a.t ||| b.t,a.r ||| b.r⟩
def Tl:Option Ms→Option Ms→Option Ms
 | some a,some b=>some (a.or b)
 | some a,none=>some a
 | none,b=>b
def aV (a:Ms):Option Ms→Option Ms
 | some b=>some (a.or b)
 | none=>none
structure An where
 nrm:Option Ms
 ret:Option Ms
 exts:List (Nat×Ms)
def A5:List (Nat×Ms)→Nat→Option Ms
 | [],_=>none
 | (j,m)::l,k=>match Nat.beq j k with
  | true=>some m
  | false=>A5 l k
def LE:List (Nat×Ms)→Nat→List (Nat×Ms)
 | [],_=>[]
 | (j,m)::l,k=>match Nat.beq j k with
  | true=>LE l k
  | false=>(j,m)::LE l k
def TH (l:List (Nat×Ms)) (k:Nat) (m:Ms):List (Nat×Ms):=match A5 l k with
 | some m'=>(k,m'.or m)::LE l k
 | none=>(k,m)::l
def Pk:List (Nat×Ms)→List (Nat×Ms)→List (Nat×Ms)
 | [],r=>r
 | (k,m)::l,r=>Pk l (TH r k m)
def V4 (ops:List Oper):Nat→Nat→Nat
 | 0,t=>t
 | n+1,t=>match ops.find? (fun o=>match o.dst with | some d=>Nat.beq d t | none=>false) with
  | some o=>match o.op with
   | .fieldAddr _ (.tmp x) _ | .indexAddr _ (.tmp x) _ | .nilCheck (.tmp x) | .move (.tmp x) | .load _ (.tmp x) | .assign (.tmp x)=>V4 ops n x
   | _=>t
  | none=>t
def jj (P:Program) (all:List Oper):Operand→Nat
 | .tmp a=>match all.find? (fun o=>match o.dst with | some d=>Nat.beq d a | none=>false) with
  | some o=>match AK P o.type with
   | .ptr | .fn=>DB (V4 all 40 a)
   | _=>0
  | none=>0
 | _=>0
def fZ (P:Program) (all:List Oper):List Oper→Nat
 | []=>0
 | o::r=>(match o.op with
  | .store _ (.tmp a) _=>DB (V4 all 40 a)
  | .mapUpdate _ (.tmp a) _ _ | .mapEntry _ (.tmp a) _ | .entryStore _ (.tmp a) _ _=>DB (V4 all 40 a)
  | .call c=>match c.callee with
   | .value f=>c.args.toList.foldl (fun m x=>m ||| jj P all x) (jj P all f)
   | .builtin .append=>match c.args.toList with
    | .tmp a::_=>DB (V4 all 40 a)
    | _=>0
   | _=>0
  | _=>0) ||| fZ P all r
def Wy:List Oper→Nat
 | []=>0
 | o::r=>(match o.dst with | some d=>DB d | none=>0) ||| Wy r
def an (P:Program):Code→An
 | .skip=>⟨some ⟨0,0⟩,none,[]⟩
 | .region _ ops _=>⟨some ⟨Wy ops.toList,fZ P ops.toList ops.toList⟩,none,[]⟩
 | .seq a b=>match an P a with
  | ⟨none,r,e⟩=>⟨none,r,e⟩
  | ⟨some m,r,e⟩=>match an P b with
   | ⟨n',r',e'⟩=>⟨aV m n',Tl r (aV m r'),Pk (e'.map fun (k,x)=>(k,m.or x)) e⟩
 | .cond _ a b=>match an P a,an P b with
  | ⟨n,r,e⟩,⟨n',r',e'⟩=>⟨Tl n n',Tl r r',Pk e e'⟩
 | .block id b=>match an P b with
  | ⟨n,r,e⟩=>⟨Tl n (A5 e id),r,LE e id⟩
 | .loop b=>match an P b with
  | ⟨n,r,e⟩=>⟨none,match n with | some m=>aV m r | none=>r,match n with | some m=>e.map (fun (k,x)=>(k,m.or x)) | none=>e⟩
 | .exit id=>⟨none,none,[(id,⟨0,0⟩)]⟩
 | .ret=>⟨none,some ⟨0,0⟩,[]⟩
 | _=>⟨none,none,[]⟩
structure Cn where
 nrm:Nat
 ret:Nat
 exts:List (Nat×Nat)
def lI:List (Nat×Nat)→Nat→Nat
 | [],_=>0
 | (j,m)::l,k=>match Nat.beq j k with
  | true=>m+lI l k
  | false=>lI l k
def cnt:Code→Cn
 | .skip | .region ..=>⟨1,0,[]⟩
 | .seq a b=>match cnt a,cnt b with
  | ⟨0,r,e⟩,_=>⟨0,r,e⟩
  | ⟨n,r,e⟩,⟨n',r',e'⟩=>⟨n',r+r',e++e'⟩
 | .cond _ a b=>match cnt a,cnt b with
  | ⟨n,r,e⟩,⟨n',r',e'⟩=>⟨n+n',r+r',e++e'⟩
 | .block id b=>match cnt b with
  | ⟨n,r,e⟩=>⟨n+lI e id,r,e.filter fun (k,_) => !Nat.beq k id⟩
 | .loop b=>match cnt b with
  | ⟨n,r,e⟩=>⟨0,(match r with | 0=>0 | _=>1),e.map fun (k,_)=>(k,1)⟩
 | .exit id=>⟨0,0,[(id,1)]⟩
 | .ret=>⟨0,1,[]⟩
 | _=>⟨0,0,[]⟩
def fE:Operand→Nat
 | .tmp t=>DB t
 | _=>0
def Jz (nt:Nat):List Oper→Bool
 | []=>true
 | o::r=>(match o.dst with | some d=>Nat.blt d nt | none=>true)&&Jz nt r
def CX (nt:Nat):Code→Bool
 | .region _ ops _=>Jz nt ops.toList
 | .seq a b=>CX nt a&&CX nt b
 | .cond _ a b=>CX nt a&&CX nt b
 | .block _ b=>CX nt b
 | .loop b=>CX nt b
 | _=>true
def f8:List Oper→Nat
 | []=>0
 | o::r=>o.op.operands.toList.foldl (fun m x=>m ||| fE x) 0 ||| f8 r
def Rn:Code→Nat
 | .region _ ops _=>f8 ops.toList
 | .seq a b=>Rn a ||| Rn b
 | .cond c a b=>fE c ||| Rn a ||| Rn b
 | .block _ b | .loop b | .scope b=>Rn b
 | _=>0
def Sh:Code→Nat
 | .region _ ops _=>ops.size
 | .seq a b=>Sh a+Sh b
 | .cond _ a b=>4+Sh a+Sh b
 | .block _ b=>Sh b
 | .loop _=>1000
 | _=>0
inductive Ex where
 | nrm
 | ext (id:Nat)
 | ret
structure Lv where
 nrm:Nat
 ret:Nat
 exts:List (Nat×Nat)
def pI:List (Nat×Nat)→Nat→Nat
 | [],_=>0
 | (j,m)::l,k=>match Nat.beq j k with
  | true=>m
  | false=>pI l k
def Lv.of (lv:Lv):Ex→Nat
 | .nrm=>lv.nrm
 | .ret=>lv.ret
 | .ext id=>pI lv.exts id
def Lv.all (lv:Lv):Nat:=lv.exts.foldl (fun m (_,x)=>m ||| x) (lv.nrm ||| lv.ret)
inductive SlotC where
 | int (k:IntKind) | bool | str | own (e:TypeId) (nw:Bool) | imm (e:TypeId) (nw:Bool)
inductive Slot where
 | t (n:Nat) (agg:Bool) (cs:List SlotC)
 | b (id:Nat) (cs:List SlotC)
def lA (cfg:Cfg) (e:Nat):Bool:=cfg.imm||CP e cfg.ie
def sM {O:Alg} (s:State O) (cfg:Cfg):AC O→Option SlotC
 | .int k _=>some (.int k)
 | .bool _=>some .bool
 | .str _=>some .str
 | .nil e=>some (match lA cfg e with | true=>.imm e (!cfg.old) | false=>.own e (!cfg.old))
 | .imm e nw _=>some (.imm e (nw && !cfg.old))
 | .own e id=>match s.getH id with
  | some h=>some (match h.frozen||lA cfg e with | true=>.imm e (h.nw && !cfg.old) | false=>.own e (h.nw && !cfg.old))
  | none=>none
 | _=>none
def gD {O:Alg} (s:State O) (cfg:Cfg):List (AC O)→Option (List SlotC)
 | []=>some []
 | c::r=>match sM s cfg c,gD s cfg r with
  | some a,some l=>some (a::l)
  | _,_=>none
section
variable {O:Alg} (P:Program) (cfg:Cfg)
def bV (s:State O) (n:Nat):List Nat:=match s.getT n with
 | some ⟨_,.val ⟨false,[.ptr b _]⟩⟩=>[b]
 | some ⟨_,.val ⟨false,[.aptr b _ _ _ _ _]⟩⟩=>[b]
 | some ⟨_,.val ⟨false,[.fn _ caps]⟩⟩=>caps.map (·.1)
 | _=>[]
def sI (s:State O) (n:Nat):Bool:=match s.getT n with
 | some ⟨_,.val ⟨false,[.fn _ _]⟩⟩=>true
 | _=>false
def rc (s:State O) (n:Nat):List Nat:=match s.getT n with
 | some ⟨_,.val ⟨false,[.eptr id _ _]⟩⟩=>[id]
 | some ⟨_,.val ⟨false,[.mp _ id]⟩⟩=>[id]
 | _=>[]
def rb (s:State O) (hid:List Nat) (n:Nat):Bool:=match s.getT n with
 | some ⟨_,.val ⟨false,[.own _ id]⟩⟩ => !CP id hid
 | _=>false
def KG (s:State O):List Nat→List Nat→List (Nat×TypeId×Bool)
 | [],_=>[]
 | n::r,seen=>match CP n seen with
  | true=>KG s r seen
  | false=>match s.getH n with
   | none=>KG s r seen
   | some h=>match h.frozen with
    | true=>KG s r seen
    | false=>(n,h.e,h.nw)::KG s r (n::seen)
def L4 (m:Nat):Nat→List Nat→List Nat
 | 0,acc=>match m.testBit 0 with | true=>0::acc | false=>acc
 | n+1,acc=>L4 m n (match m.testBit (n+1) with | true=>(n+1)::acc | false=>acc)
def SO (m:Nat):Nat:=m.log2
def I1 (s:State O):List Nat→List Nat→Option (List Slot)
 | [],_=>some []
 | b::r,seen=>match CP b seen with
  | true=>I1 s r seen
  | false=>match s.getB b with
   | none=>I1 s r seen
   | some e=>match gD s cfg e.cs,I1 s r (b::seen) with
    | some cs,some l=>some (.b b cs::l)
    | _,_=>none
def Kn (s:State O):List Nat→List Slot
 | []=>[]
 | n::r=>match s.getT n with
  | some ⟨[],.val v⟩=>match gD s cfg v.cs with
   | some cs=>.t n v.agg cs::Kn s r
   | none=>Kn s r
  | _=>Kn s r
def W4 (s:State O) (m:Nat):List Nat:=L4 m (SO m) []
def hOf (s:State O) (m:Ms):List (Nat×TypeId×Bool):=KG s (((W4 s m.r).map (rc s)).flatten) []
def mA (s:State O) (m:Ms) (live:Nat):Option (List Slot) :=
 let rs:=W4 s m.r
 let tmps:=(m.t ||| rs.foldl (fun a n=>match rb s ((hOf s m).map (·.1)) n with | true=>a ||| DB n | false=>a) 0) &&& live
 match I1 cfg s (((rs.filter fun n=>live.testBit n||(CP 60000 cfg.ie&&sI s n)).map (bV s)).flatten) [] with
 | some l=>some (Kn cfg s (L4 tmps (SO tmps) [])++l)
 | none=>none
def CT (s:State O) (m:Ms):List Nat:=((W4 s m.r).map (bV s)).flatten
def eM:List (AC O)→List Nat
 | []=>[]
 | .own _ id::r=>id::eM r
 | _::r=>eM r
def pH (s:State O):List Nat→List Nat
 | []=>[]
 | n::r=>(match s.getT n with | some ⟨_,.val v⟩=>eM v.cs | _=>[])++pH s r
def pF (s:State O):List Nat→List Nat
 | []=>[]
 | b::r=>(match s.getB b with | some e=>eM e.cs | none=>[])++pF s r
def aL (s:State O) (m:Ms):List Nat:=pH s (L4 (m.t ||| m.r) (SO (m.t ||| m.r)) [])++pF s (CT s m)
def Zd (s:State O) (m:Ms):List Nat:=aL s m++(hOf s m).map (·.1)
def Nk (s:State O) (ids:List Nat):List (Nat×HEnt O):=s.hp.filter fun (n,_) => !CP n ids
def MD (s:State O) (bs:List Nat):List (Nat×BEnt O):=s.bx.filter fun (n,_) => !CP n bs
def cleanB (l:List (Nat×BEnt O)):List (Nat×BEnt O):=l.map fun (n,e)=>(n,{ e with dirty:=false })
def cleanH (l:List (Nat×HEnt O)):List (Nat×HEnt O):=l.map fun (n,e)=>(n,{ e with dirty:=false })
def K7 (s:State O) (keep:List Nat) (used:List Nat):SlotC→AC O→Except String (O.Lf×List Nat)
 | .int k, .int k' i => match QB k k' with | true => .ok (.int i, used) | false => .error "a slot of another kind"
 | .bool,.bool b=>.ok (.bool b,used)
 | .str,.str x=>.ok (.str x,used)
 | .own e _, .nil e' => match Nat.beq e e' with | true => .ok (.rows O.lnil, used) | false => .error "a slot of another element"
 | .imm e _, .nil e' => match Nat.beq e e' with | true => .ok (.rows O.lnil, used) | false => .error "a slot of another element"
 | .own e nw,.own e' id=>match s.getH id with
  | some h=>match Nat.beq e e'&&Nat.beq e h.e && !h.frozen&&(h.nw || !nw) && !CP id used && !CP id keep with
   | true=>.ok (.rows h.l,id::used)
   | false => .error "an owned slot that is shared"
  | none => .error "a slot whose slice is gone"
 | .own _ _, .imm _ _ _ => .error "an owned slot that is not owned"
 | .imm e nw, .imm e' nw' l => match Nat.beq e e' && (nw' || !nw) with | true => .ok (.rows l, used) | false => .error "a shared slot"
 | .imm e nw,.own e' id=>match s.getH id with
  | some h=>match Nat.beq e e'&&Nat.beq e h.e&&(h.nw || !nw)&&(h.frozen || !CP id keep) && !CP id used with
   | true=>.ok (.rows h.l,match h.frozen with | true=>used | false=>id::used)
   | false => .error "a shared slot of an owned slice"
  | none => .error "a slot whose slice is gone"
 | _, _ => .error "a slot"
def JN (s:State O) (keep used:List Nat):List SlotC→List (AC O)→Except String (List O.Lf×List Nat)
 | [],[]=>.ok ([],used)
 | a::as,c::cs=>match K7 s keep used a c with
  | .error e=>.error e
  | .ok (l,u)=>match JN s keep u as cs with
   | .error e=>.error e
   | .ok (ls,u)=>.ok (l::ls,u)
 | _, _ => .error "slots"
def G5 (s:State O) (keep:List Nat):List Nat→List Slot→Except String (List O.Lf)
 | _,[]=>.ok []
 | used,.t n agg cs::r=>match s.getT n with
  | some ⟨[],.val v⟩=>match v.agg==agg,JN s keep used cs v.cs with
   | true,.ok (ls,u)=>match G5 s keep u r with
    | .ok more=>.ok (ls++more)
    | .error e=>.error e
   | true, .error e => .error (e ++ " t" ++ toString n)
   | false, _ => .error "a slot s form"
  | _ => .error ("a slot that is not there t" ++ toString n)
 | used,.b b cs::r=>match s.getB b with
  | some e=>match JN s keep used cs e.cs with
   | .ok (ls,u)=>match G5 s keep u r with
    | .ok more=>.ok (ls++more)
    | .error e=>.error e
   | .error er => .error (er ++ " box")
  | none => .error "a slot s variable is gone"
def N2 (s:State O):List (Nat×BEnt O)→Bool
 | []=>true
 | (n,_)::r=>match s.getB n with
  | some e=>match e.dirty with
   | true=>false
   | false=>N2 s r
  | none=>false
def OH (s:State O):List (Nat×HEnt O)→Bool
 | []=>true
 | (n,_)::r=>match s.getH n with
  | some e=>match e.dirty with
   | true=>false
   | false=>OH s r
  | none=>false
def Hp (c:O.C) (j q:Nat):SlotC→AC O×List (Nat×HEnt O)
 | .int k=>(.int k (O.cI c j),[])
 | .bool=>(.bool (O.cB c j),[])
 | .str=>(.str (O.cS c j),[])
 | .own e nw=>(.own e q,[(q,{ e,frozen:=false,nw,l:=O.cL c j,dirty:=true })])
 | .imm e nw=>(.imm e nw (O.cL c j),[])
def Ke (c:O.C):Nat→Nat→List SlotC→List (AC O)×List (Nat×HEnt O)
 | _,_,[]=>([],[])
 | j,q,a::as=>match Hp c j q a with
  | (x,h)=>match Ke c (j+1) (q+h.length) as with
   | (xs,hs)=>(x::xs,h++hs)
def BT (c:O.C):Nat→Nat→List Slot→State O→State O
 | _,q,[],s=>{ s with st:=q }
 | j,q,.t n agg cs::r,s=>match Ke c j q cs with
  | (xs,hs)=>BT c (j+cs.length) (q+hs.length) r { s with tm:=F2 s.tm n (some ⟨[],.val { agg,cs:=xs }⟩),hp:=hs++s.hp }
 | j,q,.b b cs::r,s=>match Ke c j q cs with
  | (xs,hs)=>BT c (j+cs.length) (q+hs.length) r { s with bx:=MU s.bx b (some { cs:=xs,dirty:=true }),hp:=hs++s.hp }
def eW (t:TM (TV O)):List Nat→TM (TV O)
 | []=>t
 | n::r=>eW (F2 t n none) r
structure Way (O:Alg) where
 e:Ex
 slots:List Slot
 base:State O
 hs:List (Nat×TypeId×Bool)
def Wb (s:State O):List (Nat×TypeId×Bool)→Except String (List O.Lf)
 | []=>.ok []
 | (n,e,nw)::r=>match s.getH n with
  | none => .error "a kept slice is gone"
  | some h=>match Nat.beq h.e e&&(!h.frozen&&h.nw==nw) with
   | false => .error "a kept slice"
   | true=>match Wb s r with
    | .ok ls=>.ok (.rows h.l::ls)
    | .error e=>.error e
def Mr (c:O.C):Nat→List (Nat×TypeId×Bool)→List (Nat×HEnt O)
 | _,[]=>[]
 | j,(n,e,nw)::r=>(n,{ e,frozen:=false,nw,l:=O.cL c j,dirty:=true })::Mr c (j+1) r
def Way.keep (w:Way O):List Nat:=w.hs.map (·.1)++w.base.hp.map (·.1)
def Way.baseC (w:Way O) (c:O.C) (j:Nat):State O:={ w.base with hp:=Mr c j w.hs++w.base.hp }
def Way.encL (w:Way O) (s':State O):Except String (List O.Lf):=match Wb s' w.hs with
 | .error e=>.error e
 | .ok a=>match G5 s' w.keep [] w.slots with
  | .error e=>.error e
  | .ok b=>.ok (a++b)
def KL (s:State O) (e:Ex) (m:Ms) (live:Nat):Except String (Way O):=match mA cfg s m live with
  | none => .error "a layout"
  | some sl => .ok { e, slots := sl, base :=
      { tm:=eW s.tm (L4 m.t (SO m.t) []),bx:=MD s (CT s m),hp:=Nk s (Zd s m),st:=s.st },hs:=hOf s m }
def Way.enc (w:Way O) (tag:Option Nat) (s':State O):O.M :=
 match N2 s' w.base.bx,OH s' w.base.hp with
 | true,true=>match w.encL s' with
  | .ok ls=>O.ret (match tag with | some t=>.int (O.lit .i64 t)::ls | none=>ls)
  | .error e=>O.fail e
 | _, _ => O.fail "memory that a join does not know"
def Way.dec (w:Way O) (tagged:Bool) (c:O.C):State O:=BT c ((match tagged with | true=>1 | false=>0)+w.hs.length) w.base.st w.slots (w.baseC c (match tagged with | true=>1 | false=>0))
def Vj (s:State O) (lv:Lv) (e:Ex):Option Ms→Except String (List (Way O))
 | none=>.ok []
 | some m=>match KL cfg s e m (lv.of e) with
  | .ok w=>.ok [w]
  | .error e=>.error e
def TA (s:State O) (lv:Lv):List (Nat×Ms)→Except String (List (Way O))
 | []=>.ok []
 | (id,m)::r=>match Vj cfg s lv (.ext id) (some m),TA s lv r with
  | .ok a,.ok b=>.ok (a++b)
  | .error e,_=>.error e
  | _,.error e=>.error e
def Sr (s:State O) (a:An) (lv:Lv):Except String (List (Way O)) :=
 match Vj cfg s lv .nrm a.nrm,Vj cfg s lv .ret a.ret,TA cfg s lv a.exts with
 | .ok x,.ok y,.ok z=>.ok (x++y++z)
 | .error e,_,_=>.error e
 | _,.error e,_=>.error e
 | _,_,.error e=>.error e
def oE:Ex→Ex→Bool
 | .nrm,.nrm=>true
 | .ret,.ret=>true
 | .ext a,.ext b=>Nat.beq a b
 | _,_=>false
def JR (tagged:Bool) (e:Ex) (s':State O):Nat→List (Way O)→O.M
 | _, [] => O.fail "a way out that was not seen"
 | i,w::r=>match oE e w.e with
  | true=>w.enc (match tagged with | true=>some i | false=>none) s'
  | false=>JR tagged e s' (i+1) r
def K2 (c:O.C) (k:Ex→State O→O.M) (tagged:Bool):Nat→List (Way O)→O.M
 | _, [] => O.fail "no way out"
 | _,[w]=>k w.e (w.dec tagged c)
 | i,w::r=>O.ite (O.isTag c i) (k w.e (w.dec tagged c)) (K2 c k tagged (i+1) r)
def cleaned (s:State O):State O:={ s with bx:=cleanB s.bx,hp:=cleanH s.hp }
def scope (a:An) (lv:Lv) (s:State O) (run:State O→(Ex→State O→O.M)→O.M) (k:Ex→State O→O.M):O.M :=
 match Sr cfg s a lv with
 | .error e=>O.fail e
 | .ok ws =>
  let tagged:=Nat.blt 1 ws.length
  O.bind (run (cleaned s) fun e s'=>JR tagged e s' 0 ws) fun c=>K2 c k tagged 0 ws
def Bu:List Oper→List Nat→List Nat
 | [],acc=>acc
 | o::r,acc=>Bu r (acc++[o.after.toList.foldl (fun s e=>match e.ground with
  | .textOnly _ | .gcOnly _=>s
  | _=>s ||| DB e.on ||| acc.getD e.on 0) 0])
def ZM (o:Oper):Bool:=match o.op,o.guard with
 | .lookup _ _ _ false,none=>true
 | _,_=>false
def ZS (o:Oper):Bool:=match o.op,o.guard with
 | .mapEntry _ _ _,none=>true
 | _,_=>false
def VY (ops:List Oper) (i j:Nat):Bool:=match ops[i]?,ops[j]? with
 | some a,some b=>ZM a&&ZS b
 | _,_=>false
def lC (x:Nat):Bool:=Nat.beq x (DB x.log2)&&Nat.beq (x.log2 % 3) 2
def M3 (ex:Nat→Nat→Bool) (bs:List Nat) (ms:List (Nat×Nat)):Bool :=
 let rec inner (j bj rj wj:Nat):Nat→List (Nat×Nat)→Bool
  | _,[]=>true
  | i,(r,w)::l=>match Nat.ble j i with
   | true=>true
   | false=>match bj.testBit i||(Nat.beq (w &&& (rj ||| wj)) 0&&(Nat.beq (wj &&& r) 0||(ex i j&&lC (wj &&& r)))) with
    | true=>inner j bj rj wj (i+1) l
    | false=>false
 let rec outer:Nat→List Nat→List (Nat×Nat)→Bool
  | j,b::bs,(r,w)::l=>match inner j b r w 0 ms with
   | true=>outer (j+1) bs l
   | false=>false
  | _,_,_=>true
 outer 0 bs ms
def am:List Nat→Bool
 | []=>true
 | n::l => !CP n l&&am l
def RC:List O.B→O.M→O.M
 | [],m=>m
 | a::r,m=>O.assert a (RC r m)
def F8:TM (TV O)→TM (TV O)
 | .e=>.e
 | .leaf a=>match a.gs with
  | []=>.leaf a
  | _=>.e
 | .node l r=>.node (F8 l) (F8 r)
def Dx (ops:List Oper):Nat→List Nat→List Oper→Bool
 | i,b::bs,o::r=>match o.guard with
  | none=>Dx ops (i+1) bs r
  | some (j,_)=>Nat.blt j i&&b.testBit j&&(match (ops[j]?).bind (·.dst) with | some _=>true | none=>false)&&Dx ops (i+1) bs r
 | _,_,[]=>true
 | _,[],_::_=>false
def WY:Nat→List Oper→Bool
 | _,[]=>true
 | i,o::r=>(o.after.toList.all fun e=>match e.ground with
  | .textOnly _ | .gcOnly _=>true
  | _=>Nat.blt e.on i)&&WY (i+1) r
def GK (inl : FuncId → List (AV O) → State O → (AV O → State O → O.M) → O.M) (all : List Oper) (draw : Bool) :
    List Oper→Nat→State O→List (Nat×Nat)→(State O→List (Nat×Nat)→O.M)→O.M
  | [],id,s,ms,k=>k { s with st:=id } ms
  | o::r,id,s,ms,k=>match RM.run s (FW P cfg all o id) 0 with
    | .error e=>O.fail e
    | .ok (.plain as w,rd)=>RC as (GK inl all draw r (id+BS P o) (s.apply w) (ms++[(rd,w.mask)]) k)
    | .ok (.call g f fns args dm next,rd) =>
      let m:=O.call f fns args
      O.bind (match g with | none=>m | some g=>O.ite g m (O.ret dm)) fun c=>match next c with
        | none => O.fail "a result"
        | some w=>GK inl all draw r (id+BS P o) (s.apply w) (ms++[(rd,w.mask)]) k
    | .ok (.inl f args,rd)=>match draw with
      | true => O.fail ("a call that has no contract in a region that draws " ++ toString f)
      | false=>inl f args { s with st:=id+BS P o } fun v s' =>
        GK inl all draw r s'.st (match o.dst with | some d=>{ s' with tm:=F2 s'.tm d (some ⟨[],v⟩) } | none=>s') (ms++[(0,0)]) k
def Aa:List Oper→List Nat
 | []=>[]
 | o::r=>match o.dst with | some d=>d::Aa r | none=>Aa r
def I3 (inl:FuncId→List (AV O)→State O→(AV O→State O→O.M)→O.M) (ops:List Oper) (draw:Bool) (s:State O) (k:State O→O.M):O.M :=
 match am (Aa ops)&&(Dx ops 0 (Bu ops []) ops&&WY 0 ops) with
 | false => O.fail "a temporary that is written twice"
 | true=>GK P cfg inl ops draw ops s.st s [] fun s' ms =>
  match !draw||M3 (VY ops) (Bu ops []) ms with
  | false => O.fail "an order that is open"
  | true=>k { s' with tm:=F8 s'.tm }
def kt (s:State O):Operand→Option O.B
 | .tmp n=>match s.getT n with
  | some ⟨[],.val ⟨false,[.bool b]⟩⟩=>some b
  | _=>none
 | .const (.bool b)=>some (match b with | true=>O.tt | false=>O.ff)
 | _=>none
def ka (head:Way O) (ws:List (Way O)) (tagged:Bool) (self:List O.Lf→O.M):Ex→State O→O.M:=fun e s'=>match e with
 | .nrm=>match N2 s' head.base.bx,OH s' head.base.hp with
  | true,true=>match head.encL s' with
   | .ok ls=>self ls
   | .error e=>O.fail e
  | _, _ => O.fail "memory that a loop does not know"
 | e=>JR tagged e s' 0 ws
def bg (o:Oper):Bool:=match o.op,o.guard with
 | .panic _,none=>true
 | _,_=>false
def X (inl:FuncId→List (AV O)→State O→(AV O→State O→O.M)→O.M):Code→Bool→Lv→State O→(Ex→State O→O.M)→O.M
 | .skip,_,_,s,k=>k .nrm s
 | .region _ ops draw,_,_,s,k=>match ops.toList.any bg with
  | true=>O.assert O.ff (O.ret [])
  | false=>I3 P cfg inl ops.toList draw s fun s'=>k .nrm s'
 | .seq a b,light,lv,s,k=>X inl a (light&&Nat.ble (Sh b) 6) { lv with nrm:=Rn b ||| lv.all } s fun e s'=>match e with
  | .nrm=>X inl b light lv s' k
  | e=>k e s'
 | .cond c a b,light,lv,s,k=>match kt s c with
  | none => O.fail "a condition"
  | some x=>match light||Nat.blt ((cnt a).nrm+(cnt b).nrm) 2 with
   | true=>O.ite x (X inl a light lv s k) (X inl b light lv s k)
   | false=>scope cfg (an P (.cond c a b)) lv s (fun s k=>O.ite x (X inl a true lv s k) (X inl b true lv s k)) k
 | .block id b,light,lv,s,k =>
  let lv':Lv:={ lv with exts:=(id,lv.nrm)::lv.exts }
  let k':Ex→State O→O.M:=fun e s'=>match e with
   | .ext i=>match Nat.beq i id with
    | true=>k .nrm s'
    | false=>k e s'
   | e=>k e s'
  match light||Nat.blt ((cnt b).nrm+lI (cnt b).exts id) 2 with
  | true=>X inl b light lv' s k'
  | false=>scope cfg (an P b) lv' s (fun s k=>X inl b true lv' s k) k'
 | .loop b,_,lv,s,k =>
  let a:=an P b
  let lvb:Lv:={ lv with nrm:=Rn b ||| lv.all }
  match a.nrm with
  | none => O.fail "a loop of one round"
  | some m=>match KL cfg s .nrm m lvb.nrm,Sr cfg s (an P (.loop b)) lv with
   | .ok head,.ok ws =>
    let tagged:=Nat.blt 1 ws.length
    match head.encL s with
    | .error e=>O.fail e
    | .ok ls=>O.bind (O.fix (fun self c=>X inl b true lvb (cleaned (head.dec false c)) (ka head ws tagged self)) ls) fun c=>K2 c k tagged 0 ws
   | .error e,_=>O.fail e
   | _,.error e=>O.fail e
 | .exit id,_,_,s,k=>k (.ext id) s
 | .ret,_,_,s,k=>k .ret s
 | _, _, _, _, _ => O.fail "code"
def iR (s:State O):ResultVar→Option (Val O)
 | .tmp t=>match s.getT t with
  | some ⟨[],.val v⟩=>some v
  | _=>none
 | .cell a T=>match s.getT a with
  | some ⟨[],.val ⟨false,[.ptr b off]⟩⟩=>match s.getB b with
   | some e=>match Gj e.cs off (P.cellsOf T) with
    | some cs=>match Ng P T cs.length with
     | true=>some { agg:=AO P T,cs }
     | false=>none
    | none=>none
   | none=>none
  | _=>none
def LO (s:State O):List ResultVar→Option (List (Val O))
 | []=>some []
 | r::rs=>match iR P s r,LO s rs with
  | some v,some l=>some (v::l)
  | _,_=>none
def NF:List ResultVar→Nat
 | []=>0
 | .tmp t::r=>DB t ||| NF r
 | .cell t _::r=>DB t ||| NF r
def Bc:Nat→List (AV O)→TM (TV O)→TM (TV O)
 | _,[],t=>t
 | i,v::r,t=>Bc (i+1) r (F2 t i (some ⟨[],v⟩))
def fO (cfg:Cfg):List TypeId→Option (List SlotC)
 | []=>some []
 | t::ts=>match fO cfg ts with
  | none=>none
  | some r=>match AK P t with
   | .int k=>some (.int k::r)
   | .bool=>some (.bool::r)
   | .str=>some (.str::r)
   | .sl e=>some ((match lA cfg e with | false=>.own e false | true=>.imm e false)::r)
   | _=>none
def Gv:List TypeId→List (AC O)→Option (List (Val O))
 | [],_=>some []
 | t::ts,cs=>match AN P t with
  | none=>none
  | some l=>match Gv ts (cs.drop l.length) with
   | none=>none
   | some r=>some ({ agg:=AO P t,cs:=cs.take l.length }::r)
def Lw:List TypeId→List (Val O)→Bool
 | [],[]=>true
 | t::ts,v::vs=>(match AN P t with
  | some l=>v.agg==AO P t&&AU P l v.cs
  | none=>false)&&Lw ts vs
 | _,_=>false
def RA:Ex→Bool
 | .ext _=>true
 | _=>false
def fQ (a:An):Ms:=match Tl a.nrm a.ret with
 | some m=>m
 | none=>⟨0,0⟩
def bq (rec':Code→Bool→Lv→State O→(Ex→State O→O.M)→O.M) (f:FuncId) (args:List (AV O)) (s:State O) (k:AV O→State O→O.M):O.M :=
  match P.funcs[f]? with
  | none => O.fail "no such function"
  | some fn=>match fn.body with
    | none => O.fail ("a function without a body " ++ fn.name)
    | some body=>match CX fn.ntmps body with
     | false => O.fail "temporaries"
     | true =>
      let s1:State O:={ s with tm:=Bc 0 args .e }
      let live:=NF fn.results.toList ||| (DB args.length - 1)
      let lv:Lv:={ nrm:=live,ret:=live,exts:=[] }
      let c:=cnt body
      match Nat.blt (c.nrm+c.ret) 2 with
      | true=>rec' body false lv s1 fun e s'=>match RA e,LO P s' fn.results.toList with
        | false,some vs=>k (IR vs) { s' with tm:=s.tm }
        | _, _ => O.fail "results"
      | false =>
        let a:=an P body
        let m:Ms:=fQ a
        match I1 cfg s1 (CT s1 m) [],(Iq P fn.resultTypes.toList).bind (fO P cfg) with
        | some sl,some rs =>
          let base:State O:={ s with bx:=MD s (CT s1 m),hp:=Nk s (aL s1 m) }
          let keep:=base.hp.map (·.1)
          O.bind (rec' body true lv (cleaned s1) fun e s'=>match RA e,LO P s' fn.results.toList with
            | true, _ | _, none => O.fail "results"
            | false,some vs=>match Lw P fn.resultTypes.toList vs&&N2 s' base.bx,OH s' base.hp,JN s' keep [] rs ((vs.map (·.cs)).flatten) with
              | true,true,.ok (ls,used)=>match G5 s' keep used sl with
                | .ok more=>O.ret (ls++more)
                | .error e=>O.fail e
              | true, true, .error e => O.fail (e ++ " of a result of " ++ fn.name)
              | _, _, _ => O.fail "memory that a call does not know") fun c =>
            match Ke c 0 base.st rs with
            | (xs,hs)=>match Gv P fn.resultTypes.toList xs with
              | none => O.fail "results"
              | some vs=>k (IR vs) (BT c rs.length (base.st+hs.length) sl { base with hp:=hs++base.hp })
        | _, _ => O.fail "a layout of a call"
def XL:Nat→Code→Bool→Lv→State O→(Ex→State O→O.M)→O.M
 | 0 => fun _ _ _ _ _ => O.fail "too deep"
 | n+1=>X P cfg (bq P cfg (XL n))
def Ah (give:Bool):Nat→List TypeId→List O.Lf→Option (List (AC O)×List (Nat×HEnt O)×List O.Lf)
 | _,[],ls=>some ([],[],ls)
 | q,t::ts,l::ls=>match AK P t,l with
  | .int k,.int i=>(Ah give q ts ls).map fun (cs,h,r)=>(.int k i::cs,h,r)
  | .bool,.bool b=>(Ah give q ts ls).map fun (cs,h,r)=>(.bool b::cs,h,r)
  | .str,.str s=>(Ah give q ts ls).map fun (cs,h,r)=>(.str s::cs,h,r)
  | .sl e,.rows l=>match give with
   | false=>(Ah give q ts ls).map fun (cs,h,r)=>(.imm e false l::cs,h,r)
   | true=>(Ah give (q+1) ts ls).map fun (cs,h,r)=>(.own e q::cs,(q,{ e,frozen:=false,nw:=false,l,dirty:=true })::h,r)
  | _,_=>none
 | _,_::_,[]=>none
def Ax:List Bool→Nat→List TypeId→List Nat→List O.Lf→Option (List (AV O)×List (Nat×HEnt O))
 | _,_,[],[],[]=>some ([],[])
 | gv,q,t::ts,fns,ls=>match AK P t with
  | .fn=>match fns with
   | f::fns=>(Ax gv.tail q ts fns ls).map fun (r,h)=>(one (.fn f [])::r,h)
   | []=>none
  | _=>match AN P t with
   | none=>none
   | some l=>match Ah P (gv.headD false) q l ls with
    | none=>none
    | some (cs,h,ls)=>(Ax gv.tail (q+h.length) ts fns ls).map fun (r,hs)=>(.val { agg:=AO P t,cs }::r,h++hs)
 | _,_,[],_,_=>none
def Pi {α:Type} (l:α):Except String (List α)→Except String (List α)
 | .ok ls=>.ok (l::ls)
 | .error e=>.error e
def Dp (s:State O) (own:Nat→Bool) (nw:Bool) (used:List Nat):List (AC O)→Except String (List O.Lf)
 | []=>.ok []
 | c::r=>match c with
  | .int _ i=>Pi (.int i) (Dp s own nw used r)
  | .bool b=>Pi (.bool b) (Dp s own nw used r)
  | .str x=>Pi (.str x) (Dp s own nw used r)
  | .nil _=>Pi (.rows O.lnil) (Dp s own nw used r)
  | .imm e n l=>match !own e&&(n || !nw) with
   | true=>Pi (.rows l) (Dp s own nw used r)
   | false => .error "a result that is not fresh"
  | .own e id=>match s.getH id with
   | some h=>match (!own e || !h.frozen)&&(h.frozen || !CP id used)&&(h.nw || !nw) with
    | true=>Pi (.rows h.l) (Dp s own nw (id::used) r)
    | false => .error "a result that is shared"
   | none => .error "a result that is gone"
  | _ => .error "a result that is no data"
def kb (own:Nat→Bool) (s:State O):State O:={ s with hp:=s.hp.map fun (n,h)=>(n,{ h with frozen:=h.frozen || !own h.e }) }
def kN (own:Nat→Bool) (nw:Bool) (fn:Func) (e:Ex) (s':State O):O.M:=match RA e,LO P s' fn.results.toList with
 | true, _ | _, none => O.fail "results"
 | false,some rs=>match Lw P fn.resultTypes.toList rs,Dp s' own nw [] ((rs.map (·.cs)).flatten) with
  | true,.ok ls=>O.ret ls
  | true,.error e=>O.fail e
  | false, _ => O.fail "results of other kinds"
def cO (own:Nat→Bool) (nw:Bool) (fn:Func):Ex→State O→O.M:=fun e s0=>kN P own nw fn e (kb own s0)
def XF (own:Nat→Bool) (nw:Bool) (gives:List Bool) (f:FuncId) (fns:List Nat) (args:List O.Lf):O.M:=match P.funcs[f]? with
  | none => O.fail "no such function"
  | some fn=>match fn.body,Ax P gives 1 fn.params.toList fns args with
    | some body,some (vs,hs)=>match CX fn.ntmps body with
     | false => O.fail "temporaries"
     | true =>
      let lv:Lv:={ nrm:=NF fn.results.toList,ret:=NF fn.results.toList,exts:=[] }
      XL P cfg 6 body true lv { tm:=Bc 0 vs .e,bx:=[],hp:=hs,st:=1+hs.length } (cO P own nw fn)
    | none, _ => O.fail "no body"
    | _, none => O.fail "parameters"
end
end Go.Px
end
section
namespace Go.Px
inductive PV where
 | int (n:Int)
 | bool (b:Bool)
 | str (s:ByteArray)
 | rows (l:List (List PV))
 deriving Inhabited
abbrev Rows:=List (List PV)
abbrev AX:=Leaf Int Bool ByteArray Rows
def Leaf.pv:AX→PV
 | .int i=>.int i
 | .bool b=>.bool b
 | .str s=>.str s
 | .rows l=>.rows l
def PV.leaf:PV→AX
 | .int i=>.int i
 | .bool b=>.bool b
 | .str s=>.str s
 | .rows l=>.rows l
@[simp] theorem PV.pv_leaf (p:PV):p.leaf.pv=p:=by cases p<;>rfl
@[simp] theorem Leaf.leaf_pv (p:AX):p.pv.leaf=p:=by cases p<;>rfl
def pvI:PV→Int
 | .int n=>n
 | _=>0
def pvB:PV→Bool
 | .bool b=>b
 | _=>false
def pvS:PV→ByteArray
 | .str s=>s
 | _=>ByteArray.empty
def pvL:PV→Rows
 | .rows l=>l
 | _=>[]
@[simp] theorem qb (n:Int):pvI (.int n)=n:=rfl
@[simp] theorem sZ (b:Bool):pvB (.bool b)=b:=rfl
@[simp] theorem si (s:ByteArray):pvS (.str s)=s:=rfl
@[simp] theorem sV (l:Rows):pvL (.rows l)=l:=rfl
def AA (r:List PV) (j:Nat):PV:=r.getD j (.int 0)
def AB (l:Rows) (i:Nat):List PV:=l.getD i []
def AE (l:Rows) (i j:Nat):PV:=AA (AB l i) j
def A6 (r:List PV):Nat→List PV→List PV
 | _,[]=>r
 | off,p::ps=>A6 (r.set off p) (off+1) ps
def NY (s:ByteArray) (i:Int):Int:=((s.data.toList.getD i.toNat 0).toNat:Int)
def Fo (s:ByteArray):Rows:=s.data.toList.map fun b=>[PV.int b.toNat]
abbrev Env:=Nat→List Nat→List PV→Option (List PV)
def Dy (F:(List AX→Option (List PV))→List PV→Option (List PV)):Nat→List PV→Option (List PV)
 | 0,_=>none
 | n+1,c=>F (fun ls=>Dy F n (ls.map Leaf.pv)) c
def iLe (a b:Int):Bool:=decide (a≤b)
def iLt (a b:Int):Bool:=decide (a<b)
def iIn (i n:Int):Bool:=decide (0≤i∧i<n)
def iRg (a b n:Int):Bool:=decide (0≤a∧a≤b∧b≤n)
def iSm (n:Int) (b:Nat):Bool:=decide (0≤n∧n≤17592186044416∧n * b≤17592186044416∧b≤1048576)
def Bp (n:Nat) (r:List PV):List Int:=(r.take n).map pvI
def AQ (n:Nat) (k:List Int):Rows→Nat
 | []=>0
 | r::L=>cond (k==Bp n r) 0 (AQ n k L+1)
def Fy (n:Nat) (v:Int) (r:List PV):List PV:=A6 r n [.int v]
def HC (k:List Int) (v:Int):List PV:=k.map .int++[.int v]
def Bk (n:Nat) (k:List Int) (L:Rows):Int:=pvI (AE L (AQ n k L) n)
def C9 (n:Nat) (k:List Int) (v:Int) (L:Rows):Rows:=cond (Nat.blt (AQ n k L) L.length) (L.set (AQ n k L) (Fy n v (AB L (AQ n k L)))) (L++[HC k v])
@[reducible] def std (E:Env) (N:Nat):Alg where
 I:=Int
 B:=Bool
 S:=ByteArray
 L:=Rows
 C:=List PV
 M:=Option (List PV)
 lit _ n:=n
 add k a b:=k.wrap (a+b)
 sub k a b:=k.wrap (a - b)
 mul k a b:=k.wrap (a * b)
 quo k a b:=k.wrap (a.tdiv b)
 rem _ a b:=a.tmod b
 conv k a:=k.wrap a
 le a b:=iLe a b
 lt a b:=iLt a b
 eqI a b:=a==b
 tt:=true
 ff:=false
 bnot b := !b
 band a b:=a&&b
 beq a b:=a==b
 iteI b x y:=cond b x y
 iteB b x y:=cond b x y
 iteS b x y:=cond b x y
 iteL b x y:=cond b x y
 slit s:=s
 eqS a b:=a.toList==b.toList
 ltS a b:=Op.bytesLess a.toList b.toList
 slen s:=s.size
 sidx s i:=NY s i
 ssub s l h:=s.extract l.toNat h.toNat
 scat a b:=a++b
 sbytes s:=Fo s
 lnil:=[]
 llit rows:=rows.map (·.map Leaf.pv)
 lapp a b:=a++b
 llen l:=l.length
 lset l i off r:=l.set i.toNat (A6 (AB l i.toNat) off (r.map Leaf.pv))
 lsub l a b:=(l.take b.toNat).drop a.toNat
 lrep n r:=List.replicate n.toNat (r.map Leaf.pv)
 rI l i j:=pvI (AE l i.toNat j)
 rB l i j:=pvB (AE l i.toNat j)
 rS l i j:=pvS (AE l i.toNat j)
 rL l i j:=pvL (AE l i.toNat j)
 lkey n l ks:=(AQ n ks l:Int)
 lget n l ks:=Bk n ks l
 lput n l ks z:=C9 n ks z l
 cI c j:=pvI (AA c j)
 cB c j:=pvB (AA c j)
 cS c j:=pvS (AA c j)
 cL c j:=pvL (AA c j)
 isTag c j:=pvI (AA c 0)==(j:Int)
 inb i n:=iIn i n
 inr a b n:=iRg a b n
 small n b:=iSm n b
 ret ls:=some (ls.map Leaf.pv)
 fail _:=none
 assert b m:=cond b m none
 ite b x y:=cond b x y
 bind m k:=m.bind k
 call f fns ls:=E f fns (ls.map Leaf.pv)
 fix F ls:=Dy F N (ls.map Leaf.pv)
inductive Rep (P:Program) (w:World) (St:Nat→Prop):TypeId→Value→PV→Prop
  | int {t:TypeId} {k:IntKind} {n:Int} (h:AK P t=.int k):Rep P w St t (.int k n) (.int n)
  | bool {t:TypeId} {b:Bool} (h:AK P t=.bool):Rep P w St t (.bool b) (.bool b)
  | str {t:TypeId} {s:ByteArray} (h:AK P t=.str):Rep P w St t (.string s) (.str s)
  | sl {t e : TypeId} {ts : List TypeId} {a : Option Addr} {len cap : Nat} {l : Rows} (v : Nat → Nat → Value)
      (h:AK P t=.sl e) (hts:AN P e=some ts) (hl:l.length=len) (hr:∀ r∈l,r.length=ts.length) (hc:len≤cap)
      (hm:len=0∨∃ b off,a=some ⟨b,off,none⟩∧St b∧b<w.heap.size ∧
        ∀ i j,i<len→j<ts.length→w.cell? ⟨b,off+(i * ts.length+j),none⟩=some (v i j))
      (hv:∀ i j t',i<len→ts[j]?=some t'→Rep P w St t' (v i j) (AE l i j)) :
      Rep P w St t (.slice a len cap) (.rows l)
theorem Rep.mono {P : Program} {w w' : World} {St St' : Nat → Prop} {t : TypeId} {v : Value} {p : PV} (h : Rep P w St t v p)
    (hw:∀ b,St b→b<w.heap.size→w'.heap[b]?=w.heap[b]?∧b<w'.heap.size) (hs:∀ b,St b→b<w.heap.size→St' b):Rep P w' St' t v p:=by
  induction h with
  | int h=>exact .int h
  | bool h=>exact .bool h
  | str h=>exact .str h
  | sl v h hts hl hr hc hm hv ih =>
    refine .sl v h hts hl hr hc ?_ (fun i j t' hi hj=>ih i j t' hi hj)
    rcases hm with hm | ⟨b,off,ha,hb,hlt,hcell⟩
    · exact .inl hm
    · refine .inr ⟨b,off,ha,hs b hb hlt,(hw b hb hlt).2,fun i j hi hj=>?_⟩;rw [World.cell?_of_block (w:=w) (hw b hb hlt).1];exact hcell i j hi hj
section
variable {E:Env} {N:Nat}
abbrev St0 (E:Env) (N:Nat):=State (std E N)
abbrev AC0 (E:Env) (N:Nat):=AC (std E N)
def InM (β:Nat→Option Nat) (σ:Nat→Option (Nat×Nat)) (s:St0 E N) (blk:Nat):Prop :=
  (∃ b e,s.getB b=some e∧β b=some blk)∨(∃ id h cap,s.getH id=some h∧h.frozen=false∧σ id=some (blk,cap))
structure Nz where
 n:Nat
 U:Nat→Prop
def Old (n0:Nz) (nw:Bool) (blk:Nat):Prop:=(nw=true→n0.n≤blk)∧(n0.n≤blk∨n0.U blk)
theorem Old.mono {n0:Nz} {nw nw':Bool} {blk:Nat} (h:Old n0 nw blk) (hh:nw'=true→nw=true):Old n0 nw' blk:=⟨fun e=>h.1 (hh e),h.2⟩
theorem Old.new {n0:Nz} {nw:Bool} {blk:Nat} (h:n0.n≤blk):Old n0 nw blk:=⟨fun _=>h,.inl h⟩
def StB (n0:Nz) (β:Nat→Option Nat) (σ:Nat→Option (Nat×Nat)) (s:St0 E N) (nw:Bool) (blk:Nat):Prop :=
 ¬ InM β σ s blk∧Old n0 nw blk
def Js (β:Nat→Option Nat) (s:St0 E N) (b off:Nat) (v:Value):Prop :=
 ∃ blk,v=.pointer (some ⟨blk,off,none⟩)∧∀ e,s.getB b=some e→β b=some blk
def gA (σ:Nat→Option (Nat×Nat)) (id:Nat) (n:Nat) (v:Value):Prop :=
  (∃ blk cap,σ id=some (blk,cap)∧v=.slice (some ⟨blk,0,none⟩) n cap)∨(σ id=none∧n=0∧∃ a,v=.slice a 0 0)
def RelC (P:Program) (n0:Nz) (β:Nat→Option Nat) (σ:Nat→Option (Nat×Nat)) (s:St0 E N) (w:World):AC0 E N→Value→Prop
  | .int k i,v=>v=.int k i
  | .bool b,v=>v=.bool b
  | .str x,v=>v=.string x
  | .nil e,v=>∃ t ts,AK P t=.sl e∧AN P e=some ts∧∃ a,v=.slice a 0 0
  | .imm e nw l,v=>∃ t,AK P t=.sl e∧Rep P w (StB n0 β σ s nw) t v (.rows l)
  | .own e id,v=>(∃ t,AK P t=.sl e∧∃ a len cap,v=.slice a len cap)∧∀ h,s.getH id=some h→h.e=e∧gA σ id h.l.length v
  | .ptr b off,v=>Js β s b off v
  | .aptr b off n sz i inner,v=>0≤i∧i<(n:Int)∧Js β s b (off+i.toNat * sz+inner) v
  | .eptr id i off, v => 0 ≤ i ∧ ∃ blk o, v = .pointer (some ⟨blk, o, none⟩) ∧ ∀ h, s.getH id = some h → i < (h.l.length : Int) ∧
      ∃ ts cap,AN P h.e=some ts∧σ id=some (blk,cap)∧(0<cap∧∃ t,AK P t=.sl h.e)∧o=i.toNat * ts.length+off
  | .iptr e nw l i off, v => 0 ≤ i ∧ i < (l.length : Int) ∧ ∃ t ts blk boff len cap, AK P t = .sl e ∧ AN P e = some ts ∧
      Rep P w (StB n0 β σ s nw) t (.slice (some ⟨blk,boff,none⟩) len cap) (.rows l)∧v=.pointer (some ⟨blk,boff+(i.toNat * ts.length+off),none⟩)
  | .fn f caps, v => ∃ vs : List Value, v = .func (.func f) #[] vs.toArray ∧ vs.length = caps.length ∧
      ∀ (i b o:Nat),caps[i]?=some (b,o)→∃ x:Value,vs[i]?=some x∧Js β s b o x
  | .nilptr,v=>v=.pointer none
  | .tail e id i, v => 0 ≤ i ∧ (∃ t, AK P t = .sl e ∧ ∃ a len cap, v = .slice a len cap) ∧ ∀ h, s.getH id = some h → h.e = e ∧ i ≤ (h.l.length : Int) ∧ ∃ a cap, v = .slice a (h.l.length - i.toNat) cap ∧
      (h.l.length=i.toNat∨∃ blk cap2 ts,AN P e=some ts∧σ id=some (blk,cap2)∧a=some ⟨blk,i.toNat * ts.length,none⟩)
  | .mp e id,v=>((∀ t,AK P t≠.sl e)∧∃ r,v=.map (some r))∧∀ h,s.getH id=some h→h.e=e∧∃ r,σ id=some (r,0)∧v=.map (some r)
def RelCs (P:Program) (n0:Nz) (β:Nat→Option Nat) (σ:Nat→Option (Nat×Nat)) (s:St0 E N) (w:World):List (AC0 E N)→List Value→Prop
 | [],[]=>True
 | c::cs,v::vs=>RelC P n0 β σ s w c v∧RelCs P n0 β σ s w cs vs
 | _,_=>False
def RelVal (P:Program) (n0:Nz) (β:Nat→Option Nat) (σ:Nat→Option (Nat×Nat)) (s:St0 E N) (w:World) (x:Val (std E N)) (v:Value):Prop :=
 RelCs P n0 β σ s w x.cs v.cells.toList∧match x.agg with
  | true=>∃ cs,v=.agg cs
  | false=>v.oneCell'=true
def RelVals (P:Program) (n0:Nz) (β:Nat→Option Nat) (σ:Nat→Option (Nat×Nat)) (s:St0 E N) (w:World):List (Val (std E N))→List Value→Prop
 | [],[]=>True
 | c::cs,v::vs=>RelVal P n0 β σ s w c v∧RelVals P n0 β σ s w cs vs
 | _,_=>False
def RelAV (P:Program) (n0:Nz) (β:Nat→Option Nat) (σ:Nat→Option (Nat×Nat)) (s:St0 E N) (w:World):AV (std E N)→Value→Prop
 | .val x,v=>RelVal P n0 β σ s w x v
 | .tup xs,v=>∃ vs,v=.tuple vs∧RelVals P n0 β σ s w xs vs.toList
def Facts (a:Act) (gs:List (Nat×Bool)):Prop:=∀ n b,(n,b)∈gs→a.tmps.getD n undef=.bool b
def sA (P:Program) (n0:Nz) (β:Nat→Option Nat) (σ:Nat→Option (Nat×Nat)) (s:St0 E N) (a:Act) (w:World) (tv:TV (std E N)) (v:Value):Prop :=
  (Facts a tv.gs∧RelAV P n0 β σ s w tv.v v)∨(¬ Facts a tv.gs∧v=undef)
def qn (P:Program) (n0:Nz) (β:Nat→Option Nat) (σ:Nat→Option (Nat×Nat)) (s:St0 E N) (w:World) (b:Nat) (e:BEnt (std E N)):Prop :=
 ∃ blk cells el,β b=some blk∧w.heap[blk]?=some (.cells cells el (0,0))∧RelCs P n0 β σ s w e.cs cells.toList
def C7 (a:List Int):Value:=.agg (a.map (Value.int .i64)).toArray
def ent (n:Nat) (i:Nat) (r:List PV):MapEntry:={ key:=C7 (Bp n r),val:=.int .i64 (pvI (AA r n)),born:=i }
def Cj (n:Nat):Nat→Rows→List MapEntry
 | _,[]=>[]
 | i,r::L=>ent n i r::Cj n (i+1) L
def Nb (w:World) (n r:Nat) (L:Rows):Prop:=w.heap[r]?=some (.map (Cj n 0 L).toArray L.length)
def RelM (P:Program) (n0:Nz) (σ:Nat→Option (Nat×Nat)) (w:World) (id:Nat) (h:HEnt (std E N)):Prop :=
 ∃ n r,h.e=Ck P n∧(∀ t,AK P t≠.sl h.e)∧σ id=some (r,0)∧Nb w n r h.l∧(∀ x∈h.l,x.length=n+1)∧Old n0 h.nw r
def sU (P:Program) (n0:Nz) (β:Nat→Option Nat) (σ:Nat→Option (Nat×Nat)) (s:St0 E N) (w:World) (id:Nat) (h:HEnt (std E N)):Prop :=
  ∃ t ts,AK P t=.sl h.e∧AN P h.e=some ts∧(∀ r∈h.l,r.length=ts.length) ∧
    ((σ id=none∧h.l=[]) ∨
      ∃ blk cap cells el,σ id=some (blk,cap)∧w.heap[blk]?=some (.cells cells el (0,0))∧el=h.e∧cells.size=cap * ts.length∧h.l.length≤cap ∧
        Old n0 h.nw blk ∧
        ∃ v:Nat→Nat→Value,(∀ i j,i<h.l.length→j<ts.length→cells[i * ts.length+j]?=some (v i j)) ∧
          ∀ i j t',i<h.l.length→ts[j]?=some t'→Rep P w (StB n0 β σ s h.nw) t' (v i j) (AE h.l i j))
def RelH (P:Program) (n0:Nz) (β:Nat→Option Nat) (σ:Nat→Option (Nat×Nat)) (s:St0 E N) (w:World) (id:Nat) (h:HEnt (std E N)):Prop :=
 sU P n0 β σ s w id h∨RelM P n0 σ w id h
theorem RelM.view {P : Program} {n0 n0' : Nz} {σ σ' : Nat → Option (Nat × Nat)} {w w' : World} {id q : Nat} {h0 h1 : HEnt (std E N)} (h : RelM P n0 σ w id h0) (he : h1.e = h0.e) (hl : h1.l = h0.l)
    (hs:σ' q=σ id) (hw:∀ blk cap,σ id=some (blk,cap)→w'.heap[blk]?=w.heap[blk]?) (ho:∀ blk cap,σ id=some (blk,cap)→Old n0 h0.nw blk→Old n0' h1.nw blk):RelM P n0' σ' w' q h1:=by
  obtain ⟨n,r,a1,a3,a4,a5,a6,a7⟩:=h;refine ⟨n,r,he.trans a1,by rw [he];exact a3,hs.trans a4,?_,by rw [hl];exact a6,ho r 0 a4 a7⟩;unfold Nb;rw [hw r 0 a4,hl];exact a5
theorem RelM.noCap {P:Program} {n0:Nz} {σ:Nat→Option (Nat×Nat)} {w:World} {id blk cap:Nat} {h:HEnt (std E N)} (m:RelM P n0 σ w id h) (hs:σ id=some (blk,cap)) (hc:0<cap):False:=by
 obtain ⟨n,r,a1,a3,a4,a5,a6,a7⟩:=m;rw [hs] at a4;cases a4;exact Nat.lt_irrefl 0 hc
theorem RelM.noSl {P:Program} {n0:Nz} {σ:Nat→Option (Nat×Nat)} {w:World} {id:Nat} {h:HEnt (std E N)} (m:RelM P n0 σ w id h) {t:TypeId} (ht:AK P t=.sl h.e):False:=by
 obtain ⟨n,r,a1,a3,a4,a5,a6,a7⟩:=m;exact a3 t ht
theorem RelM.blk {P:Program} {n0:Nz} {σ:Nat→Option (Nat×Nat)} {w:World} {id:Nat} {h:HEnt (std E N)} (m:RelM P n0 σ w id h) {blk cap:Nat} (hs:σ id=some (blk,cap)):(∃ o,w.heap[blk]?=some o)∧Old n0 h.nw blk:=by
 obtain ⟨n,r,a1,a3,a4,a5,a6,a7⟩:=m;rw [hs] at a4;cases a4;exact ⟨⟨_,a5⟩,a7⟩
structure Mem (P:Program) (n0:Nz) (β:Nat→Option Nat) (σ:Nat→Option (Nat×Nat)) (s:St0 E N) (w:World):Prop where
 B:∀ b e,s.getB b=some e→qn P n0 β σ s w b e
 H:∀ id h,s.getH id=some h→RelH P n0 β σ s w id h
 uB:∀ b b' e e' blk,s.getB b=some e→s.getB b'=some e'→β b=some blk→β b'=some blk→b=b'
 uH:∀ id id' h h' blk cap cap',s.getH id=some h→s.getH id'=some h'→σ id=some (blk,cap)→σ id'=some (blk,cap')→id=id'
 uX:∀ b e id h blk cap,s.getB b=some e→s.getH id=some h→β b=some blk→σ id=some (blk,cap)→False
def Sq : String := "internal/strconv.uint64pow10"
def bR:List Int:=(List.range 20).map fun i=>((10 ^ i:Nat):Int)
def Kept (P:Program) (β:Nat→Option Nat) (σ:Nat→Option (Nat×Nat)) (s:St0 E N) (w:World):Prop :=
 ∀ g,P.globalNamed Sq=some g→Lib.TabIs P w Sq .u64 bR∧¬ InM β σ s g
structure Sim (P:Program) (n0:Nz) (nt:Nat) (β:Nat→Option Nat) (σ:Nat→Option (Nat×Nat)) (s:St0 E N) (a:Act) (w:World):Prop where
 n0le:n0.n≤w.heap.size
 size:a.tmps.size=nt
 T:∀ n tv,s.getT n=some tv→sA P n0 β σ s a w tv (a.tmps.getD n undef)
 M:Mem P n0 β σ s w
 kept:Kept P β σ s w
def AC.names:AC0 E N→List Nat
 | .own _ id=>[id]
 | .ptr b _=>[b]
 | .aptr b _ _ _ _ _=>[b]
 | .eptr id _ _=>[id]
 | .fn _ caps=>caps.map (·.1)
 | .tail _ id _=>[id]
 | .mp _ id=>[id]
 | _=>[]
def AG:List (AC0 E N)→List Nat
 | []=>[]
 | c::r=>c.names++AG r
def BW:List (Val (std E N))→List Nat
 | []=>[]
 | v::r=>AG v.cs++BW r
def AV.names:AV (std E N)→List Nat
 | .val v=>AG v.cs
 | .tup vs=>BW vs
structure Fresh (a:Act) (s:St0 E N) (n:Nat):Prop where
 t:∀ k tv,s.getT k=some tv→Facts a tv.gs→n∉tv.v.names
 b:∀ k e,s.getB k=some e→n≠k∧n∉AG e.cs
 h:∀ k e,s.getH k=some e→n≠k
structure Ext (P : Program) (new : Nat → Prop) (β : Nat → Option Nat) (σ : Nat → Option (Nat × Nat)) (s : St0 E N) (w : World)
    (β':Nat→Option Nat) (σ':Nat→Option (Nat×Nat)) (s':St0 E N) (w':World):Prop where
  os:w'.os=w.os
  tape:w'.tape=w.tape
  output:w'.output=w.output
  size:w.heap.size≤w'.heap.size
  frame:∀ b,b<w.heap.size→¬ InM β σ s b→w'.heap[b]?=w.heap[b]?
  mem:∀ b,InM β' σ' s' b→InM β σ s b∨w.heap.size≤b
  kB:∀ b e',s'.getB b=some e'→¬ new b→(∃ e,s.getB b=some e)∧β' b=β b
  kH:∀ id h',s'.getH id=some h'→¬ new id→∃ h,s.getH id=some h∧σ' id=σ id∧h'.e=h.e∧((∃ t,AK P t=.sl h.e)→h'.l.length=h.l.length)
section
variable {P:Program} {n0:Nz} {nt:Nat} {new:Nat→Prop} {β β':Nat→Option Nat} {σ σ':Nat→Option (Nat×Nat)} {s s':St0 E N} {w w':World} {a:Act}
theorem B5 {w:World} {b:Nat} {o:Obj} (h:w.heap[b]?=some o):b<w.heap.size:=by
 rcases Nat.lt_or_ge b w.heap.size with h' | h'
 ·exact h'
 ·simp [Array.getElem?_eq_none h'] at h
theorem Kept.ext (k:Kept P β σ s w) (x:Ext P new β σ s w β' σ' s' w'):Kept P β' σ' s' w':=fun g hg=>by
 obtain ⟨h1,h2⟩:=k g hg;unfold Lib.TabIs World.var? at h1 ⊢;rw [hg] at h1 ⊢;simp only [Option.bind_some] at h1 ⊢;have hlt:g<w.heap.size:=by
  rcases Nat.lt_or_ge g w.heap.size with h | h
  ·exact h
  ·rw [Array.getElem?_eq_none h] at h1;cases h1
 refine ⟨by rw [x.frame g hlt h2];exact h1,fun hm=>(x.mem g hm).elim h2 (fun h=>by omega)⟩
theorem Ext.rep (x : Ext P new β σ s w β' σ' s' w') {nw : Bool} {t : TypeId} {v : Value} {p : PV} (h : Rep P w (StB n0 β σ s nw) t v p) :
    Rep P w' (StB n0 β' σ' s' nw) t v p :=
  h.mono (fun b hb hlt=>⟨x.frame b hlt hb.1,Nat.lt_of_lt_of_le hlt x.size⟩)
    (fun b hb hlt=>⟨fun hm=>(x.mem b hm).elim hb.1 (fun h=>by omega),hb.2⟩)
theorem Ext.ptr (x:Ext P new β σ s w β' σ' s' w') {b off:Nat} {v:Value} (hn:¬ new b) (h:Js β s b off v):Js β' s' b off v:=by
 obtain ⟨blk,rfl,hb⟩:=h;refine ⟨blk,rfl,fun e he=>?_⟩;obtain ⟨⟨e0,h0⟩,h1⟩:=x.kB b e he hn;rw [h1];exact hb e0 h0
theorem Ext.relC (x : Ext P new β σ s w β' σ' s' w') {c : AC0 E N} {v : Value} (hn : ∀ n ∈ c.names, ¬ new n) (h : RelC P n0 β σ s w c v) :
    RelC P n0 β' σ' s' w' c v:=by
  cases c with
  | int k i=>exact h
  | bool b=>exact h
  | str x=>exact h
  | nil e=>exact h
  | nilptr=>exact h
  | imm e nw l=>obtain ⟨t,ht,hr⟩:=h;exact ⟨t,ht,x.rep hr⟩
  | own e id =>
    obtain ⟨h1,h2⟩:=h;refine ⟨h1,fun h' hh=>?_⟩;obtain ⟨h0,hh0,hs,he,hl⟩:=x.kH id h' hh (hn id (by simp [AC.names]));obtain ⟨e1,o1⟩:=h2 h0 hh0;refine ⟨he.trans e1,?_⟩;have hl:=hl (by obtain ⟨te,hte,_⟩:=h1;exact ⟨te,by rw [e1];exact hte⟩);unfold gA at o1 ⊢;rw [hs,hl];exact o1
  | ptr b off=>exact x.ptr (hn b (by simp [AC.names])) h
  | aptr b off n sz i inner=>exact ⟨h.1,h.2.1,x.ptr (hn b (by simp [AC.names])) h.2.2⟩
  | eptr id i off =>
    obtain ⟨h0,blk,o,hv,hk⟩:=h;refine ⟨h0,blk,o,hv,fun h' hh=>?_⟩;obtain ⟨e0,hh0,hs,he,hl⟩:=x.kH id h' hh (hn id (by simp [AC.names]));obtain ⟨hi,ts,cap,hts,hsg,hcp,ho⟩:=hk e0 hh0;have hl:=hl hcp.2;exact ⟨by rw [hl];exact hi,ts,cap,by rw [he];exact hts,by rw [hs];exact hsg,by rw [he];exact hcp,ho⟩
  | iptr e nw l i off =>
    obtain ⟨h0,h1,t,ts,blk,boff,len,cap,ht,hts,hr,hv⟩:=h;exact ⟨h0,h1,t,ts,blk,boff,len,cap,ht,hts,x.rep hr,hv⟩
  | fn f caps =>
    obtain ⟨vs,hv,hl,hp⟩:=h;refine ⟨vs,hv,hl,fun i b o hc=>?_⟩;obtain ⟨y,hy,hr⟩:=hp i b o hc;exact ⟨y,hy,x.ptr (hn b (by simp only [AC.names];exact List.mem_map.2 ⟨(b,o),List.mem_of_getElem? hc,rfl⟩)) hr⟩
  | tail e id i =>
    obtain ⟨h0,hv,hk⟩:=h;refine ⟨h0,hv,fun h' hh=>?_⟩;obtain ⟨e0,hh0,hs,he,hl⟩:=x.kH id h' hh (hn id (by simp [AC.names]));obtain ⟨h1,hi,hq⟩:=hk e0 hh0;obtain ⟨te,hte,_⟩:=hv;have hl:=hl ⟨te,by rw [h1];exact hte⟩;exact ⟨he.trans h1,by rw [hl];exact hi,by rw [hl,hs];exact hq⟩
  | mp e id =>
    obtain ⟨hv,hk⟩:=h;refine ⟨hv,fun h' hh=>?_⟩;obtain ⟨e0,hh0,hs,he,_⟩:=x.kH id h' hh (hn id (by simp [AC.names]));obtain ⟨h1,r,h2,h3⟩:=hk e0 hh0;exact ⟨he.trans h1,r,by rw [hs];exact h2,h3⟩
theorem Ext.relCs (x : Ext P new β σ s w β' σ' s' w') : ∀ {cs : List (AC0 E N)} {vs : List Value}, (∀ n ∈ AG cs, ¬ new n) → RelCs P n0 β σ s w cs vs →
    RelCs P n0 β' σ' s' w' cs vs
  | [],[],_,h=>h
  | c::cs,v::vs,hn,h=>⟨x.relC (fun n hm=>hn n (by simp [AG,hm])) h.1,x.relCs (fun n hm=>hn n (by simp [AG,hm])) h.2⟩
  | [],_::_,_,h=>h.elim
  | _::_,[],_,h=>h.elim
theorem Ext.relVal (x : Ext P new β σ s w β' σ' s' w') {y : Val (std E N)} {v : Value} (hn : ∀ n ∈ AG y.cs, ¬ new n) (h : RelVal P n0 β σ s w y v) :
    RelVal P n0 β' σ' s' w' y v:=⟨x.relCs hn h.1,h.2⟩
theorem Ext.relVals (x : Ext P new β σ s w β' σ' s' w') : ∀ {cs : List (Val (std E N))} {vs : List Value}, (∀ n ∈ BW cs, ¬ new n) → RelVals P n0 β σ s w cs vs →
    RelVals P n0 β' σ' s' w' cs vs
  | [],[],_,h=>h
  | c::cs,v::vs,hn,h=>⟨x.relVal (fun n hm=>hn n (by simp [BW,hm])) h.1,x.relVals (fun n hm=>hn n (by simp [BW,hm])) h.2⟩
  | [],_::_,_,h=>h.elim
  | _::_,[],_,h=>h.elim
theorem Ext.relAV (x : Ext P new β σ s w β' σ' s' w') {y : AV (std E N)} {v : Value} (hn : ∀ n ∈ y.names, ¬ new n) (h : RelAV P n0 β σ s w y v) :
    RelAV P n0 β' σ' s' w' y v:=by
  cases y with
  | val y=>exact x.relVal hn h
  | tup ys=>obtain ⟨vs,hv,hr⟩:=h;exact ⟨vs,hv,x.relVals hn hr⟩
theorem Ext.refl (P:Program) (new:Nat→Prop) (β:Nat→Option Nat) (σ:Nat→Option (Nat×Nat)) (s:St0 E N) (w:World):Ext P new β σ s w β σ s w :=
 ⟨rfl,rfl,rfl,Nat.le_refl _,fun _ _ _=>rfl,fun _ h=>.inl h,fun b e h _=>⟨⟨e,h⟩,rfl⟩,fun id h hh _=>⟨h,hh,rfl,rfl,fun _=>rfl⟩⟩
theorem Ext.trans {new2 : Nat → Prop} {β'' : Nat → Option Nat} {σ'' : Nat → Option (Nat × Nat)} {s'' : St0 E N} {w'' : World}
    (x:Ext P new β σ s w β' σ' s' w') (y:Ext P new2 β' σ' s' w' β'' σ'' s'' w''):Ext P (fun n=>new n∨new2 n) β σ s w β'' σ'' s'' w'' where
  os:=y.os.trans x.os
  tape:=y.tape.trans x.tape
  output:=y.output.trans x.output
  size:=Nat.le_trans x.size y.size
  frame b hb hm:=by
    rw [y.frame b (Nat.lt_of_lt_of_le hb x.size) (fun h=>(x.mem b h).elim hm (fun h=>by omega)),x.frame b hb hm]
  mem b h:=(y.mem b h).elim (fun h=>x.mem b h) (fun h=>.inr (Nat.le_trans x.size h))
  kB b e h hn:=by
    obtain ⟨⟨e1,h1⟩,e2⟩:=y.kB b e h (fun h=>hn (.inr h));obtain ⟨⟨e3,h3⟩,e4⟩:=x.kB b e1 h1 (fun h=>hn (.inl h));exact ⟨⟨e3,h3⟩,e2.trans e4⟩
  kH id h hh hn:=by
    obtain ⟨h1,hh1,a1,a2,a3⟩:=y.kH id h hh (fun h=>hn (.inr h));obtain ⟨h2,hh2,b1,b2,b3⟩:=x.kH id h1 hh1 (fun h=>hn (.inl h));exact ⟨h2,hh2,a1.trans b1,a2.trans b2,fun hx=>(a3 (by rw [b2];exact hx)).trans (b3 hx)⟩
theorem Ext.weaken {new2:Nat→Prop} (x:Ext P new β σ s w β' σ' s' w') (h:∀ n,new n→new2 n):Ext P new2 β σ s w β' σ' s' w' :=
 { x with kB:=fun b e hb hn=>x.kB b e hb (fun k=>hn (h _ k)),kH:=fun id e hb hn=>x.kH id e hb (fun k=>hn (h _ k)) }
structure Sub (s s':St0 E N):Prop where
 b:∀ n e',s'.getB n=some e'→∃ e,s.getB n=some e∧e'.cs=e.cs
 h:∀ n h',s'.getH n=some h'→∃ h,s.getH n=some h∧h'.e=h.e∧h'.l=h.l∧h'.nw=h.nw∧(h'.frozen=false→h.frozen=false)
theorem Sub.inM (x:Sub s s') {b:Nat} (h:InM β σ s' b):InM β σ s b:=by
 rcases h with ⟨n,e,he,hb⟩ | ⟨id,h,cap,hh,hf,hs⟩
 ·obtain ⟨e0,h0,_⟩:=x.b n e he;exact .inl ⟨n,e0,h0,hb⟩
 ·obtain ⟨h0,hh0,_,_,_,hf0⟩:=x.h id h hh;exact .inr ⟨id,h0,cap,hh0,hf0 hf,hs⟩
theorem Sub.ext (x:Sub s s') (P:Program) (new:Nat→Prop) (β:Nat→Option Nat) (σ:Nat→Option (Nat×Nat)) (w:World):Ext P new β σ s w β σ s' w where
 os:=rfl
 tape:=rfl
 output:=rfl
 size:=Nat.le_refl _
 frame _ _ _:=rfl
 mem b h:=.inl (x.inM h)
 kB n e h _:=by obtain ⟨e0,h0,_⟩:=x.b n e h;exact ⟨⟨e0,h0⟩,rfl⟩
 kH n e h _:=by obtain ⟨h0,hh0,h1,h2,_⟩:=x.h n e h;exact ⟨h0,hh0,rfl,h1,fun _=>by rw [h2]⟩
theorem Sub.mem (x:Sub s s') (m:Mem P n0 β σ s w):Mem P n0 β σ s' w where
 B n e h:=by
  obtain ⟨e0,h0,hc⟩:=x.b n e h;obtain ⟨blk,cells,el,hb,hh,hr⟩:=m.B n e0 h0;exact ⟨blk,cells,el,hb,hh,(x.ext P (fun _=>False) β σ w).relCs (fun _ _=>id) (by rw [hc];exact hr)⟩
 H n e h:=by
  obtain ⟨h0,hh0,h1,h2,h3,h4⟩:=x.h n e h
  rcases m.H n h0 hh0 with ⟨t,ts,ht,hts,hr,hm⟩ | hM
  case inr=>exact .inr (hM.view h1 h2 rfl (fun _ _ _=>rfl) (fun _ _ _ ho=>by rw [h3];exact ho))
  refine .inl ⟨t,ts,by rw [h1];exact ht,by rw [h1];exact hts,by rw [h2];exact hr,?_⟩
  rcases hm with ⟨ha,hb⟩ | ⟨blk,cap,cells,el,ha,hb,hel,hc,hd,he,v,hv,hrep⟩
  ·exact .inl ⟨ha,by rw [h2];exact hb⟩
  ·refine .inr ⟨blk,cap,cells,el,ha,hb,by rw [h1];exact hel,hc,by rw [h2];exact hd,by rw [h3];exact he,v,by rw [h2];exact hv,fun i j t' hi hj=>?_⟩;rw [h2] at hi ⊢;rw [h3];exact (x.ext P (fun _=>False) β σ w).rep (hrep i j t' hi hj)
 uB b b' e e' blk h h' hb hb':=by
  obtain ⟨e0,h0,_⟩:=x.b b e h;obtain ⟨e1,h1,_⟩:=x.b b' e' h';exact m.uB b b' e0 e1 blk h0 h1 hb hb'
 uH b b' e e' blk cap cap' h h' hb hb':=by
  obtain ⟨e0,h0,_⟩:=x.h b e h;obtain ⟨e1,h1,_⟩:=x.h b' e' h';exact m.uH b b' e0 e1 blk cap cap' h0 h1 hb hb'
 uX b e id h blk cap hb hh h1 h2:=by
  obtain ⟨e0,h0,_⟩:=x.b b e hb;obtain ⟨h3,hh3,_⟩:=x.h id h hh;exact m.uX b e0 id h3 blk cap h0 hh3 h1 h2
theorem Sub.of_same (hb:∀ n,s'.getB n=s.getB n) (hh:∀ n,s'.getH n=s.getH n):Sub s s' :=
 ⟨fun n e h=>⟨e,by rw [← hb];exact h,rfl⟩,fun n e h=>⟨e,by rw [← hh];exact h,rfl,rfl,rfl,id⟩⟩
end
end
end Go.Px
end
