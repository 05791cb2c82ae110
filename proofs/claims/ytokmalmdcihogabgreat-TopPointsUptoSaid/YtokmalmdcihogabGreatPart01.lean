/- Part 1. -/
import GoSem.Step
set_option linter.unusedVariables false
set_option linter.unusedSimpArgs false
namespace Go.Px
theorem zzk (a b:Bool):((a&&b)=true)=(a=true∧b=true):=Bool.and_eq_true a b
theorem zzl {α:Type} {l:List α} {i:Nat} {a:α}:l.getD i a=l[i]?.getD a:=List.getD_eq_getElem?_getD
theorem zzm {α:Type} {a:α} {l:List α}:a∈a::l:=List.mem_cons_self
theorem zzn {α:Type} (y:α) {a:α} {l:List α}:a∈l→a∈y::l:=List.mem_cons_of_mem y
theorem zzo {α:Type} {l:List α} {i:Nat} (h:i<l.length):l[i]?=some l[i]:=List.getElem?_eq_getElem h
theorem zzp {α β:Type} {x:Option α} {f:α→β} {b:β}:x.map f=some b↔∃ a,x=some a∧f a=b:=Option.map_eq_some_iff
inductive Leaf (I B S L:Type) where
 | int (i:I)
 | bool (b:B)
 | str (s:S)
 | rows (l:L)
structure Alg where
 I:Type
 B:Type
 S:Type
 L:Type
 C:Type
 M:Type
 lit:IntKind→Int→I
 p:IntKind→I→I→I
 u:IntKind→I→I→I
 af:IntKind→I→I→I
 ax:IntKind→I→I→I
 ah:IntKind→I→I→I
 aj:IntKind→I→I
 al:Nat→IntKind→I→I→I
 ag:Bool→IntKind→I→I→I
 ba:I→S
 v:I→I→B
 m:I→I→B
 d:I→I→B
 j:B
 h:B
 f:B→B
 s:B→B→B
 an:B→B→B
 w:B→I→I→I
 i:B→B→B→B
 bb:B→S→S→S
 bc:B→L→L→L
 t:ByteArray→S
 au:S→S→B
 bd:S→S→B
 ak:S→I
 av:S→I→I
 ay:S→I→I→S
 be:S→S→S
 aw:S→L
 y:L
 ad:List (List (Leaf I B S L))→L
 ae:L→L→L
 o:L→I
 x:L→I→Nat→List (Leaf I B S L)→L
 ai:L→I→I→L
 ap:I→List (Leaf I B S L)→L
 k:L→I→Nat→I
 rB:L→I→Nat→B
 rS:L→I→Nat→S
 rL:L→I→Nat→L
 az:Nat→L→List I→I
 bf:Nat→L→List I→I
 bg:Nat→L→List I→I→L
 bh:L→S
 bi:L→B
 e:C→Nat→I
 l:C→Nat→B
 cS:C→Nat→S
 q:C→Nat→L
 ab:C→Nat→B
 r:I→I→B
 am:I→I→I→B
 ac:I→Nat→B
 a:List (Leaf I B S L)→M
 z:String→M
 n:B→M→M
 b:B→M→M→M
 c:M→(C→M)→M
 g:Nat→List Nat→List (Leaf I B S L)→M
 aa:((List (Leaf I B S L)→M)→C→M)→List (Leaf I B S L)→M
abbrev Alg.Lf (O:Alg):Type:=Leaf O.I O.B O.S O.L
inductive Cap (O:Alg) where
 | box (b off:Nat)
 | row (e:TypeId) (l:O.L)
inductive AC (O:Alg) where
 | int (k:IntKind) (i:O.I)
 | bool (b:O.B)
 | str (s:O.S)
 | nil (e:TypeId)
 | imm (e:TypeId) (nw:Bool) (l:O.L)
 | own (e:TypeId) (id:Nat)
 | ptr (b off:Nat)
 | aptr (b off n sz:Nat) (i:O.I) (inner:Nat)
 | eptr (id:Nat) (i:O.I) (off:Nat)
 | iptr (e:TypeId) (nw:Bool) (l:O.L) (i:O.I) (off:Nat)
 | fn (f:FuncId) (caps:List (Cap O))
 | nilptr
 | tail (e:TypeId) (id:Nat) (i:O.I)
 | mp (e:TypeId) (id:Nat)
 | any (T:TypeId)
def Cap.ac {O:Alg}:Cap O→AC O
 | .box b off=>.ptr b off
 | .row e l=>.iptr e false l (O.lit .i64 0) 0
def Cap.box? {O:Alg}:Cap O→List Nat
 | .box b _=>[b]
 | .row _ _=>[]
def HW {O:Alg}:List (Cap O)→List Nat
 | []=>[]
 | c::r=>c.box?++HW r
structure Val (O:Alg) where
 agg:Bool
 cs:List (AC O)
inductive AV (O:Alg) where
 | val (v:Val O)
 | tup (vs:List (Val O))
structure TV (O:Alg) where
 gs:List (Nat×Bool)
 v:AV O
structure BEnt (O:Alg) where
 cs:List (AC O)
 dirty:Bool
structure HEnt (O:Alg) where
 e:TypeId
 frozen:Bool
 nw:Bool
 l:O.L
 dirty:Bool
inductive TM (α:Type) where
 | e
 | leaf (a:α)
 | node (l r:TM α)
def TM.get {α:Type}:Nat→TM α→Nat→Option α
 | 0,.leaf a,_=>some a
 | d+1,.node l r,k=>match Nat.beq (k % 2) 0 with
  | true=>TM.get d l (k / 2)
  | false=>TM.get d r (k / 2)
 | _,_,_=>none
def TM.kids {α:Type}:TM α→TM α×TM α
 | .node l r=>(l,r)
 | _=>(.e,.e)
def TM.set {α:Type}:Nat→TM α→Nat→Option α→TM α
 | 0,_,_,some a=>.leaf a
 | 0,_,_,none=>.e
 | d+1,t,k,a=>match t.kids with
  | (l,r)=>match Nat.beq (k % 2) 0 with
   | true=>.node (TM.set d l (k / 2) a) r
   | false=>.node l (TM.set d r (k / 2) a)
def AJ {α:Type}:List (Nat×α)→Nat→Option α
 | [],_=>none
 | (j,a)::l,k=>match Nat.beq j k with
  | true=>some a
  | false=>AJ l k
def Ub {α:Type}:List (Nat×α)→Nat→List (Nat×α)
 | [],_=>[]
 | (j,a)::l,k=>match Nat.beq j k with
  | true=>Ub l k
  | false=>(j,a)::Ub l k
def MP {α:Type} (l:List (Nat×α)) (k:Nat):Option α→List (Nat×α)
 | some a=>(k,a)::Ub l k
 | none=>Ub l k
def N2:Nat:=9
structure State (O:Alg) where
 tm:TM (TV O)
 bx:List (Nat×BEnt O)
 hp:List (Nat×HEnt O)
 st:Nat
def DG:Nat:=512
def Cm {α:Type} (t:TM α) (n:Nat):Option α:=match Nat.blt n DG with
 | true=>TM.get N2 t n
 | false=>none
def E4 {α:Type} (t:TM α) (n:Nat) (v:Option α):TM α:=match Nat.blt n DG with
 | true=>TM.set N2 t n v
 | false=>t
def State.getT {O:Alg} (s:State O) (n:Nat):Option (TV O):=Cm s.tm n
def State.getB {O:Alg} (s:State O) (n:Nat):Option (BEnt O):=AJ s.bx n
def State.getH {O:Alg} (s:State O) (n:Nat):Option (HEnt O):=AJ s.hp n
structure Wr (O:Alg) where
 ts:List (Nat×Option (TV O)):=[]
 bs:List (Nat×Option (BEnt O)):=[]
 hs:List (Nat×Option (HEnt O)):=[]
def State.applyT {O:Alg} (t:TM (TV O)):List (Nat×Option (TV O))→TM (TV O)
 | []=>t
 | (n,v)::r=>State.applyT (E4 t n v) r
def Ay {α:Type} (t:List (Nat×α)):List (Nat×Option α)→List (Nat×α)
 | []=>t
 | (n,v)::r=>Ay (MP t n v) r
def State.apply {O:Alg} (s:State O) (w:Wr O):State O :=
 { tm:=State.applyT s.tm w.ts,bx:=Ay s.bx w.bs,hp:=Ay s.hp w.hs,st:=s.st }
def CB (k:Nat):Nat:=2 ^ k
def RA (f:Nat→Nat) {α:Type}:List (Nat×α)→Nat
 | []=>0
 | (n,_)::r=>CB (f n) ||| RA f r
def Wr.mask {O:Alg} (w:Wr O):Nat :=
 RA (fun n=>3 * n) w.ts ||| RA (fun n=>3 * n+1) w.bs ||| RA (fun n=>3 * n+2) w.hs
inductive RM (O:Alg) (α:Type) where
 | ret (a:α)
 | fail (w:String)
 | t (n:Nat) (f:Option (TV O)→RM O α)
 | b (n:Nat) (f:Option (BEnt O)→RM O α)
 | h (n:Nat) (f:Option (HEnt O)→RM O α)
def RM.bind {O:Alg} {α β:Type}:RM O α→(α→RM O β)→RM O β
 | .ret a,f=>f a
 | .fail w,_=>.fail w
 | .t n g,f=>.t n fun v=>(g v).bind f
 | .b n g,f=>.b n fun v=>(g v).bind f
 | .h n g,f=>.h n fun v=>(g v).bind f
instance {O:Alg}:Monad (RM O) where
 pure:=RM.ret
 bind:=RM.bind
def RM.run {O:Alg} {α:Type} (s:State O):RM O α→Nat→Except String (α×Nat)
 | .ret a,m=>.ok (a,m)
 | .fail w,_=>.error w
 | .t n g,m=>RM.run s (g (s.getT n)) (m ||| CB (3 * n))
 | .b n g,m=>RM.run s (g (s.getB n)) (m ||| CB (3 * n+1))
 | .h n g,m=>RM.run s (g (s.getH n)) (m ||| CB (3 * n+2))
def RM.ofOpt {O:Alg} {α:Type} (w:String):Option α→RM O α
 | some a=>.ret a
 | none=>.fail w
def RM.guard {O:Alg} (b:Bool) (w:String):RM O Unit:=match b with
 | true=>.ret ()
 | false=>.fail w
inductive LK where
 | int (k:IntKind) | bool | str | sl (e:TypeId) | ptr | fn | other
def TG:IntKind→IntKind→Bool
 | .i8,.i8 | .i16,.i16 | .i32,.i32 | .i64,.i64 | .u8,.u8 | .u16,.u16 | .u32,.u32 | .u64,.u64=>true
 | _,_=>false
def AH (P:Program) (t:TypeId):LK:=match P.underlying t with
 | some (.int k)=>.int k
 | some .bool=>.bool
 | some .string=>.str
 | some (.slice e)=>.sl e
 | some (.pointer _)=>.ptr
 | some (.func _ _ _)=>.fn
 | _=>.other
def Di {α:Type}:Nat→List α→List α
 | 0,_=>[]
 | n+1,l=>l++Di n l
def MW {α:Type}:List (Option (List α))→Option (List α)
 | []=>some []
 | none::_=>none
 | some a::r=>match MW r with
  | some b=>some (a++b)
  | none=>none
def BO (P:Program):Nat→TypeId→Option (List TypeId)
 | 0,_=>none
 | n+1,t=>match P.underlying t with
  | some (.struct fs)=>MW (fs.toList.map fun f=>BO P n f.type)
  | some (.array k e)=>(BO P n e).map (Di k)
  | some (.tuple _) | some .invalid | some (.named _ _) | none=>none
  | some _=>some [t]
def Cb:Nat:=20
def AM (P:Program) (t:TypeId):Option (List TypeId):=match BO P Cb t with
 | some l=>match Nat.beq l.length (P.cellsOf t)&&Nat.blt 0 l.length with
  | true=>some l
  | false=>none
 | none=>none
def AR (P:Program) (t:TypeId):Bool:=match P.underlying t with
 | some (.struct _) | some (.array _ _)=>true
 | _=>false
def P7 (P:Program) (t:TypeId):Option TypeId:=match P.underlying t with
 | some (.slice e)=>some e
 | _=>none
def LY (P:Program):Nat→List Field→Bool
 | _,[]=>true
 | off, f :: fs => match Nat.beq f.offset off && (f.name != "_"), P.underlying f.type with
  | true,some (.int .i64)=>LY P (off+1) fs
  | _,_=>false
def Us (P:Program) (K:TypeId) (n:Nat):Bool:=match P.underlying K with
 | some (.struct fs)=>LY P 0 fs.toList&&Nat.beq fs.toList.length n && !P.stoodInHeld K
 | _=>false
def MM (P:Program) (T:TypeId) (n:Nat):Bool:=match P.underlying T with
 | some (.map K V)=>Us P K n&&(match P.underlying V with | some (.int .i64)=>true | _=>false)&&(match P.info? V with
  | some i=>(match i.zero with | some (.int .i64 z)=>z==0 | _=>false)
  | none=>false)
 | _=>false
def noSl (P:Program) (T:TypeId):Bool:=P.types.toList.all fun i=>match i.desc with
 | .slice e => !Nat.beq e T
 | _=>true
def Cq (P:Program) (n:Nat):TypeId:=P.types.size+2+n
def IR (P:Program) (T:TypeId):TypeId×TypeId:=match P.underlying T with
 | some (.map K V)=>(K,V)
 | _=>(T,T)
def Al:List Nat→List Nat→Bool
 | [],[]=>true
 | a::l,b::r=>match Nat.beq a b with
  | true=>Al l r
  | false=>false
 | _,_=>false
def CK (n:Nat):List Nat→Bool
 | []=>false
 | m::l=>match Nat.beq n m with
  | true=>true
  | false=>CK n l
def Tw (P:Program) (e:TypeId) (off:Nat) (t:TypeId):Option (List TypeId) :=
 match AM P e,AM P t with
 | some l,some r=>match Al ((l.drop off).take r.length) r with
  | true=>some r
  | false=>none
 | _,_=>none
section
variable {O:Alg} (P:Program)
def TW (t:TypeId) (v:Value):Option (AC O):=match AH P t,v with
 | .int k,.int k' n=>match TG k k' with
  | true=>some (.int k (O.lit k n))
  | false=>none
 | .bool,.bool b=>some (.bool (match b with | true=>O.j | false=>O.h))
 | .str,.string s=>some (.str (O.t s))
 | .sl e,.slice none 0 0=>match AM P e with
  | some _=>some (.nil e)
  | none=>none
 | .ptr,.pointer none=>some .nilptr
 | _,_=>none
def JV:List TypeId→List Value→Option (List (AC O))
 | [],[]=>some []
 | t::ts,v::vs=>match TW P t v,JV ts vs with
  | some a,some r=>some (a::r)
  | _,_=>none
 | _,_=>none
def Oz (t:TypeId) (v:Value):Option (Val O):=match v with
 | .agg cs=>match AM P t with
  | some ts=>match JV P ts cs.toList with
   | some l=>some { agg:=true,cs:=l }
   | none=>none
  | none=>none
 | v=>match TW P t v with
  | some c=>some { agg:=false,cs:=[c] }
  | none=>none
def L5 (t:TypeId):Option (Val O):=match P.info? t with
 | some i=>match i.zero with
  | some v=>Oz P t v
  | none=>none
 | none=>none
def Nh (nw:Bool) (l:O.L) (i:O.I):Nat→List TypeId→Option (List (AC O))
 | _,[]=>some []
 | j,t::ts=>match Nh nw l i (j+1) ts with
  | none=>none
  | some r=>match AH P t with
   | .int k=>some (.int k (O.k l i j)::r)
   | .bool=>some (.bool (O.rB l i j)::r)
   | .str=>some (.str (O.rS l i j)::r)
   | .sl e=>some (.imm e nw (O.rL l i j)::r)
   | _=>none
def Aq (own:Nat→Bool) (nw:Bool) (c:O.C):Nat→Nat→List TypeId→Option (List (AC O)×List (Nat×HEnt O))
 | _,_,[]=>some ([],[])
 | j,q,t::ts=>match AH P t with
  | .int k=>(Aq own nw c (j+1) q ts).map fun (r,h)=>(.int k (O.e c j)::r,h)
  | .bool=>(Aq own nw c (j+1) q ts).map fun (r,h)=>(.bool (O.l c j)::r,h)
  | .str=>(Aq own nw c (j+1) q ts).map fun (r,h)=>(.str (O.cS c j)::r,h)
  | .sl e=>match own e with
   | true=>(Aq own nw c (j+1) (q+1) ts).map fun (r,h)=>(.own e q::r,(q,{ e,frozen:=false,nw,l:=O.q c j,dirty:=true })::h)
   | false=>(Aq own nw c (j+1) q ts).map fun (r,h)=>(.imm e nw (O.q c j)::r,h)
  | _=>none
def rZ:List TypeId→Option (List O.Lf)
 | []=>some []
 | t::ts=>match rZ ts with
  | none=>none
  | some r=>match AH P t with
   | .int k=>some (.int (O.lit k 0)::r)
   | .bool=>some (.bool O.h::r)
   | .str=>some (.str (O.t ByteArray.empty)::r)
   | .sl _=>some (.rows O.y::r)
   | _=>none
end
def VA:List (Nat×Bool)→List (Nat×Bool)→Bool
 | [],_=>true
 | (n,b)::r,ctx=>match ctx.any (fun (m,c)=>Nat.beq n m&&(b==c)) with
  | true=>VA r ctx
  | false=>false
inductive StepRes (O:Alg) where
 | plain (as:List O.B) (w:Wr O)
 | call (g:Option O.B) (f:FuncId) (fns:List Nat) (args:List O.Lf) (dflt:List O.Lf) (next:O.C→Option (Wr O))
 | inl (f:FuncId) (args:List (AV O))
 | inlg (g:O.B) (f:FuncId) (args:List (AV O)) (w:Wr O)
structure CI where
 f:FuncId
 fns:List Nat
 own:Bool
 nw:Bool
 gives:List Bool:=[]
 sk:List Nat:=[]
def CI.ow (ci:CI) (e:Nat):Bool:=ci.own && !CK e ci.sk
structure Bld where
 f:FuncId
 k:Nat
 T:TypeId
 u:TypeId
structure Cfg where
 gam:List CI
 imm:Bool:=false
 old:Bool:=false
 ie:List Nat:=[]
 bld:List Bld:=[]
 stop:List Nat:=[]
def cn:List Bld→Nat→Option Bld
 | [],_=>none
 | b::l,f=>match Nat.beq b.f f with
  | true=>some b
  | false=>cn l f
def TZ:List CI→Nat→List Nat→Option CI
 | [],_,_=>none
 | c::l,f,fns=>match Nat.beq c.f f&&Al c.fns fns with
  | true=>some c
  | false=>TZ l f fns
section
variable {O:Alg} (P:Program) (cfg:Cfg)
def one (c:AC O):AV O:=.val { agg:=false,cs:=[c] }
def ev (ctx:List (Nat×Bool)) (T:TypeId):Operand→RM O (AV O)
 | .tmp n=>.t n fun
  | some tv=>match VA tv.gs ctx with
   | true=>.ret tv.v
   | false => .fail "a guarded temporary"
  | none => .fail "no such temporary"
 | .const v=>match Oz P T v with
  | some v=>.ret (.val v)
  | none => .fail "a constant"
 | .func f=>.ret (one (.fn f []))
 | .global _ => .fail "a global"
def evV (ctx:List (Nat×Bool)) (T:TypeId) (x:Operand):RM O (Val O):=(ev P ctx T x).bind fun
 | .val v=>.ret v
 | .tup _ => .fail "a tuple"
def evC (ctx:List (Nat×Bool)) (T:TypeId) (x:Operand):RM O (AC O):=(evV P ctx T x).bind fun v =>
 match v.agg,v.cs with
 | false,[c]=>.ret c
 | _, _ => .fail "not one cell"
def evI (ctx:List (Nat×Bool)):Operand→RM O (O.I)
 | .const (.int k n)=>.ret (O.lit k n)
 | .tmp n=>.t n fun
  | some tv=>match VA tv.gs ctx,tv.v with
   | true,.val ⟨false,[.int _ i]⟩=>.ret i
   | _, _ => .fail "no integer"
  | none => .fail "no such temporary"
 | _ => .fail "no integer"
def UL:List (Nat×Bool)→RM O (Option O.B)
 | []=>.ret none
 | (n,want)::r=>.t n fun
  | some ⟨_,.val ⟨false,[.bool b]⟩⟩=>(UL r).bind fun g =>
   let c:=match want with | true=>b | false=>O.f b
   .ret (some (match g with | none=>c | some g=>O.s g c))
  | _ => .fail "no guard"
def Sc (ops:List Oper) (o:Oper):RM O (List (Nat×Bool)):=match o.guard with
 | none=>.ret []
 | some (j,want)=>match (ops[j]?).bind (·.dst) with
  | some d=>.t d fun
   | some tv=>.ret ((d,want)::tv.gs)
   | none => .fail "no such guard"
  | none => .fail "a guard without a value"
def eK (g:Option O.B) (a:O.B):O.B:=match g with
 | none=>a
 | some g=>O.f (O.s g (O.f a))
def cq (b:O.B):AC O→AC O→Option (AC O)
 | .int k x,.int k' y=>match TG k k' with
  | true=>some (.int k (O.w b x y))
  | false=>none
 | .bool x,.bool y=>some (.bool (O.i b x y))
 | .str x,.str y=>some (.str (O.bb b x y))
 | .imm e nw x,.imm e' nw' y=>match Nat.beq e e' with
  | true=>some (.imm e (nw&&nw') (O.bc b x y))
  | false=>none
 | _,_=>none
def CS (b:O.B):List (AC O)→List (AC O)→Option (List (AC O))
 | [],[]=>some []
 | x::xs,y::ys=>match cq b x y,CS b xs ys with
  | some c,some r=>some (c::r)
  | _,_=>none
 | _,_=>none
def tp (op:BinOp) (a b:O.I):Option O.B:=match op with
 | .eql=>some (O.d a b)
 | .neq=>some (O.f (O.d a b))
 | .lss=>some (O.m a b)
 | .leq=>some (O.v a b)
 | .gtr=>some (O.m b a)
 | .geq=>some (O.v b a)
 | _=>none
def eqC:AC O→AC O→Option O.B
 | .int k a,.int k' b=>match TG k k' with
  | true=>some (O.d a b)
  | false=>none
 | .bool a,.bool b=>some (O.an a b)
 | .str a,.str b=>some (O.au a b)
 | _,_=>none
def Ij:List (AC O)→List (AC O)→Option O.B
 | [],[]=>some O.j
 | [x],[y]=>eqC x y
 | x::xs,y::ys=>match eqC x y,Ij xs ys with
  | some a,some r=>some (O.s a r)
  | _,_=>none
 | _,_=>none
def Tz:LK→AC O→Bool
 | .int k,.int k' _=>TG k k'
 | .bool,.bool _=>true
 | .str,.str _=>true
 | _,_=>false
def BN:List TypeId→List (AC O)→Bool
 | [],[]=>true
 | t::ts,c::cs=>match Tz (AH P t) c with
  | true=>BN ts cs
  | false=>false
 | _,_=>false
def Uw:Nat→List Field→Bool
 | _,[]=>true
 | off, f :: fs => match Nat.beq f.offset off && (f.name != "_") with
  | true=>Uw (off+P.cellsOf f.type) fs
  | false=>false
def Ok:Option (List Nat)→Option (List Nat)→Bool
 | some a,some b=>Al a b
 | _,_=>false
def VG:Nat→TypeId→Bool
 | 0,_=>false
 | n+1,t=>match P.underlying t with
  | some .bool | some (.int _) | some .string=>Ok (AM P t) (some [t])
  | some (.struct fs) => !P.stoodInHeld t&&Uw P 0 fs.toList&&fs.toList.all (fun f=>VG n f.type)&&Ok (AM P t) (MW (fs.toList.map fun f=>AM P f.type))
  | some (.array k e)=>VG n e&&Ok (AM P t) ((AM P e).map (Di k))
  | _=>false
def G7:Operand→Bool
 | .const (.int _ n) => !(n==0)
 | _=>false
def di:AC O→RM O (O.Lf×List (Nat×Option (HEnt O))×Bool)
 | .int _ i=>.ret (.int i,[],true)
 | .bool b=>.ret (.bool b,[],true)
 | .str s=>.ret (.str s,[],true)
 | .nil _=>.ret (.rows O.y,[],true)
 | .imm _ nw l=>.ret (.rows l,[],nw)
 | .own _ id=>.h id fun
  | some h=>.ret (.rows h.l,[(id,some { h with frozen:=true,dirty:=true })],h.nw)
  | none => .fail "a slice that is gone"
 | _ => .fail "no data"
def JS:List (AC O)→RM O (List O.Lf×List (Nat×Option (HEnt O))×Bool)
 | []=>.ret ([],[],true)
 | c::r=>(di c).bind fun (a,h,n)=>(JS r).bind fun (as,hs,ns)=>.ret (a::as,h++hs,n&&ns)
def Cs {α:Type}:List α→Nat→List α→Option (List α)
 | l,_,[]=>some l
 | [],_,_::_=>none
 | x::l,0,y::ys=>(Cs l 0 ys).map (y::·)
 | x::l,n+1,ys=>(Cs l n ys).map (x::·)
def FI {α:Type} (l:List α) (off n:Nat):Option (List α) :=
 let r:=(l.drop off).take n
 match Nat.beq r.length n with
 | true=>some r
 | false=>none
def P2 (f:Nat→Option (List (AC O))) (i:O.I):Nat→Option (List (AC O))
 | 0=>f 0
 | k+1=>match P2 f i k,f (k+1) with
  | some r,some c=>CS (O.d i (O.lit .i64 ((k+1:Nat):Int))) c r
  | _,_=>none
def ji (off sz inner:Nat) (i:O.I) (v:List (AC O)):Nat→List (AC O)→Option (List (AC O))
 | 0,cs=>some cs
 | k+1,cs=>match FI cs (off+k * sz+inner) v.length with
  | none=>none
  | some old=>match CS (O.d i (O.lit .i64 (k:Int))) v old with
   | none=>none
   | some new=>match Cs cs (off+k * sz+inner) new with
    | none=>none
    | some cs=>ji off sz inner i v k cs
def iV (T:TypeId):AC O→RM O (List (AC O))
 | .ptr b off=>.b b fun
  | some e => RM.ofOpt "load" (FI e.cs off (P.cellsOf T))
  | none => .fail "no such variable"
 | .aptr b off n sz i inner=>.b b fun
  | some e =>
   match n with
   | 0 => .fail "an array of no elements"
   | n + 1 => RM.ofOpt "load of an element" (P2 (fun k => FI e.cs (off + k * sz + inner) (P.cellsOf T)) i n)
  | none => .fail "no such variable"
 | .eptr id i off=>.h id fun
  | some h=>match Tw P h.e off T with
   | some ts => RM.ofOpt "load of a row" (Nh P h.nw h.l i off ts)
   | none => .fail "a row of another type"
  | none => .fail "a slice that is gone"
 | .iptr e nw l i off=>match Tw P e off T with
  | some ts => RM.ofOpt "load of a row" (Nh P nw l i off ts)
  | none => .fail "a row of another type"
 | _ => .fail "load no address"
def WX:AC O→RM O (TypeId×O.L×Bool)
 | .nil e=>.ret (e,O.y,true)
 | .imm e nw l=>.ret (e,l,nw)
 | .own _ id=>.h id fun
  | some h=>.ret (h.e,h.l,h.nw)
  | none => .fail "a slice that is gone"
 | _ => .fail "no slice"
def Qh (T:TypeId) (f:Nat):Option Field:=match P.underlying T with
 | some (.struct fs)=>fs.toList[f]?
 | _=>none
def DI (n:Nat):AC O→Option (AC O)
 | .ptr b off=>some (.ptr b (off+n))
 | .aptr b off m sz i inner=>some (.aptr b off m sz i (inner+n))
 | .eptr id i off=>some (.eptr id i (off+n))
 | .iptr e nw l i off=>some (.iptr e nw l i (off+n))
 | _=>none
def Xv (place:Nat→Option (Nat×TypeId)) (ctx:List (Nat×Bool)):List (Nat×Operand)→List (AC O)→RM O (List (AC O))
 | [],cs=>.ret cs
 | (i,x)::r,cs=>match place i with
  | none => .fail "no such part"
  | some (off, T) => (evV P ctx T x).bind fun v => (RM.guard (Nat.beq v.cs.length (P.cellsOf T) && Nat.blt 0 v.cs.length) "a part of another size").bind fun _ =>
   match Cs cs off v.cs with
   | some cs=>Xv place ctx r cs
   | none => .fail "a part that does not fit"
def Hh {α:Type} (n:Nat):Nat→List α→List (List α)
 | 0,_=>[]
 | k+1,l=>l.take n::Hh n k (l.drop n)
def jg:List (List (AC O))→RM O (List (List O.Lf)×List (Nat×Option (HEnt O))×Bool)
 | []=>.ret ([],[],true)
 | c::r=>(JS c).bind fun (a,h,n)=>(jg r).bind fun (as,hs,ns)=>.ret (a::as,h++hs,n&&ns)
def Wf (lt:O.I→O.I→O.B):AC O→List (AC O)→Option (AC O)
 | c,[]=>some c
 | .int k x,.int k' y::r=>match TG k k' with
  | true=>Wf lt (.int k (O.w (lt y x) y x)) r
  | false=>none
 | _,_=>none
def nK (ctx:List (Nat×Bool)) (T:TypeId):List Operand→RM O (List (AC O))
 | []=>.ret []
 | x::r=>(evC P ctx T x).bind fun c=>(nK ctx T r).bind fun l=>.ret (c::l)
def ZF:AC O→Bool
 | .int _ _ | .bool _ | .str _ | .nil _=>true
 | _=>false
def A6:LK→AC O→Bool
 | .int k,.int k' _=>TG k k'
 | .bool,.bool _=>true
 | .str,.str _=>true
 | .sl e,.nil e'=>Nat.beq e e'
 | .sl e,.imm e' _ _=>Nat.beq e e'
 | .sl e,.own e' _=>Nat.beq e e'
 | _,_=>false
def AO:List TypeId→List (AC O)→Bool
 | [],[]=>true
 | t::ts,c::cs=>match A6 (AH P t) c with
  | true=>AO ts cs
  | false=>false
 | _,_=>false
def Ir (ts:List TypeId):List (List (AC O))→Bool
 | []=>true
 | r::rs=>match AO P ts r with
  | true=>Ir ts rs
  | false=>false
def Y7:Operand→Operand→Bool
 | .tmp a,.tmp b=>Nat.beq a b
 | .const (.int _ a),.const (.int _ b)=>decide (a=b)
 | _,_=>false
def Sr:List (AC O)→Bool
 | []=>true
 | .any _::_=>false
 | _::r=>Sr r
def aD (T:TypeId):List (AC O)→List (AC O)
 | [.nilptr,.nil e]=>[.any T,.nil e]
 | cs=>cs
def lr (T:TypeId) (v:List (AC O)):AC O→RM O (Wr O)
  | .ptr b off=>.b b fun
    | some e => (RM.guard (Nat.beq v.length (P.cellsOf T) && Nat.blt 0 v.length) "store size").bind fun _ =>
      (RM.ofOpt "store" (Cs e.cs off v)).bind fun cs => (RM.guard (Sr cs) "store").bind fun _ => .ret { bs := [(b, some { cs, dirty := true })] }
    | none => .fail "no such variable"
  | .aptr b off n sz i inner=>.b b fun
    | some e =>
      (RM.guard (Nat.beq v.length (P.cellsOf T) && Nat.blt 0 v.length) "store size").bind fun _ =>
      (RM.ofOpt "store of an element" (ji off sz inner i v n e.cs)).bind fun cs => (RM.guard (Sr cs) "store").bind fun _ => .ret { bs := [(b, some { cs, dirty := true })] }
    | none => .fail "no such variable"
  | .eptr id i off=>.h id fun
    | some h => (RM.guard (!h.frozen) "a store into a shared slice").bind fun _ =>
      match Tw P h.e off T with
      | some ts => (RM.guard (Nat.beq v.length ts.length && Nat.beq v.length (P.cellsOf T)) "store size").bind fun _ =>
        (JS v).bind fun (ls, fr, nw) => (RM.guard (AO P ts v && !CK id (fr.map (·.1))) "store kinds").bind fun _ =>
          .ret { hs:=fr++[(id,some { h with l:=O.x h.l i off ls,nw:=h.nw&&nw,dirty:=true })] }
      | none => .fail "a row of another type"
    | none => .fail "a slice that is gone"
  | _ => .fail "store no address"
def iD (ctx:List (Nat×Bool)):List Operand→RM O (List (Cap O))
 | []=>.ret []
 | x::r=>(evC P ctx 0 x).bind fun
  | .ptr b off=>(iD ctx r).bind fun l=>.ret (.box b off::l)
  | _ => .fail "makeFunc captured"
def VP (ctx:List (Nat×Bool)):List TypeId→List Operand→RM O (List (AV O))
 | [],[]=>.ret []
 | t::ts,x::xs=>(ev P ctx t x).bind fun v=>(VP ctx ts xs).bind fun r=>.ret (v::r)
 | _, _ => .fail "arguments"
def UF (used:List Nat):List (AC O)→RM O (List O.Lf×List Nat)
 | []=>.ret ([],used)
 | .own _ id::r=>.h id fun
  | some h=>match !h.frozen && !CK id used with
   | true=>(UF (id::used) r).bind fun (ls,u)=>.ret (.rows h.l::ls,u)
   | false => .fail "a slice that cannot be handed over"
  | none => .fail "a slice that is gone"
 | .imm _ _ _ :: _ => .fail "a shared slice cannot be handed over"
 | c::r=>(di c).bind fun (l,_,_)=>(UF used r).bind fun (ls,u)=>.ret (l::ls,u)
def oV:AC O→Bool
 | .ptr .. | .aptr .. | .eptr .. | .iptr .. | .fn .. | .nilptr | .tail .. | .any ..=>false
 | _=>true
def Hn:List (AV O)→Option (List Nat)
 | []=>some []
 | .val ⟨false,[.fn f _]⟩::r=>(Hn r).map (f::·)
 | .val v::r=>match v.cs.all oV with
  | true=>Hn r
  | false=>none
 | .tup _::_=>none
def dv (n:Nat):List Oper→Option TypeId
 | []=>none
 | o::r=>match o.op with
  | .load T (.tmp m)=>match Nat.beq m n with
   | true=>some T
   | false=>dv n r
  | _=>dv n r
def orT:Option TypeId→Option TypeId→Option TypeId
 | some t,_=>some t
 | none,x=>x
def cQ (n:Nat):Code→Option TypeId
 | .region _ ops _=>dv n ops.toList
 | .seq a b | .cond _ a b=>orT (cQ n a) (cQ n b)
 | .block _ b | .loop b | .scope b=>cQ n b
 | _=>none
def lu (b:Code):Nat→Nat→Option (List TypeId)
 | _,0=>some []
 | n,k+1=>match cQ n b,lu b (n+1) k with
  | some t,some r=>some (t::r)
  | _,_=>none
def mF (P:Program) (f:FuncId):Option (List TypeId):=match P.funcs[f]? with
 | some fn=>match fn.nfree with
  | 0=>some []
  | k+1=>match fn.body with
   | some b=>lu b fn.params.size (k+1)
   | none=>none
 | none=>none
def hC (T:TypeId):Nat→List TypeInfo→Option TypeId
 | _,[]=>none
 | i,x::r=>match x.desc with
  | .slice e=>match Nat.beq e T with
   | true=>some i
   | false=>hC T (i+1) r
  | _=>hC T (i+1) r
def mi (P:Program) (T:TypeId):Bool:=match hC T 0 P.types.toList with
 | some t=>(match AH P t with | .sl e=>Nat.beq e T | _=>false)
 | none=>false
def dD:AC O→Bool
 | .int _ _ | .bool _ | .str _=>true
 | _=>false
def kN:List TypeId→List (Cap O)→RM O (List O.Lf)
  | [],[]=>.ret []
  | T::ts,.box b off::r=>.b b fun
    | some e=>match AM P T,FI e.cs off (P.cellsOf T) with
      | some l, some cs => (RM.guard (AO P l cs && cs.all dD && mi P T) "a variable that is taken along").bind fun _ =>
        (JS cs).bind fun (ls,_,_)=>(kN ts r).bind fun more=>.ret (.rows (O.ad [ls])::more)
      | _, _ => .fail "a variable that is taken along"
    | none => .fail "no such variable"
  | _, _ => .fail "what is taken along"
def EY:List TypeId→List O.Lf→Option (List (Cap O)×List O.Lf)
 | [],ls=>some ([],ls)
 | t::ts,.rows l::ls=>(EY ts ls).map fun (c,r)=>(.row t l::c,r)
 | _::_,_=>none
def Ki:List Bool→List Nat→List (AV O)→RM O (List O.Lf×List (Nat×Option (HEnt O))×List Nat)
 | _,used,[]=>.ret ([],[],used)
 | gv, used, .val ⟨false, [.fn f caps]⟩ :: r => (RM.ofOpt "what is taken along" (mF P f)).bind fun ts => (kN P ts caps).bind fun cl => (Ki gv.tail used r).bind fun (ls', fr', u') => .ret (cl ++ ls', fr', u')
 | gv,used,.val v::r=>match gv.headD false with
  | true=>(UF used v.cs).bind fun (ls,u)=>(Ki gv.tail u r).bind fun (ls',fr,u')=>.ret (ls++ls',fr,u')
  | false=>(JS v.cs).bind fun (ls,fr,_)=>(Ki gv.tail used r).bind fun (ls',fr',u')=>.ret (ls++ls',fr++fr',u')
 | _, _, .tup _ :: _ => .fail "arguments"
def bI (used:List Nat):List (Nat×Option (HEnt O))→Bool
 | []=>true
 | (n,_)::r => !CK n used&&bI used r
def BQ (own:Nat→Bool) (nw:Bool) (c:O.C):Nat→Nat→List TypeId→Option (List (Val O)×List (Nat×HEnt O))
 | _,_,[]=>some ([],[])
 | j,q,t::ts=>match AM P t with
  | none=>none
  | some l=>match Aq P own nw c j q l with
   | none=>none
   | some (cs,h)=>match BQ own nw c (j+l.length) (q+h.length) ts with
    | none=>none
    | some (vs,hs)=>some ({ agg:=AR P t,cs }::vs,h++hs)
def Ib:List (Val O)→AV O
 | [v]=>.val v
 | vs=>.tup vs
def Iw (P:Program):List TypeId→Option (List TypeId)
 | []=>some []
 | t::ts=>match AM P t,Iw P ts with
  | some a,some r=>some (a++r)
  | _,_=>none
def Xo (P:Program):List TypeId→Nat
 | []=>0
 | t::ts=>(match AH P t with | .sl _=>1 | _=>0)+Xo P ts
def bO (P:Program) (e:TypeId):Bool:=match AM P e with
 | some l=>Nat.beq (Xo P l) 0
 | none=>false
def A8 (P:Program) (o:Oper):Nat:=match o.op with
 | .call c=>match c.callee with
  | .builtin _=>1
  | _=>16
 | .alloc _ | .box _ _ | .buildSlice _ _ _ | .makeSlice _ _ _ | .convert _ _ _ | .slice _ _ _ _ _=>1
 | .makeMap _ _ | .mapUpdate _ _ _ _ | .lookup _ _ _ _ | .mapEntry _ _ _ | .entryStore _ _ _ _=>1
 | _=>0
def GR:List TypeId→List (AV O)→Bool
 | [],[]=>true
 | t::ts,v::vs=>(match AH P t,v with
  | .fn,.val ⟨false,[.fn _ _]⟩=>true
  | .fn,_=>false
  | _,.val ⟨false,[.fn _ _]⟩=>false
  | _,.val v=>match AM P t with
   | some l=>v.agg==AR P t&&AO P l v.cs
   | none=>false
  | _,.tup _=>false)&&GR ts vs
 | _,_=>false
def Qp:List (AV O)→Bool
 | []=>true
 | .val ⟨false,[.fn _ (_::_)]⟩::_=>false
 | _::r=>Qp r
def rl {α:Type} (g:Option α) (b:Nat→Bool):Nat→Bool:=match g with
 | none=>b
 | some _=>fun _=>false
def jC (ctx:List (Nat×Bool)) (g:Option O.B) (id:Nat) (d:Option Nat) (ci:CI) (fn:Func) (fr:List (Nat×Option (HEnt O))) (u:List Nat):O.C→Option (Wr O):=fun c =>
 match BQ P (rl g ci.ow) ci.nw c 0 id fn.resultTypes.toList with
  | none=>none
  | some (vs,nh)=>match Nat.ble nh.length 16 with
   | true=>some { ts:=match d with | some d=>[(d,some ⟨ctx,Ib vs⟩)] | none=>[],hs:=(match ci.nw with | true=>[] | false=>fr)++(u.map (fun n=>(n,none))++nh.map fun (n,h)=>(n,some h)) }
   | false=>none
def ck (gives:List Bool):Bool:=Nat.blt 8 gives.length
def Xu (gives:List Bool) (used:List Nat) (fr:List (Nat×Option (HEnt O))):Bool:=bI used fr&&(!ck gives||used.isEmpty)
def dZ (ctx:List (Nat×Bool)) (g:Option O.B) (d:Option Nat) (f:FuncId) (args:List (AV O)):RM O (StepRes O):=match CK f cfg.stop with
 | true => .fail "a function that is not entered"
 | false=>match g,ctx,d with
  | none,_,_=>.ret (.inl f args)
  | some b,[_],some d=>match (P.funcs[f]?).bind fun fn=>(match fn.resultTypes.toList with | [t]=>L5 P t | _=>none) with
   | some z=>.ret (.inlg b f args { ts:=[(d,some ⟨ctx,.val z⟩)] })
   | none => .fail "a call under a guard that has no contract"
  | some _, _, _ => .fail "a call under a guard that has no contract"
def ZG (ctx:List (Nat×Bool)) (g:Option O.B) (id:Nat) (d:Option Nat) (f:FuncId) (caps:List (Cap O)) (args:List (AV O)):RM O (StepRes O) :=
  let inl:RM O (StepRes O):=dZ P cfg ctx g d f (args++caps.map fun c=>one c.ac)
  match caps with
  | _::_=>inl
  | []=>match Hn args with
    | none=>inl
    | some fns=>match TZ cfg.gam f fns with
      | none=>inl
      | some ci=>match P.funcs[f]? with
        | none => .fail "no such function"
        | some fn => (RM.guard (fn.body.isSome && !(fn.name == "runtime.NumGoroutine") && (GR P fn.params.toList args && (ci.nw || Qp args))) "a callee").bind fun _ =>
          (Ki P ci.gives [] args).bind fun (ls,fr,used)=>match (Iw P fn.resultTypes.toList).bind (rZ P),Xu ci.gives used fr with
          | some dm,true=>.ret (.call g f fns ls dm (jC P ctx g id d ci fn fr used))
          | _, _ => .fail "a result that is no data"
abbrev Ja (O:Alg):=List O.B×AV O×List (Nat×Option (HEnt O))
def okP (as:List O.B) (v:AV O):RM O (Ja O):=.ret (as,v,[])
def OD (T:TypeId) (n:Nat):Bool:=(P.underlying T).isSome&&(AR P T||Nat.beq n 1)
def pJ (ctx:List (Nat×Bool)) (ty:TypeId) (n:Nat) (a b:Operand):RM O (Ja O):=.t n fun
  | some tv=>match VA tv.gs ctx,tv.v with
    | true,.val ⟨false,[.bool c]⟩ =>
      (evV P ((n,true)::ctx) ty a).bind fun x=>(evV P ((n,false)::ctx) ty b).bind fun y =>
      match x.agg==y.agg,CS c x.cs y.cs with
      | true,some cs=>okP [] (.val { agg:=x.agg,cs })
      | _, _ => .fail "pick"
    | _, _ => .fail "pick no bool"
  | none => .fail "no such temporary"
def rh:BinOp→Option Nat
 | .and=>some 0
 | .or=>some 1
 | .xor=>some 2
 | .andNot=>some 3
 | _=>none
def tZ:BinOp→Option Bool
 | .shl=>some true
 | .shr=>some false
 | _=>none
def Xx:Operand→Bool
 | .const (.int _ n)=>decide (0≤n)
 | _=>false
def ny (op:BinOp) (T:TypeId) (y:Operand) (a b:Val O):RM O (Ja O):=match a.agg,b.agg,a.cs,b.cs with
  | false,false,[.int k i],[.int k' j]=>match tZ op with
   | some l=>okP (match Xx y with | true=>[] | false=>[O.v (O.lit k' 0) j]) (one (.int k (O.ag l k i j)))
   | none=>match TG k k' with
    | false => .fail "operands of different kinds"
    | true=>match rh op with
     | some c=>okP [] (one (.int k (O.al c k i j)))
     | none=>match op with
      | .add=>okP [] (one (.int k (O.p k i j)))
      | .sub=>okP [] (one (.int k (O.u k i j)))
      | .mul=>okP [] (one (.int k (O.af k i j)))
      | .quo=>okP (match G7 y with | true=>[] | false=>[O.f (O.d j (O.lit k 0))]) (one (.int k (O.ax k i j)))
      | .rem=>okP (match G7 y with | true=>[] | false=>[O.f (O.d j (O.lit k 0))]) (one (.int k (O.ah k i j)))
      | op=>match tp op i j with
        | some c=>okP [] (one (.bool c))
        | none => .fail "an operator on integers"
  | false,false,[.str s],[.str t]=>match op with
    | .eql=>okP [] (one (.bool (O.au s t)))
    | .neq=>okP [] (one (.bool (O.f (O.au s t))))
    | .lss=>okP [] (one (.bool (O.bd s t)))
    | .add=>okP [O.ac (O.ak s) 1,O.ac (O.ak t) 1] (one (.str (O.be s t)))
    | _ => .fail "an operator on strings"
  | p,q,xs,ys=>match AM P T with
    | none => .fail "an operator"
    | some ts=>match p==AR P T&&q==AR P T&&VG P Cb T && !P.eqGuardType P.depth T&&BN P ts xs&&BN P ts ys,op,Ij xs ys with
      | true,.eql,some c=>okP [] (one (.bool c))
      | true,.neq,some c=>okP [] (one (.bool (O.f c)))
      | _, _, _ => .fail "an operator"
def eo (src dst:TypeId) (c:AC O):RM O (Ja O):=match P.underlying src with
 | none => .fail "convert"
 | some _=>match AH P dst,c with
  | .int k,.int _ i=>okP [] (one (.int k (O.aj k i)))
  | .str,.str s=>okP [] (one (.str s))
  | .str,.int _ i=>okP [] (one (.str (O.ba i)))
  | _, _ => .fail "convert"
def TD (T:TypeId) (p:AC O) (ix:Operand) (i:O.I):RM O (Ja O):=match P.underlying T with
 | some (.array n e) => (RM.guard (Nat.blt 0 (P.cellsOf e)) "indexAddr element").bind fun _ => match ix with
  | .const (.int _ c)=>match decide (0≤c∧c<n),DI (c.toNat * P.cellsOf e) p with
   | true,some p=>okP [] (one p)
   | _, _ => .fail "indexAddr"
  | _=>match p with
   | .ptr b off=>okP [O.r i (O.lit .i64 n)] (one (.aptr b off n (P.cellsOf e) i 0))
   | _ => .fail "indexAddr an array in an array"
 | some (.slice e)=>match p with
  | .own e' h => (WX (AC.own e' h : AC O)).bind fun (_, l, _) => (RM.guard (Nat.beq e e') "indexAddr element").bind fun _ =>
   okP [O.r i (O.o l)] (one (.eptr h i 0))
  | .imm e' nw l => (RM.guard (Nat.beq e e') "indexAddr element").bind fun _ => okP [O.r i (O.o l)] (one (.iptr e' nw l i 0))
  | .nil e=>okP [O.h] (one (.iptr e true O.y i 0))
  | _ => .fail "indexAddr no slice"
 | _ => .fail "indexAddr type"
def dW (T:TypeId) (v:Val O) (ix:Operand) (i:O.I):RM O (Ja O):=match P.underlying T,v.agg,v.cs with
 | some .string,false,[.str s]=>okP [O.r i (O.ak s)] (one (.int .u8 (O.av s i)))
 | some (.array n e),true,cs=>match ix with
  | .const (.int _ c)=>match decide (0≤c∧c<n),FI cs (c.toNat * P.cellsOf e) (P.cellsOf e) with
   | true, some cs => (RM.guard (OD P e cs.length) "index size").bind fun _ => okP [] (.val { agg := AR P e, cs })
   | _, _ => .fail "index"
  | _=>match n with
   | 0 => .fail "an array of no elements"
   | n+1=>match P2 (fun k=>FI cs (k * P.cellsOf e) (P.cellsOf e)) i n with
    | some cs => (RM.guard (OD P e cs.length) "index size").bind fun _ =>
     okP [O.r i (O.lit .i64 ((n+1:Nat):Int))] (.val { agg:=AR P e,cs })
    | none => .fail "index of an array"
 | _, _, _ => .fail "index type"
def aC (ctx:List (Nat×Bool)) (d:O.I):Option Operand→RM O O.I
 | none=>.ret d
 | some x=>evI ctx x
def Rl:Option Operand→Bool
 | none=>true
 | some (.const (.int _ n))=>decide (n=0)
 | _=>false
def qV (ctx:List (Nat×Bool)) (e':TypeId) (c:AC O) (lo hi:Option Operand):RM O (Ja O) :=
  (WX c).bind fun (e, l, nw) => (RM.guard (Nat.beq e e') "slice").bind fun _ =>
  (aC ctx (O.lit .i64 0) lo).bind fun a=>(aC ctx (O.o l) hi).bind fun b=>match c with
  | .own _ h=>.h h fun
    | some en=>.ret ([O.am a b (O.o l)],one (.imm e nw (O.ai l a b)),[(h,some { en with frozen:=true,dirty:=true })])
    | none => .fail "a slice that is gone"
  | _=>okP [O.am a b (O.o l)] (one (.imm e nw (O.ai l a b)))
def eW (ctx:List (Nat×Bool)) (T:TypeId) (c:AC O) (lo hi mx:Option Operand):RM O (Ja O):=match mx with
 | some m=>match P.underlying T,c,Rl lo,Rl hi&&hi.isSome,Rl (some m) with
  | some (.slice e'),.imm e _ _,true,true,true=>match Nat.beq e e' with
   | true=>okP [] (one (.nil e))
   | false => .fail "slice"
  | _, _, _, _, _ => .fail "slice with three bounds"
 | none=>match P.underlying T with
  | some .string=>match c with
   | .str s=>(aC ctx (O.lit .i64 0) lo).bind fun l=>(aC ctx (O.ak s) hi).bind fun h =>
    okP [O.am l h (O.ak s)] (one (.str (O.ay s l h)))
   | _ => .fail "slice"
  | some (.slice e')=>qV ctx e' c lo hi
  | _ => .fail "slice"
def W3 (ctx:List (Nat×Bool)) (ty:TypeId):Op→RM O (Ja O)
  | .move x | .assign x=>(ev P ctx ty x).bind fun v=>okP [] v
  | .pick (.tmp n) a b=>pJ P ctx ty n a b
  | .build T parts=>match L5 P T with
    | none => .fail "build"
    | some z=>match z.agg with
      | false => .fail "build"
      | true=>(match P.underlying T with
        | some (.struct fs) => (RM.guard (fs.toList.all fun f => (P.info? f.type).isSome) "build fields").bind fun _ =>
          Xv P (fun i=>(fs.toList[i]?).map fun (f:Field)=>(f.offset,f.type)) ctx parts.toList z.cs
        | some (.array _ e) => (RM.guard (Nat.blt 0 (P.cellsOf e)) "build element").bind fun _ => Xv P (fun i => some (i * P.cellsOf e, e)) ctx parts.toList z.cs
        | _ => .fail "build type").bind fun cs => okP [] (.val { agg := true, cs })
  | .load T a=>(evC P ctx T a).bind fun p=>(iV P T p).bind fun cs =>
    (RM.guard (OD P T cs.length) "load size").bind fun _ => okP [] (.val { agg := AR P T, cs })
  | .nilCheck x=>(evC P ctx ty x).bind fun p=>match p with
    | .ptr b off=>okP [] (one (.ptr b off))
    | .eptr i x off=>okP [] (one (.eptr i x off))
    | .iptr e nw l i off=>okP [] (one (.iptr e nw l i off))
    | .aptr b off n sz i inner=>okP [] (one (.aptr b off n sz i inner))
    | _ => .fail "nilCheck"
  | .binOp op T x y yT=>(evV P ctx T x).bind fun a=>(evV P ctx yT y).bind fun b=>ny P op T y a b
  | .unOp op T x=>(evC P ctx T x).bind fun c=>match op,c with
    | .not,.bool b=>okP [] (one (.bool (O.f b)))
    | .neg,.int k i=>okP [] (one (.int k (O.u k (O.lit k 0) i)))
    | .xor,.int k i=>okP [] (one (.int k (O.al 2 k (O.lit k (match k.signed with | true => -1 | false=>k.max)) i)))
    | _, _ => .fail "a unary operator"
  | .convert src dst x=>(evC P ctx src x).bind fun c=>eo P src dst c
  | .extract x i=>(ev P ctx ty x).bind fun
    | .tup vs=>match vs[i]? with
      | some v=>okP [] (.val v)
      | none => .fail "extract"
    | .val _ => .fail "extract"
  | .field T x f=>(evV P ctx T x).bind fun v=>match Qh P T f with
    | none => .fail "field"
    | some fd=>match v.agg,FI v.cs fd.offset (P.cellsOf fd.type) with
      | true, some cs => (RM.guard (OD P fd.type cs.length) "field size").bind fun _ => okP [] (.val { agg := AR P fd.type, cs })
      | _, _ => .fail "field"
  | .fieldAddr T x f=>(evC P ctx T x).bind fun p=>match Qh P T f with
    | none => .fail "fieldAddr"
    | some fd => (RM.guard (!Nat.beq (P.cellsOf fd.type) 0) "a field of no size").bind fun _ => match DI fd.offset p with
      | some p=>okP [] (one p)
      | none => .fail "fieldAddr no address"
  | .indexAddr T x ix=>(evC P ctx T x).bind fun p=>(evI ctx ix).bind fun i=>TD P T p ix i
  | .index T x ix=>(evV P ctx T x).bind fun v=>(evI ctx ix).bind fun i=>dW P T v ix i
  | .slice T x lo hi mx=>(evC P ctx T x).bind fun c=>eW P ctx T c lo hi mx
  | .makeFunc (.func f) first caps=>match first.toList with
    | []=>(iD P ctx caps.toList).bind fun l=>okP [] (one (.fn f l))
    | _ => .fail "makeFunc"
  | .call c=>match c.callee with
    | .builtin .len=>match c.args.toList,c.argTypes.toList with
      | [x],[T]=>match P.underlying T with
        | some (.array n _)=>okP [] (one (.int .i64 (O.lit .i64 n)))
        | some .string=>(evC P ctx T x).bind fun
          | .str s=>okP [] (one (.int .i64 (O.ak s)))
          | _ => .fail "len"
        | some (.slice _)=>(evC P ctx T x).bind fun v=>(WX v).bind fun (_,l,_)=>okP [] (one (.int .i64 (O.o l)))
        | _ => .fail "len"
      | _, _ => .fail "len"
    | .builtin .min=>(nK P ctx ty c.args.toList).bind fun
      | v::u::r=>match Wf O.m v (u::r) with
        | some m=>okP [] (one m)
        | none => .fail "min"
      | _ => .fail "min"
    | .builtin .max=>(nK P ctx ty c.args.toList).bind fun
      | v::u::r=>match Wf (fun a b=>O.m b a) v (u::r) with
        | some m=>okP [] (one m)
        | none => .fail "max"
      | _ => .fail "max"
    | _ => .fail "call"
  | _ => .fail "an operation"
abbrev uZ (O:Alg):=List O.B×AC O×Wr O
def IK (ctx:List (Nat×Bool)) (id:Nat):Op→RM O (uZ O)
  | .alloc T=>match L5 P T with
    | some v => (RM.guard (Nat.beq v.cs.length (P.cellsOf T) && Sr v.cs) "alloc size").bind fun _ => .ret ([], .ptr id 0, { bs := [(id, some { cs := aD T v.cs, dirty := true })] })
    | none => .fail "alloc"
  | .box T x => (evV P ctx T x).bind fun v => (RM.guard (Sr v.cs) "a variable").bind fun _ => .ret ([], .ptr id 0, { bs := [(id, some { cs := v.cs, dirty := true })] })
  | .buildSlice T len parts=>match P7 P T with
    | none => .fail "buildSlice"
    | some e=>match L5 P e,AM P e with
      | some z, some ts => (RM.guard (Nat.ble (len * P.cellsOf e) 100000 && Nat.beq z.cs.length (P.cellsOf e)) "buildSlice size").bind fun _ =>
        (Xv P (fun i=>some (i * P.cellsOf e,e)) ctx parts.toList (Di len z.cs)).bind fun cs =>
        (jg (Hh (P.cellsOf e) len cs)).bind fun (rows, fr, nw) => (RM.guard (Ir P ts (Hh (P.cellsOf e) len cs)) "buildSlice kinds").bind fun _ =>
        .ret ([],.own e id,{ hs:=fr++[(id,some { e,frozen:=false,nw,l:=O.ad rows,dirty:=true })] })
      | _, _ => .fail "buildSlice zero"
  | .makeSlice T len cap=>match P7 P T with
    | none => .fail "makeSlice"
    | some e=>match L5 P e,P.info? e,AM P e with
      | some z, some ti, some ts => (evI ctx len).bind fun n => (RM.guard (Y7 len cap && Ir P ts [z.cs] && z.cs.all ZF) "makeSlice cap").bind fun _ =>
        (JS z.cs).bind fun (ls,_,_) =>
        .ret ([O.ac n ti.bytes],.own e id,{ hs:=[(id,some { e,frozen:=false,nw:=true,l:=O.ap n ls,dirty:=true })] })
      | _, _, _ => .fail "makeSlice zero"
  | .call c=>match c.callee,c.args.toList,c.argTypes.toList with
    | .builtin .append,[x,y],[T,U]=>match P7 P T,P7 P U with
      | some e, some e' => (RM.guard (Nat.beq T U) "append types").bind fun _ => (evC P ctx T x).bind fun a => (evC P ctx U y).bind fun b =>
        (WX b).bind fun (eb,lb,nb') =>
        let nb:=nb'||bO P e
        match P.info? e,AM P e,L5 (O:=O) P e with
        | some ti, some _, some z => (RM.guard (Nat.beq e eb && Nat.beq z.cs.length (P.cellsOf e)) "append elements").bind fun _ => match a with
          | .nil ea => (RM.guard (Nat.beq e ea) "append elements").bind fun _ =>
            .ret ([O.ac (O.o lb) ti.bytes],.own e id,{ hs:=[(id,some { e,frozen:=false,nw:=nb,l:=lb,dirty:=true })] })
          | .own ea i=>.h i fun
            | some h => (RM.guard (!h.frozen && Nat.beq e ea && Nat.beq e h.e) "append to a shared slice").bind fun _ =>
              .ret ([O.ac (O.o (O.ae h.l lb)) ti.bytes],.own e id,
                { hs:=[(i,none),(id,some { e,frozen:=false,nw:=h.nw&&nb,l:=O.ae h.l lb,dirty:=true })] })
            | none => .fail "append a slice that is gone"
          | _ => .fail "append to a slice that came in"
        | _, _, _ => .fail "append type"
      | _, _ => .fail "append types"
    | _, _, _ => .fail "call"
  | .convert src dst x=>(evC P ctx src x).bind fun c=>match AH P src,AH P dst,c with
    | .str,.sl e,.str s=>match AH P e,AM P e with
      | .int .u8,some [t]=>match AH P t with
        | .int .u8=>.ret ([],.imm e true (O.aw s),{})
        | _ => .fail "convert"
      | _, _ => .fail "convert"
    | _, _, _ => .fail "convert"
  | _ => .fail "an operation"
def mw:Op→Bool
 | .alloc _ | .box _ _ | .buildSlice _ _ _ | .makeSlice _ _ _=>true
 | .convert _ dst _=>match AH P dst with
  | .sl _=>true
  | _=>false
 | .call c=>match c.callee with
  | .builtin .append=>true
  | _=>false
 | _=>false
def ZU:List (Nat×Option (HEnt O))→RM O (List (Nat×Option (HEnt O)))
 | []=>.ret []
 | (n,_)::r=>.h n fun
  | some h=>(ZU r).bind fun l=>.ret ((n,some { h with frozen:=true,dirty:=true })::l)
  | none => .fail "a slice that is gone"
def rW (ctx:List (Nat×Bool)) (id:Nat):Op→RM O (AC O)
 | .buildSlice T len parts=>(IK P ctx id (.buildSlice T len parts)).bind fun (as,c,w)=>match as,c,w.hs,w.bs with
  | [],.own e q,[(j,some h)],[]=>match Nat.beq q id&&(Nat.beq j id&&Nat.beq e h.e) with
   | true=>.ret (.imm e h.nw h.l)
   | false => .fail "a literal under a guard"
  | _, _, _, _ => .fail "a literal under a guard"
 | _ => .fail "an operation under a guard"
inductive Spec where
 | take (T:TypeId) (x hi:Operand)
 | tail (T:TypeId) (x lo:Operand)
 | clr (T:TypeId) (x:Operand)
 | mkMap (T:TypeId)
 | mapUpd (T:TypeId) (m k v:Operand)
 | mapGet (T:TypeId) (m k:Operand)
 | mapEnt (T:TypeId) (m k:Operand)
 | mapSto (T:TypeId) (m x v:Operand)
 | bld (b:Bld) (x:Operand) (r:List Operand)
def Qc:List (AC O)→Option (List O.I)
 | []=>some []
 | .int .i64 i::r=>match Qc r with
  | some l=>some (i::l)
  | none=>none
 | _=>none
def mz (v:Val O):Option (List O.I):=match v.agg with
 | true=>Qc v.cs
 | false=>none
def PD (O:Alg) (l:O.L) (ks:List O.I) (z:O.I):O.L:=O.bg ks.length l ks z
def S5 (O:Alg) (l:O.L) (ks:List O.I):O.I:=O.bf ks.length l ks
def JD (cfg:Cfg):Op→Option Spec
 | .slice T x lo (some hi) none=>match CK 60001 cfg.ie&&Rl lo with
  | true=>some (.take T x hi)
  | false=>none
 | .slice T x (some lo) none none=>match CK 60001 cfg.ie with
  | true=>some (.tail T x lo)
  | false=>none
 | .call ⟨.builtin .clear,args,tys⟩=>match args.toList,tys.toList with
  | [x],[T]=>some (.clr T x)
  | _,_=>none
 | .call ⟨.value (.func f),args,_⟩=>match cn cfg.bld f,args.toList with
  | some b,x::r=>some (.bld b x r)
  | _,_=>none
 | .makeMap T none=>some (.mkMap T)
 | .mapUpdate T m k v=>some (.mapUpd T m k v)
 | .lookup T m k false=>some (.mapGet T m k)
 | .mapEntry T m k=>some (.mapEnt T m k)
 | .entryStore T m x v=>some (.mapSto T m x v)
 | _=>none
def W5 (ctx:List (Nat×Bool)) (id:Nat) (d:Option Nat) (T:TypeId) (hi:Operand) (c:AC O):RM O (Option (StepRes O)):=match c,P7 P T,d with
  | .own e q,some e',some d=>.h q fun
    | some en=>match !en.frozen&&(Nat.beq e en.e&&Nat.beq e e') with
      | true => (evI ctx hi).bind fun b => .ret (some (.plain [O.am (O.lit .i64 0) b (O.o en.l)]
          { ts:=[(d,some ⟨ctx,one (.own e id)⟩)],hs:=[(q,none),(id,some { en with l:=O.ai en.l (O.lit .i64 0) b,dirty:=true })] }))
      | false=>.ret none
    | none => .fail "a slice that is gone"
  | _,_,_=>.ret none
def WW (ctx:List (Nat×Bool)) (d:Option Nat) (T:TypeId) (lo:Operand) (c:AC O):RM O (Option (StepRes O)):=match c,P7 P T,d with
 | .own e q,some e',some d=>.h q fun
  | some en=>match !en.frozen&&(Nat.beq e en.e&&Nat.beq e e') with
   | true=>(evI ctx lo).bind fun i=>.ret (some (.plain [O.am i (O.o en.l) (O.o en.l)] { ts:=[(d,some ⟨ctx,one (.tail e q i)⟩)] }))
   | false=>.ret none
  | none => .fail "a slice that is gone"
 | _,_,_=>.ret none
def gY (d:Option Nat) (T:TypeId) (c:AC O):RM O (Option (StepRes O)):=match c,P7 P T,d with
 | .tail e q i,some e',none=>.h q fun
  | some en=>match L5 P e,AM P e with
   | some z, some ts => (RM.guard (!en.frozen && (Nat.beq e en.e && Nat.beq e e') && (Ir P ts [z.cs] && z.cs.all ZF)) "clear").bind fun _ => (JS z.cs).bind fun (ls, _, _) =>
    .ret (some (.plain [] { hs:=[(q,some { en with l:=O.ae (O.ai en.l (O.lit .i64 0) i) (O.ap (O.o (O.ai en.l i (O.o en.l))) ls),dirty:=true })] }))
   | _, _ => .fail "clear"
  | none => .fail "a slice that is gone"
 | _, _, _ => .fail "clear"
def S7 (T:TypeId) (n:Nat) (c:AC O):RM O (Nat×HEnt O):=match c with
 | .mp e q=>.h q fun
  | some en=>match !en.frozen&&((Nat.beq e (Cq P n)&&Nat.beq en.e e)&&MM P T n) with
   | true=>.ret (q,en)
   | false => .fail "another map"
  | none => .fail "a map that is gone"
 | _ => .fail "no map"
def SU (ctx:List (Nat×Bool)) (T:TypeId) (k:Operand):RM O (List O.I) :=
  (evV P ctx T k).bind fun kv => RM.ofOpt "a key" (mz kv)
def aF:AC O→RM O O.I
 | .int .i64 z=>.ret z
 | _ => .fail "no int"
def mJ (d:Option Nat) (T:TypeId) (c:AC O) (ks:List O.I) (z:O.I):RM O (Option (StepRes O)):=match d with
 | none=>(S7 P T ks.length c).bind fun (q,en)=>.ret (some (.plain [] { hs:=[(q,some { en with l:=PD O en.l ks z,dirty:=true })] }))
 | some _ => .fail "a map"
def VB (ctx:List (Nat×Bool)) (d:Option Nat) (T:TypeId) (c:AC O) (ks:List O.I):RM O (Option (StepRes O)):=match d with
 | some d=>(S7 P T ks.length c).bind fun (q,en)=>.ret (some (.plain [] { ts:=[(d,some ⟨ctx,one (.int .i64 (S5 O en.l ks))⟩)] }))
 | none => .fail "a map"
def bH (ctx:List (Nat×Bool)) (d:Option Nat) (T:TypeId) (c:AC O) (ks:List O.I):RM O (Option (StepRes O)):=match d with
 | some d=>(S7 P T ks.length c).bind fun (q,en)=>.ret (some (.plain [] { ts:=[(d,some ⟨ctx,.tup [{ agg:=false,cs:=[.int .i64 (S5 O en.l ks)] },{ agg:=false,cs:=[.int .i64 (O.az ks.length en.l ks)] }]⟩)],hs:=[(q,some { en with l:=PD O en.l ks (S5 O en.l ks),dirty:=true })] }))
 | none => .fail "a map"
def nR (d:Option Nat) (T:TypeId) (c:AC O) (i z:O.I):RM O (Option (StepRes O)):=match d with
 | none=>(S7 P T (P.cellsOf (IR P T).1) c).bind fun (q,en)=>.ret (some (.plain [O.r i (O.o en.l)] { hs:=[(q,some { en with l:=O.x en.l i (P.cellsOf (IR P T).1) [.int z],dirty:=true })] }))
 | some _ => .fail "a map"
def kC (ctx:List (Nat×Bool)) (id:Nat) (d:Option Nat) (T:TypeId) (n:Nat):RM O (Option (StepRes O)) :=
 match d,MM P T n&&(noSl P (Cq P n)&&Nat.blt n 200) with
 | some d,true=>.ret (some (.plain [] { ts:=[(d,some ⟨ctx,one (.mp (Cq P n) id)⟩)],hs:=[(id,some { e:=Cq P n,frozen:=false,nw:=true,l:=O.y,dirty:=true })] }))
 | _, _ => .fail "a map"
def cB (u:TypeId):Bool:=match AH P u,AM P u with
 | .int .u8,some [t]=>(match AH P t with | .int .u8=>true | _=>false)
 | _,_=>false
def nO (u:TypeId):AC O→RM O (O.L×Bool×List (Nat×Option (HEnt O)))
 | .nil e => (RM.guard (Nat.beq e u) "a builder").bind fun _ => .ret (O.y, true, [])
 | .own e q=>.h q fun
  | some en => (RM.guard (!en.frozen && (Nat.beq e u && Nat.beq en.e u)) "a builder").bind fun _ => .ret (en.l, en.nw, [(q, none)])
  | none => .fail "a slice that is gone"
 | _ => .fail "a builder"
def gZ (b:Bld):AC O→RM O (Nat×O.L×Bool×List (Nat×Option (HEnt O)))
 | .ptr n off=>.b n fun
  | some e=>match e.cs with
   | [.any T, c] => (RM.guard (Nat.beq T b.T && (Nat.beq off 0 && cB P b.u)) "a builder").bind fun _ => (nO b.u c).bind fun (l, nw, g) => .ret (n, l, nw, g)
   | _ => .fail "a builder"
  | none => .fail "no such variable"
 | _ => .fail "a builder"
def gP (ctx:List (Nat×Bool)) (id d:Nat) (b:Bld) (c:AC O) (new:O.L) (v:AV O):RM O (Option (StepRes O)) :=
  (gZ P b c).bind fun (n,l,nw,g)=>.ret (some (.plain [O.ac (O.o (O.ae l new)) 1]
    { ts:=[(d,some ⟨ctx,v⟩)],bs:=[(n,some { cs:=[.any b.T,.own b.u id],dirty:=true })],hs:=g++[(id,some { e:=b.u,frozen:=false,nw,l:=O.ae l new,dirty:=true })] }))
def gV (ctx:List (Nat×Bool)) (id:Nat) (d:Option Nat) (b:Bld) (c:AC O) (r:List Operand):RM O (Option (StepRes O)):=match P.funcs[b.f]? with
 | none => .fail "no such function"
 | some fn => (RM.guard (fn.body.isSome && !(fn.name == "runtime.NumGoroutine")) "a callee without a body").bind fun _ => match b.k, r, d with
  | 0,[y],some d=>(evC P ctx (fn.params[1]?.getD 0) y).bind fun
   | .str s=>gP P ctx id d b c (O.aw s) (.tup [{ agg:=false,cs:=[.int .i64 (O.ak s)] },{ agg:=false,cs:=[.any 0] }])
   | _ => .fail "a builder"
  | 1,[y],some d=>(evC P ctx (fn.params[1]?.getD 0) y).bind fun
   | .int .u8 i=>gP P ctx id d b c (O.ad [[.int i]]) (one (.any 0))
   | _ => .fail "a builder"
  | 2,[],some d=>(gZ P b c).bind fun (n,l,nw,g)=>.ret (some (.plain [O.ac (O.o l) 1,O.bi l] { ts:=[(d,some ⟨ctx,one (.str (O.bh l))⟩)],hs:=g }))
  | _, _, _ => .fail "a builder"
def Q1 (ctx:List (Nat×Bool)) (id:Nat) (d:Option Nat):Spec→RM O (Option (StepRes O))
 | .mkMap T=>kC P ctx id d T (P.cellsOf (IR P T).1)
 | .mapUpd T m k v=>(evC P ctx T m).bind fun c=>(SU P ctx (IR P T).1 k).bind fun ks=>(evC P ctx (IR P T).2 v).bind fun x=>(aF x).bind fun z=>mJ P d T c ks z
 | .mapGet T m k=>(evC P ctx T m).bind fun c=>(SU P ctx (IR P T).1 k).bind fun ks=>VB P ctx d T c ks
 | .mapEnt T m k=>(evC P ctx T m).bind fun c=>(SU P ctx (IR P T).1 k).bind fun ks=>bH P ctx d T c ks
 | .mapSto T m x v=>(evC P ctx T m).bind fun c=>(evC P ctx 0 x).bind fun x=>(aF x).bind fun i=>(evC P ctx (IR P T).2 v).bind fun y=>(aF y).bind fun z=>nR P d T c i z
 | .take T x hi=>(evC P ctx T x).bind fun c=>W5 P ctx id d T hi c
 | .tail T x lo=>(evC P ctx T x).bind fun c=>WW P ctx d T lo c
 | .clr T x=>(evC P ctx T x).bind fun c=>gY P d T c
 | .bld b x r=>(evC P ctx 0 x).bind fun c=>gV P ctx id d b c r
def Sp (ctx:List (Nat×Bool)) (g:Option O.B) (o:Oper) (id:Nat):RM O (StepRes O):=match o.op,mw P o.op with
 | .store T a x,_=>match g with
  | some _ => .fail "a store under a guard"
  | none=>(evC P ctx T a).bind fun p=>(evV P ctx T x).bind fun v=>(lr P T v.cs p).bind fun w=>match o.dst with
   | none=>.ret (.plain [] w)
   | some _ => .fail "a store with a value"
 | .call ⟨.value f,args,_⟩,_=>(ev P ctx 0 f).bind fun
  | .val ⟨false,[.fn f caps]⟩=>match P.funcs[f]? with
   | none => .fail "no such function"
   | some fn => (RM.guard (fn.body.isSome && !(fn.name == "runtime.NumGoroutine")) "a callee without a body").bind fun _ => (VP P ctx (fn.params.toList.take args.size) args.toList).bind fun args => ZG P cfg ctx g id o.dst f caps args
  | _ => .fail "call no function"
 | op,true=>match g,o.dst with
  | none,some d=>(IK P ctx id op).bind fun (as,c,w)=>.ret (.plain as { w with ts:=[(d,some ⟨ctx,one c⟩)] })
  | some _,some d=>(rW P ctx id op).bind fun c=>.ret (.plain [] { ts:=[(d,some ⟨ctx,one c⟩)] })
  | _, none => .fail "an operation under a guard"
 | op,false=>match o.dst with
  | some d=>(W3 P ctx o.type op).bind fun (as,v,fr)=>(ZU fr).bind fun fr=>.ret (.plain (as.map (eK g)) { ts:=[(d,some ⟨ctx,v⟩)],hs:=fr })
  | none => .fail "an operation without a value"
def kG (ctx:List (Nat×Bool)) (g:Option O.B) (o:Oper) (id:Nat):RM O (StepRes O):=match g,JD cfg o.op with
 | none,some sp=>(Q1 P ctx id o.dst sp).bind fun
  | some r=>.ret r
  | none=>Sp P cfg ctx g o id
 | _,_=>Sp P cfg ctx g o id
def ED (ops:List Oper) (o:Oper) (id:Nat):RM O (StepRes O) :=
  (Sc ops o).bind fun ctx=>(UL ctx).bind fun g=>kG P cfg ctx g o id
end
structure Ms where
 t:Nat
 r:Nat
def Ms.or (a b:Ms):Ms:=⟨a.t ||| b.t,a.r ||| b.r⟩
def VE:Option Ms→Option Ms→Option Ms
 | some a,some b=>some (a.or b)
 | some a,none=>some a
 | none,b=>b
def bv (a:Ms):Option Ms→Option Ms
 | some b=>some (a.or b)
 | none=>none
structure An where
 nrm:Option Ms
 ret:Option Ms
 exts:List (Nat×Ms)
def A3:List (Nat×Ms)→Nat→Option Ms
 | [],_=>none
 | (j,m)::l,k=>match Nat.beq j k with
  | true=>some m
  | false=>A3 l k
def Li:List (Nat×Ms)→Nat→List (Nat×Ms)
 | [],_=>[]
 | (j,m)::l,k=>match Nat.beq j k with
  | true=>Li l k
  | false=>(j,m)::Li l k
def UI (l:List (Nat×Ms)) (k:Nat) (m:Ms):List (Nat×Ms):=match A3 l k with
 | some m'=>(k,m'.or m)::Li l k
 | none=>(k,m)::l
def Qf:List (Nat×Ms)→List (Nat×Ms)→List (Nat×Ms)
 | [],r=>r
 | (k,m)::l,r=>Qf l (UI r k m)
def RT (ops:List Oper):Nat→Nat→Nat
 | 0,t=>t
 | n+1,t=>match ops.find? (fun o=>match o.dst with | some d=>Nat.beq d t | none=>false) with
  | some o=>match o.op with
   | .fieldAddr _ (.tmp x) _ | .indexAddr _ (.tmp x) _ | .nilCheck (.tmp x) | .move (.tmp x) | .load _ (.tmp x) | .assign (.tmp x)=>RT ops n x
   | _=>t
  | none=>t
def lw (P:Program) (all:List Oper):Operand→Nat
 | .tmp a=>match all.find? (fun o=>match o.dst with | some d=>Nat.beq d a | none=>false) with
  | some o=>match AH P o.type with
   | .ptr | .fn=>CB (RT all 40 a)
   | _=>0
  | none=>0
 | _=>0
def qX (P:Program) (all:List Oper):Operand→List Operand→Nat
 | .func f,.tmp a::_=>match P.funcs[f]? with
  | some fn=>match fn.params[0]? with
   | some t=>match AH P t with
    | .ptr=>CB (RT all 40 a)
    | _=>0
   | none=>0
  | none=>0
 | _,_=>0
def uW (P:Program) (all:List Oper):Operand→List Operand→Nat
 | .func f,args=>match P.funcs[f]? with
  | some fn=>match fn.resultTypes.toList with
   | []=>args.foldl (fun m x=>m ||| (match x with
    | .tmp a=>match all.find? (fun o=>match o.dst with | some d=>Nat.beq d a | none=>false) with
     | some o=>match AH P o.type with
      | .sl _=>CB (RT all 40 a)
      | _=>0
     | none=>0
    | _=>0)) 0
   | _=>0
  | none=>0
 | _,_=>0
def hZ (P:Program) (all:List Oper):List Oper→Nat
 | []=>0
 | o::r=>(match o.op with
  | .store _ (.tmp a) _=>CB (RT all 40 a)
  | .mapUpdate _ (.tmp a) _ _ | .mapEntry _ (.tmp a) _ | .entryStore _ (.tmp a) _ _=>CB (RT all 40 a)
  | .call c=>match c.callee with
   | .value f=>c.args.toList.foldl (fun m x=>m ||| lw P all x) (lw P all f) ||| qX P all f c.args.toList ||| uW P all f c.args.toList
   | .builtin .append=>match c.args.toList with
    | .tmp a::_=>CB (RT all 40 a)
    | _=>0
   | _=>0
  | _=>0) ||| hZ P all r
def Xm:List Oper→Nat
 | []=>0
 | o::r=>(match o.dst with | some d=>CB d | none=>0) ||| Xm r
def an (P:Program):Code→An
 | .skip=>⟨some ⟨0,0⟩,none,[]⟩
 | .region _ ops _=>⟨some ⟨Xm ops.toList,hZ P ops.toList ops.toList⟩,none,[]⟩
 | .seq a b=>match an P a with
  | ⟨none,r,e⟩=>⟨none,r,e⟩
  | ⟨some m,r,e⟩=>match an P b with
   | ⟨n',r',e'⟩=>⟨bv m n',VE r (bv m r'),Qf (e'.map fun (k,x)=>(k,m.or x)) e⟩
 | .cond _ a b=>match an P a,an P b with
  | ⟨n,r,e⟩,⟨n',r',e'⟩=>⟨VE n n',VE r r',Qf e e'⟩
 | .block id b=>match an P b with
  | ⟨n,r,e⟩=>⟨VE n (A3 e id),r,Li e id⟩
 | .loop b=>match an P b with
  | ⟨n,r,e⟩=>⟨none,match n with | some m=>bv m r | none=>r,match n with | some m=>e.map (fun (k,x)=>(k,m.or x)) | none=>e⟩
 | .exit id=>⟨none,none,[(id,⟨0,0⟩)]⟩
 | .ret=>⟨none,some ⟨0,0⟩,[]⟩
 | _=>⟨none,none,[]⟩
structure Cn where
 nrm:Nat
 ret:Nat
 exts:List (Nat×Nat)
def ma:List (Nat×Nat)→Nat→Nat
 | [],_=>0
 | (j,m)::l,k=>match Nat.beq j k with
  | true=>m+ma l k
  | false=>ma l k
def cnt:Code→Cn
 | .skip | .region ..=>⟨1,0,[]⟩
 | .seq a b=>match cnt a,cnt b with
  | ⟨0,r,e⟩,_=>⟨0,r,e⟩
  | ⟨n,r,e⟩,⟨n',r',e'⟩=>⟨n',r+r',e++e'⟩
 | .cond _ a b=>match cnt a,cnt b with
  | ⟨n,r,e⟩,⟨n',r',e'⟩=>⟨n+n',r+r',e++e'⟩
 | .block id b=>match cnt b with
  | ⟨n,r,e⟩=>⟨n+ma e id,r,e.filter fun (k,_) => !Nat.beq k id⟩
 | .loop b=>match cnt b with
  | ⟨n,r,e⟩=>⟨0,(match r with | 0=>0 | _=>1),e.map fun (k,_)=>(k,1)⟩
 | .exit id=>⟨0,0,[(id,1)]⟩
 | .ret=>⟨0,1,[]⟩
 | _=>⟨0,0,[]⟩
def jL:Operand→Nat
 | .tmp t=>CB t
 | _=>0
def KK (nt:Nat):List Oper→Bool
 | []=>true
 | o::r=>(match o.dst with | some d=>Nat.blt d nt | none=>true)&&KK nt r
def Cf (nt:Nat):Code→Bool
 | .region _ ops _=>KK nt ops.toList
 | .seq a b=>Cf nt a&&Cf nt b
 | .cond _ a b=>Cf nt a&&Cf nt b
 | .block _ b=>Cf nt b
 | .loop b=>Cf nt b
 | _=>true
def gq:List Oper→Nat
 | []=>0
 | o::r=>o.op.operands.toList.foldl (fun m x=>m ||| jL x) 0 ||| gq r
def Sh:Code→Nat
 | .region _ ops _=>gq ops.toList
 | .seq a b=>Sh a ||| Sh b
 | .cond c a b=>jL c ||| Sh a ||| Sh b
 | .block _ b | .loop b | .scope b=>Sh b
 | _=>0
def Tn:Code→Nat
 | .region _ ops _=>ops.size
 | .seq a b=>Tn a+Tn b
 | .cond _ a b=>4+Tn a+Tn b
 | .block _ b=>Tn b
 | .loop _=>1000
 | _=>0
inductive Ex where
 | nrm
 | ext (id:Nat)
 | ret
structure Lv where
 nrm:Nat
 ret:Nat
 exts:List (Nat×Nat)
def rO:List (Nat×Nat)→Nat→Nat
 | [],_=>0
 | (j,m)::l,k=>match Nat.beq j k with
  | true=>m
  | false=>rO l k
def Lv.of (lv:Lv):Ex→Nat
 | .nrm=>lv.nrm
 | .ret=>lv.ret
 | .ext id=>rO lv.exts id
def Lv.all (lv:Lv):Nat:=lv.exts.foldl (fun m (_,x)=>m ||| x) (lv.nrm ||| lv.ret)
inductive SlotC where
 | int (k:IntKind) | bool | str | own (e:TypeId) (nw:Bool) | imm (e:TypeId) (nw:Bool) | any (T:TypeId)
inductive Slot where
 | t (n:Nat) (agg:Bool) (cs:List SlotC)
 | b (id:Nat) (cs:List SlotC)
def nN (cfg:Cfg) (e:Nat):Bool:=cfg.imm||CK e cfg.ie
def vG {O:Alg} (s:State O) (cfg:Cfg):AC O→Option SlotC
 | .int k _=>some (.int k)
 | .bool _=>some .bool
 | .str _=>some .str
 | .any T=>some (.any T)
 | .nil e=>some (match nN cfg e with | true=>.imm e (!cfg.old) | false=>.own e (!cfg.old))
 | .imm e nw _=>some (.imm e (nw && !cfg.old))
 | .own e id=>match s.getH id with
  | some h=>some (match h.frozen||nN cfg e with | true=>.imm e (h.nw && !cfg.old) | false=>.own e (h.nw && !cfg.old))
  | none=>none
 | _=>none
def iT {O:Alg} (s:State O) (cfg:Cfg):List (AC O)→Option (List SlotC)
 | []=>some []
 | c::r=>match vG s cfg c,iT s cfg r with
  | some a,some l=>some (a::l)
  | _,_=>none
section
variable {O:Alg} (P:Program) (cfg:Cfg)
def db (s:State O) (n:Nat):List Nat:=match s.getT n with
 | some ⟨_,.val ⟨false,[.ptr b _]⟩⟩=>[b]
 | some ⟨_,.val ⟨false,[.aptr b _ _ _ _ _]⟩⟩=>[b]
 | some ⟨_,.val ⟨false,[.fn _ caps]⟩⟩=>HW caps
 | _=>[]
def uq (s:State O) (n:Nat):Bool:=match s.getT n with
 | some ⟨_,.val ⟨false,[.fn _ _]⟩⟩=>true
 | _=>false
def oq (s:State O) (n:Nat):List Nat:=match s.getT n with
 | some ⟨_,.val ⟨false,[.eptr id _ _]⟩⟩=>[id]
 | some ⟨_,.val ⟨false,[.mp _ id]⟩⟩=>[id]
 | _=>[]
def tq (s:State O) (hid:List Nat) (n:Nat):Bool:=match s.getT n with
 | some ⟨_,.val ⟨false,[.own _ id]⟩⟩ => !CK id hid
 | _=>false
def Is (s:State O):List Nat→List Nat→List (Nat×TypeId×Bool)
 | [],_=>[]
 | n::r,seen=>match CK n seen with
  | true=>Is s r seen
  | false=>match s.getH n with
   | none=>Is s r seen
   | some h=>match h.frozen with
    | true=>Is s r seen
    | false=>(n,h.e,h.nw)::Is s r (n::seen)
def Mb (m:Nat):Nat→List Nat→List Nat
 | 0,acc=>match m.testBit 0 with | true=>0::acc | false=>acc
 | n+1,acc=>Mb m n (match m.testBit (n+1) with | true=>(n+1)::acc | false=>acc)
def Ta (m:Nat):Nat:=m.log2
def I7 (s:State O):List Nat→List Nat→Option (List Slot)
 | [],_=>some []
 | b::r,seen=>match CK b seen with
  | true=>I7 s r seen
  | false=>match s.getB b with
   | none=>I7 s r seen
   | some e=>match iT s cfg e.cs,I7 s r (b::seen) with
    | some cs,some l=>some (.b b cs::l)
    | _,_=>none
def LG (s:State O):List Nat→List Slot
 | []=>[]
 | n::r=>match s.getT n with
  | some ⟨[],.val v⟩=>match iT s cfg v.cs with
   | some cs=>.t n v.agg cs::LG s r
   | none=>LG s r
  | _=>LG s r
def Qi (s:State O) (m:Nat):List Nat:=Mb m (Ta m) []
def hOf (s:State O) (m:Ms):List (Nat×TypeId×Bool):=Is s (((Qi s m.r).map (oq s)).flatten) []
def eG (s:State O) (n:Nat):List Nat:=match s.getT n with
 | some ⟨_,.val ⟨false,[.own _ id]⟩⟩=>[id]
 | _=>[]
def rQ (s:State O) (m:Ms):List Nat:=match CK 60002 cfg.ie with
 | true=>(((Qi s m.r).filter fun n => !m.t.testBit n).map (eG s)).flatten
 | false=>[]
def gm (s:State O) (m:Ms):List (Nat×TypeId×Bool):=Is s (((Qi s m.r).map (oq s)).flatten++rQ cfg s m) []
def o9 (s:State O) (m:Ms) (live:Nat):Option (List Slot) :=
 let rs:=Qi s m.r
 let tmps:=(m.t ||| rs.foldl (fun a n=>match tq s ((gm cfg s m).map (·.1)) n with | true=>a ||| CB n | false=>a) 0) &&& live
 match I7 cfg s (((rs.filter fun n=>live.testBit n||(CK 60000 cfg.ie&&uq s n)).map (db s)).flatten) [] with
 | some l=>some (LG cfg s (Mb tmps (Ta tmps) [])++l)
 | none=>none
def Cc (s:State O) (m:Ms):List Nat:=((Qi s m.r).map (db s)).flatten
def bK:List (AC O)→List Nat
 | []=>[]
 | .own _ id::r=>id::bK r
 | _::r=>bK r
def gS (s:State O):List Nat→List Nat
 | []=>[]
 | n::r=>(match s.getT n with | some ⟨_,.val v⟩=>bK v.cs | _=>[])++gS s r
def rR (s:State O):List Nat→List Nat
 | []=>[]
 | b::r=>(match s.getB b with | some e=>bK e.cs | none=>[])++rR s r
def Xw (s:State O) (m:Ms):List Nat:=gS s (Mb (m.t ||| m.r) (Ta (m.t ||| m.r)) [])++rR s (Cc s m)
def U8 (s:State O) (m:Ms):List Nat:=Xw s m++(hOf s m).map (·.1)
def OC (s:State O) (ids:List Nat):List (Nat×HEnt O):=s.hp.filter fun (n,_) => !CK n ids
def Mj (s:State O) (bs:List Nat):List (Nat×BEnt O):=s.bx.filter fun (n,_) => !CK n bs
def cleanB (l:List (Nat×BEnt O)):List (Nat×BEnt O):=l.map fun (n,e)=>(n,{ e with dirty:=false })
def cleanH (l:List (Nat×HEnt O)):List (Nat×HEnt O):=l.map fun (n,e)=>(n,{ e with dirty:=false })
def IZ (s:State O) (keep:List Nat) (used:List Nat):SlotC→AC O→Except String (O.Lf×List Nat)
 | .int k, .int k' i => match TG k k' with | true => .ok (.int i, used) | false => .error "a slot of another kind"
 | .bool,.bool b=>.ok (.bool b,used)
 | .str,.str x=>.ok (.str x,used)
 | .any T, .any T' => match Nat.beq T T' with | true => .ok (.bool O.j, used) | false => .error "a slot of another type"
 | .own e _, .nil e' => match Nat.beq e e' with | true => .ok (.rows O.y, used) | false => .error "a slot of another element"
 | .imm e _, .nil e' => match Nat.beq e e' with | true => .ok (.rows O.y, used) | false => .error "a slot of another element"
 | .own e nw,.own e' id=>match s.getH id with
  | some h=>match Nat.beq e e'&&Nat.beq e h.e && !h.frozen&&(h.nw || !nw) && !CK id used && !CK id keep with
   | true=>.ok (.rows h.l,id::used)
   | false => .error "an owned slot that is shared"
  | none => .error "a slot whose slice is gone"
 | .own _ _, .imm _ _ _ => .error "an owned slot that is not owned"
 | .imm e nw, .imm e' nw' l => match Nat.beq e e' && (nw' || !nw) with | true => .ok (.rows l, used) | false => .error "a shared slot"
 | .imm e nw,.own e' id=>match s.getH id with
  | some h=>match Nat.beq e e'&&Nat.beq e h.e&&(h.nw || !nw)&&(h.frozen || !CK id keep) && !CK id used with
   | true=>.ok (.rows h.l,match h.frozen with | true=>used | false=>id::used)
   | false => .error "a shared slot of an owned slice"
  | none => .error "a slot whose slice is gone"
 | _, _ => .error "a slot"
def GN (s:State O) (keep used:List Nat):List SlotC→List (AC O)→Except String (List O.Lf×List Nat)
 | [],[]=>.ok ([],used)
 | a::as,c::cs=>match IZ s keep used a c with
  | .error e=>.error e
  | .ok (l,u)=>match GN s keep u as cs with
   | .error e=>.error e
   | .ok (ls,u)=>.ok (l::ls,u)
 | _, _ => .error "slots"
def HD (s:State O) (keep:List Nat):List Nat→List Slot→Except String (List O.Lf)
 | _,[]=>.ok []
 | used,.t n agg cs::r=>match s.getT n with
  | some ⟨[],.val v⟩=>match v.agg==agg,GN s keep used cs v.cs with
   | true,.ok (ls,u)=>match HD s keep u r with
    | .ok more=>.ok (ls++more)
    | .error e=>.error e
   | true,.error e=>.error e
   | false, _ => .error "a slot s form"
  | _ => .error "a slot that is not there"
 | used,.b b cs::r=>match s.getB b with
  | some e=>match GN s keep used cs e.cs with
   | .ok (ls,u)=>match HD s keep u r with
    | .ok more=>.ok (ls++more)
    | .error e=>.error e
   | .error e=>.error e
  | none => .error "a slot s variable is gone"
def Oa (s:State O):List (Nat×BEnt O)→Bool
 | []=>true
 | (n,_)::r=>match s.getB n with
  | some e=>match e.dirty with
   | true=>false
   | false=>Oa s r
  | none=>false
def Oc (s:State O):List (Nat×HEnt O)→Bool
 | []=>true
 | (n,_)::r=>match s.getH n with
  | some e=>match e.dirty with
   | true=>false
   | false=>Oc s r
  | none=>false
def G0 (c:O.C) (j q:Nat):SlotC→AC O×List (Nat×HEnt O)
 | .int k=>(.int k (O.e c j),[])
 | .bool=>(.bool (O.l c j),[])
 | .str=>(.str (O.cS c j),[])
 | .own e nw=>(.own e q,[(q,{ e,frozen:=false,nw,l:=O.q c j,dirty:=true })])
 | .imm e nw=>(.imm e nw (O.q c j),[])
 | .any T=>(.any T,[])
def KZ (c:O.C):Nat→Nat→List SlotC→List (AC O)×List (Nat×HEnt O)
 | _,_,[]=>([],[])
 | j,q,a::as=>match G0 c j q a with
  | (x,h)=>match KZ c (j+1) (q+h.length) as with
   | (xs,hs)=>(x::xs,h++hs)
def BS (c:O.C):Nat→Nat→List Slot→State O→State O
 | _,q,[],s=>{ s with st:=q }
 | j,q,.t n agg cs::r,s=>match KZ c j q cs with
  | (xs,hs)=>BS c (j+cs.length) (q+hs.length) r { s with tm:=E4 s.tm n (some ⟨[],.val { agg,cs:=xs }⟩),hp:=hs++s.hp }
 | j,q,.b b cs::r,s=>match KZ c j q cs with
  | (xs,hs)=>BS c (j+cs.length) (q+hs.length) r { s with bx:=MP s.bx b (some { cs:=xs,dirty:=true }),hp:=hs++s.hp }
def gX (t:TM (TV O)):List Nat→TM (TV O)
 | []=>t
 | n::r=>gX (E4 t n none) r
structure Way (O:Alg) where
 e:Ex
 slots:List Slot
 base:State O
 hs:List (Nat×TypeId×Bool)
def WP (s:State O):List (Nat×TypeId×Bool)→Except String (List O.Lf)
 | []=>.ok []
 | (n,e,nw)::r=>match s.getH n with
  | none => .error "a kept slice is gone"
  | some h=>match Nat.beq h.e e&&(!h.frozen&&h.nw==nw) with
   | false => .error "a kept slice"
   | true=>match WP s r with
    | .ok ls=>.ok (.rows h.l::ls)
    | .error e=>.error e
def Ns (c:O.C):Nat→List (Nat×TypeId×Bool)→List (Nat×HEnt O)
 | _,[]=>[]
 | j,(n,e,nw)::r=>(n,{ e,frozen:=false,nw,l:=O.q c j,dirty:=true })::Ns c (j+1) r
def Way.keep (w:Way O):List Nat:=w.hs.map (·.1)++w.base.hp.map (·.1)
def Way.baseC (w:Way O) (c:O.C) (j:Nat):State O:={ w.base with hp:=Ns c j w.hs++w.base.hp }
def Way.encL (w:Way O) (s':State O):Except String (List O.Lf):=match WP s' w.hs with
 | .error e=>.error e
 | .ok a=>match HD s' w.keep [] w.slots with
  | .error e=>.error e
  | .ok b=>.ok (a++b)
def Ka (s:State O) (e:Ex) (m:Ms) (live:Nat):Except String (Way O):=match o9 cfg s m live with
  | none => .error "a layout"
  | some sl => .ok { e, slots := sl, base :=
      { tm:=gX s.tm (Mb m.t (Ta m.t) []),bx:=Mj s (Cc s m),hp:=OC s (U8 s m),st:=s.st },hs:=gm cfg s m }
def Way.enc (w:Way O) (tag:Option Nat) (s':State O):O.M :=
 match Oa s' w.base.bx,Oc s' w.base.hp with
 | true,true=>match w.encL s' with
  | .ok ls=>O.a (match tag with | some t=>.int (O.lit .i64 t)::ls | none=>ls)
  | .error e=>O.z e
 | _, _ => O.z "memory that a join does not know"
def Way.dec (w:Way O) (tagged:Bool) (c:O.C):State O:=BS c ((match tagged with | true=>1 | false=>0)+w.hs.length) w.base.st w.slots (w.baseC c (match tagged with | true=>1 | false=>0))
def XP (s:State O) (lv:Lv) (e:Ex):Option Ms→Except String (List (Way O))
 | none=>.ok []
 | some m=>match Ka cfg s e m (lv.of e) with
  | .ok w=>.ok [w]
  | .error e=>.error e
def UK (s:State O) (lv:Lv):List (Nat×Ms)→Except String (List (Way O))
 | []=>.ok []
 | (id,m)::r=>match XP cfg s lv (.ext id) (some m),UK s lv r with
  | .ok a,.ok b=>.ok (a++b)
  | .error e,_=>.error e
  | _,.error e=>.error e
def Td (s:State O) (a:An) (lv:Lv):Except String (List (Way O)) :=
 match XP cfg s lv .nrm a.nrm,XP cfg s lv .ret a.ret,UK cfg s lv a.exts with
 | .ok x,.ok y,.ok z=>.ok (x++y++z)
 | .error e,_,_=>.error e
 | _,.error e,_=>.error e
 | _,_,.error e=>.error e
def po:Ex→Ex→Bool
 | .nrm,.nrm=>true
 | .ret,.ret=>true
 | .ext a,.ext b=>Nat.beq a b
 | _,_=>false
def Jb (tagged:Bool) (e:Ex) (s':State O):Nat→List (Way O)→O.M
 | _, [] => O.z "a way out that was not seen"
 | i,w::r=>match po e w.e with
  | true=>w.enc (match tagged with | true=>some i | false=>none) s'
  | false=>Jb tagged e s' (i+1) r
def K6 (c:O.C) (k:Ex→State O→O.M) (tagged:Bool):Nat→List (Way O)→O.M
 | _, [] => O.z "no way out"
 | _,[w]=>k w.e (w.dec tagged c)
 | i,w::r=>O.b (O.ab c i) (k w.e (w.dec tagged c)) (K6 c k tagged (i+1) r)
def cleaned (s:State O):State O:={ s with bx:=cleanB s.bx,hp:=cleanH s.hp }
def scope (a:An) (lv:Lv) (s:State O) (run:State O→(Ex→State O→O.M)→O.M) (k:Ex→State O→O.M):O.M :=
 match Td cfg s a lv with
 | .error e=>O.z e
 | .ok ws =>
  let tagged:=Nat.blt 1 ws.length
  O.c (run (cleaned s) fun e s'=>Jb tagged e s' 0 ws) fun c=>K6 c k tagged 0 ws
def BT:List Oper→List Nat→List Nat
 | [],acc=>acc
 | o::r,acc=>BT r (acc++[o.after.toList.foldl (fun s e=>match e.ground with
  | .textOnly _ | .gcOnly _=>s
  | _=>s ||| CB e.on ||| acc.getD e.on 0) 0])
def cE (o:Oper):Bool:=match o.op,o.guard with
 | .lookup _ _ _ false,none=>true
 | _,_=>false
def cH (o:Oper):Bool:=match o.op,o.guard with
 | .mapEntry _ _ _,none=>true
 | _,_=>false
def Tx (ops:List Oper) (i j:Nat):Bool:=match ops[i]?,ops[j]? with
 | some a,some b=>cE a&&cH b
 | _,_=>false
def my (x:Nat):Bool:=Nat.beq x (CB x.log2)&&Nat.beq (x.log2 % 3) 2
def LS (ex:Nat→Nat→Bool) (bs:List Nat) (ms:List (Nat×Nat)):Bool :=
 let rec inner (j bj rj wj:Nat):Nat→List (Nat×Nat)→Bool
  | _,[]=>true
  | i,(r,w)::l=>match Nat.ble j i with
   | true=>true
   | false=>match bj.testBit i||(Nat.beq (w &&& (rj ||| wj)) 0&&(Nat.beq (wj &&& r) 0||(ex i j&&my (wj &&& r)))) with
    | true=>inner j bj rj wj (i+1) l
    | false=>false
 let rec outer:Nat→List Nat→List (Nat×Nat)→Bool
  | j,b::bs,(r,w)::l=>match inner j b r w 0 ms with
   | true=>outer (j+1) bs l
   | false=>false
  | _,_,_=>true
 outer 0 bs ms
def bD:List Nat→Bool
 | []=>true
 | n::l => !CK n l&&bD l
def SM:List O.B→O.M→O.M
 | [],m=>m
 | a::r,m=>O.n a (SM r m)
def EP:TM (TV O)→TM (TV O)
 | .e=>.e
 | .leaf a=>match a.gs with
  | []=>.leaf a
  | _=>.e
 | .node l r=>.node (EP l) (EP r)
def Dz (ops:List Oper):Nat→List Nat→List Oper→Bool
 | i,b::bs,o::r=>match o.guard with
  | none=>Dz ops (i+1) bs r
  | some (j,_)=>Nat.blt j i&&b.testBit j&&(match (ops[j]?).bind (·.dst) with | some _=>true | none=>false)&&Dz ops (i+1) bs r
 | _,_,[]=>true
 | _,[],_::_=>false
def XN:Nat→List Oper→Bool
 | _,[]=>true
 | i,o::r=>(o.after.toList.all fun e=>match e.ground with
  | .textOnly _ | .gcOnly _=>true
  | _=>Nat.blt e.on i)&&XN (i+1) r
def DM (inl : FuncId → List (AV O) → State O → (AV O → State O → O.M) → O.M) (all : List Oper) (draw : Bool) :
    List Oper→Nat→State O→List (Nat×Nat)→(State O→List (Nat×Nat)→O.M)→O.M
  | [],id,s,ms,k=>k { s with st:=id } ms
  | o::r,id,s,ms,k=>match RM.run s (ED P cfg all o id) 0 with
    | .error e=>O.z e
    | .ok (.plain as w,rd)=>SM as (DM inl all draw r (id+A8 P o) (s.apply w) (ms++[(rd,w.mask)]) k)
    | .ok (.call g f fns args dm next,rd) =>
      let m:=O.g f fns args
      O.c (match g with | none=>m | some g=>O.b g m (O.a dm)) fun c=>match next c with
        | none => O.z "a result"
        | some w=>DM inl all draw r (id+A8 P o) (s.apply w) (ms++[(rd,w.mask)]) k
    | .ok (.inl f args,rd)=>match draw with
      | true => O.z "a call that has no contract in a region that draws"
      | false=>inl f args { s with st:=id+A8 P o } fun v s' =>
        DM inl all draw r s'.st (match o.dst with | some d=>{ s' with tm:=E4 s'.tm d (some ⟨[],v⟩) } | none=>s') (ms++[(0,0)]) k
    | .ok (.inlg g f args w,rd)=>match draw with
      | true => O.z "a call that has no contract in a region that draws"
      | false=>O.b g (inl f args { s with st:=id+A8 P o } fun v s' =>
        DM inl all draw r s'.st (match o.dst with | some d=>{ s' with tm:=E4 s'.tm d (some ⟨[],v⟩) } | none=>s') (ms++[(0,0)]) k)
        (DM inl all draw r (id+A8 P o) (s.apply w) (ms++[(rd,w.mask)]) k)
def AW:List Oper→List Nat
 | []=>[]
 | o::r=>match o.dst with | some d=>d::AW r | none=>AW r
def sS (o:Oper):Bool:=match o.op,o.guard with
 | .call ⟨.value _,_,_⟩,none=>true
 | _,_=>false
def Wp (ops:List Oper):Bool:=match ops.drop (ops.length - 1) with
 | [o]=>sS o&&Nat.beq ((BT ops []).getD (ops.length - 1) 0 &&& (CB (ops.length - 1) - 1)) (CB (ops.length - 1) - 1)
 | _=>false
def I2 (inl:FuncId→List (AV O)→State O→(AV O→State O→O.M)→O.M) (ops:List Oper) (draw:Bool) (s:State O) (k:State O→O.M):O.M :=
 match bD (AW ops)&&(Dz ops 0 (BT ops []) ops&&XN 0 ops) with
 | false => O.z "a temporary that is written twice"
 | true=>match draw&&Wp ops with
  | true=>DM P cfg inl ops true (ops.take (ops.length - 1)) s.st s [] fun s' ms =>
   match LS (Tx ops) (BT ops []) ms with
   | false => O.z "an order that is open"
   | true=>DM P cfg inl ops false (ops.drop (ops.length - 1)) s'.st s' [] fun s' _=>k { s' with tm:=EP s'.tm }
  | false=>DM P cfg inl ops draw ops s.st s [] fun s' ms =>
   match !draw||LS (Tx ops) (BT ops []) ms with
   | false => O.z "an order that is open"
   | true=>k { s' with tm:=EP s'.tm }
def mu (s:State O):Operand→Option O.B
 | .tmp n=>match s.getT n with
  | some ⟨[],.val ⟨false,[.bool b]⟩⟩=>some b
  | _=>none
 | .const (.bool b)=>some (match b with | true=>O.j | false=>O.h)
 | _=>none
def mU (head:Way O) (ws:List (Way O)) (tagged:Bool) (self:List O.Lf→O.M):Ex→State O→O.M:=fun e s'=>match e with
 | .nrm=>match Oa s' head.base.bx,Oc s' head.base.hp with
  | true,true=>match head.encL s' with
   | .ok ls=>self ls
   | .error e=>O.z e
  | _, _ => O.z "memory that a loop does not know"
 | e=>Jb tagged e s' 0 ws
def dU (o:Oper):Bool:=match o.op,o.guard with
 | .panic _,none=>true
 | _,_=>false
def X (inl:FuncId→List (AV O)→State O→(AV O→State O→O.M)→O.M):Code→Bool→Lv→State O→(Ex→State O→O.M)→O.M
 | .skip,_,_,s,k=>k .nrm s
 | .region _ ops draw,_,_,s,k=>match ops.toList.any dU with
  | true=>O.n O.h (O.a [])
  | false=>I2 P cfg inl ops.toList draw s fun s'=>k .nrm s'
 | .seq a b,light,lv,s,k=>X inl a (light&&Nat.ble (Tn b) 6) { lv with nrm:=Sh b ||| lv.all } s fun e s'=>match e with
  | .nrm=>X inl b light lv s' k
  | e=>k e s'
 | .cond c a b,light,lv,s,k=>match mu s c with
  | none => O.z "a condition"
  | some x=>match light||Nat.blt ((cnt a).nrm+(cnt b).nrm) 2 with
   | true=>O.b x (X inl a light lv s k) (X inl b light lv s k)
   | false=>scope cfg (an P (.cond c a b)) lv s (fun s k=>O.b x (X inl a true lv s k) (X inl b true lv s k)) k
 | .block id b,light,lv,s,k =>
  let lv':Lv:={ lv with exts:=(id,lv.nrm)::lv.exts }
  let k':Ex→State O→O.M:=fun e s'=>match e with
   | .ext i=>match Nat.beq i id with
    | true=>k .nrm s'
    | false=>k e s'
   | e=>k e s'
  match light||Nat.blt ((cnt b).nrm+ma (cnt b).exts id) 2 with
  | true=>X inl b light lv' s k'
  | false=>scope cfg (an P b) lv' s (fun s k=>X inl b true lv' s k) k'
 | .loop b,_,lv,s,k =>
  let a:=an P b
  let lvb:Lv:={ lv with nrm:=Sh b ||| lv.all }
  match a.nrm with
  | none => O.z "a loop of one round"
  | some m=>match Ka cfg s .nrm m lvb.nrm,Td cfg s (an P (.loop b)) lv with
   | .ok head,.ok ws =>
    let tagged:=Nat.blt 1 ws.length
    match head.encL s with
    | .error e=>O.z e
    | .ok ls=>O.c (O.aa (fun self c=>X inl b true lvb (cleaned (head.dec false c)) (mU head ws tagged self)) ls) fun c=>K6 c k tagged 0 ws
   | .error e,_=>O.z e
   | _,.error e=>O.z e
 | .exit id,_,_,s,k=>k (.ext id) s
 | .ret,_,_,s,k=>k .ret s
 | _, _, _, _, _ => O.z "code"
def ij (s:State O):ResultVar→Option (Val O)
 | .tmp t=>match s.getT t with
  | some ⟨[],.val v⟩=>some v
  | _=>none
 | .cell a T=>match s.getT a with
  | some ⟨[],.val ⟨false,[.ptr b off]⟩⟩=>match s.getB b with
   | some e=>match FI e.cs off (P.cellsOf T) with
    | some cs=>match OD P T cs.length with
     | true=>some { agg:=AR P T,cs }
     | false=>none
    | none=>none
   | none=>none
  | _=>none
def Ld (s:State O):List ResultVar→Option (List (Val O))
 | []=>some []
 | r::rs=>match ij P s r,Ld s rs with
  | some v,some l=>some (v::l)
  | _,_=>none
def Nd:List ResultVar→Nat
 | []=>0
 | .tmp t::r=>CB t ||| Nd r
 | .cell t _::r=>CB t ||| Nd r
def Bf:Nat→List (AV O)→TM (TV O)→TM (TV O)
 | _,[],t=>t
 | i,v::r,t=>Bf (i+1) r (E4 t i (some ⟨[],v⟩))
def ii (cfg:Cfg):List TypeId→Option (List SlotC)
 | []=>some []
 | t::ts=>match ii cfg ts with
  | none=>none
  | some r=>match AH P t with
   | .int k=>some (.int k::r)
   | .bool=>some (.bool::r)
   | .str=>some (.str::r)
   | .sl e=>some ((match nN cfg e with | false=>.own e false | true=>.imm e false)::r)
   | _=>none
def G9:List TypeId→List (AC O)→Option (List (Val O))
 | [],_=>some []
 | t::ts,cs=>match AM P t with
  | none=>none
  | some l=>match G9 ts (cs.drop l.length) with
   | none=>none
   | some r=>some ({ agg:=AR P t,cs:=cs.take l.length }::r)
def ME:List TypeId→List (Val O)→Bool
 | [],[]=>true
 | t::ts,v::vs=>(match AM P t with
  | some l=>v.agg==AR P t&&AO P l v.cs
  | none=>false)&&ME ts vs
 | _,_=>false
def Sm:Ex→Bool
 | .ext _=>true
 | _=>false
def bB (a:An):Ms:=match VE a.nrm a.ret with
 | some m=>m
 | none=>⟨0,0⟩
def eZ (rec':Code→Bool→Lv→State O→(Ex→State O→O.M)→O.M) (f:FuncId) (args:List (AV O)) (s:State O) (k:AV O→State O→O.M):O.M :=
  match P.funcs[f]? with
  | none => O.z "no such function"
  | some fn=>match fn.body with
    | none => O.z "a function without a body"
    | some body=>match Cf fn.ntmps body with
     | false => O.z "temporaries"
     | true =>
      let s1:State O:={ s with tm:=Bf 0 args .e }
      let live:=Nd fn.results.toList ||| (CB args.length - 1)
      let lv:Lv:={ nrm:=live,ret:=live,exts:=[] }
      let c:=cnt body
      match Nat.blt (c.nrm+c.ret) 2 || !(gm cfg s1 (bB (an P body))).isEmpty with
      | true=>rec' body false lv s1 fun e s'=>match Sm e,Ld P s' fn.results.toList with
        | false,some vs=>k (Ib vs) { s' with tm:=s.tm }
        | _, _ => O.z "results"
      | false =>
        let a:=an P body
        let m:Ms:=bB a
        match I7 cfg s1 (Cc s1 m) [],(Iw P fn.resultTypes.toList).bind (ii P cfg) with
        | some sl,some rs =>
          let base:State O:={ s with bx:=Mj s (Cc s1 m),hp:=OC s (Xw s1 m) }
          let keep:=base.hp.map (·.1)
          O.c (rec' body true lv (cleaned s1) fun e s'=>match Sm e,Ld P s' fn.results.toList with
            | true, _ | _, none => O.z "results"
            | false,some vs=>match ME P fn.resultTypes.toList vs&&Oa s' base.bx,Oc s' base.hp,GN s' keep [] rs ((vs.map (·.cs)).flatten) with
              | true,true,.ok (ls,used)=>match HD s' keep used sl with
                | .ok more=>O.a (ls++more)
                | .error e=>O.z e
              | true,true,.error e=>O.z e
              | _, _, _ => O.z "memory that a call does not know") fun c =>
            match KZ c 0 base.st rs with
            | (xs,hs)=>match G9 P fn.resultTypes.toList xs with
              | none => O.z "results"
              | some vs=>k (Ib vs) (BS c rs.length (base.st+hs.length) sl { base with hp:=hs++base.hp })
        | _, _ => O.z "a layout of a call"
def XL:Nat→Code→Bool→Lv→State O→(Ex→State O→O.M)→O.M
 | 0 => fun _ _ _ _ _ => O.z "too deep"
 | n+1=>X P cfg (eZ P cfg (XL n))
def Ae (give:Bool):Nat→List TypeId→List O.Lf→Option (List (AC O)×List (Nat×HEnt O)×List O.Lf)
 | _,[],ls=>some ([],[],ls)
 | q,t::ts,l::ls=>match AH P t,l with
  | .int k,.int i=>(Ae give q ts ls).map fun (cs,h,r)=>(.int k i::cs,h,r)
  | .bool,.bool b=>(Ae give q ts ls).map fun (cs,h,r)=>(.bool b::cs,h,r)
  | .str,.str s=>(Ae give q ts ls).map fun (cs,h,r)=>(.str s::cs,h,r)
  | .sl e,.rows l=>match give with
   | false=>(Ae give q ts ls).map fun (cs,h,r)=>(.imm e false l::cs,h,r)
   | true=>(Ae give (q+1) ts ls).map fun (cs,h,r)=>(.own e q::cs,(q,{ e,frozen:=false,nw:=false,l,dirty:=true })::h,r)
  | _,_=>none
 | _,_::_,[]=>none
def A1:List Bool→Nat→List TypeId→List Nat→List O.Lf→Option (List (AV O)×List (Nat×HEnt O))
 | _,_,[],[],[]=>some ([],[])
 | gv,q,t::ts,fns,ls=>match AH P t with
  | .fn=>match fns with
   | f::fns=>match mF P f with
    | some cts=>match EY cts ls with
     | some (caps,ls)=>(A1 gv.tail q ts fns ls).map fun (r,h)=>(one (.fn f caps)::r,h)
     | none=>none
    | none=>none
   | []=>none
  | _=>match AM P t with
   | none=>none
   | some l=>match Ae P (gv.headD false) q l ls with
    | none=>none
    | some (cs,h,ls)=>(A1 gv.tail (q+h.length) ts fns ls).map fun (r,hs)=>(.val { agg:=AR P t,cs }::r,h++hs)
 | _,_,[],_,_=>none
def QC {α:Type} (l:α):Except String (List α)→Except String (List α)
 | .ok ls=>.ok (l::ls)
 | .error e=>.error e
def Dr (s:State O) (own:Nat→Bool) (nw:Bool) (used:List Nat):List (AC O)→Except String (List O.Lf)
 | []=>.ok []
 | c::r=>match c with
  | .int _ i=>QC (.int i) (Dr s own nw used r)
  | .bool b=>QC (.bool b) (Dr s own nw used r)
  | .str x=>QC (.str x) (Dr s own nw used r)
  | .nil _=>QC (.rows O.y) (Dr s own nw used r)
  | .imm e n l=>match !own e&&(n || !nw) with
   | true=>QC (.rows l) (Dr s own nw used r)
   | false => .error "a result that is not fresh"
  | .own e id=>match s.getH id with
   | some h=>match (!own e || !h.frozen)&&(h.frozen || !CK id used)&&(h.nw || !nw) with
    | true=>QC (.rows h.l) (Dr s own nw (id::used) r)
    | false => .error "a result that is shared"
   | none => .error "a result that is gone"
  | _ => .error "a result that is no data"
def mO (own:Nat→Bool) (s:State O):State O:={ s with hp:=s.hp.map fun (n,h)=>(n,{ h with frozen:=h.frozen || !own h.e }) }
def nV (own:Nat→Bool) (nw:Bool) (fn:Func) (e:Ex) (s':State O):O.M:=match Sm e,Ld P s' fn.results.toList with
 | true, _ | _, none => O.z "results"
 | false,some rs=>match ME P fn.resultTypes.toList rs,Dr s' own nw [] ((rs.map (·.cs)).flatten) with
  | true,.ok ls=>O.a ls
  | true,.error e=>O.z e
  | false, _ => O.z "results of other kinds"
def eD (own:Nat→Bool) (nw:Bool) (fn:Func):Ex→State O→O.M:=fun e s0=>nV P own nw fn e (mO own s0)
def XF (own:Nat→Bool) (nw:Bool) (gives:List Bool) (f:FuncId) (fns:List Nat) (args:List O.Lf):O.M:=match P.funcs[f]? with
  | none => O.z "no such function"
  | some fn=>match fn.body,A1 P gives 1 fn.params.toList fns args with
    | some body,some (vs,hs)=>match Cf fn.ntmps body with
     | false => O.z "temporaries"
     | true =>
      let lv:Lv:={ nrm:=Nd fn.results.toList,ret:=Nd fn.results.toList,exts:=[] }
      XL P cfg 6 body true lv { tm:=Bf 0 vs .e,bx:=[],hp:=hs,st:=1+hs.length } (eD P own nw fn)
    | none, _ => O.z "no body"
    | _, none => O.z "parameters"
end
end Go.Px
