/- Part 1. -/
import GoSem.Step
set_option linter.unusedVariables false
set_option linter.unusedSimpArgs false
namespace Go.Px
theorem zzk (a b:Bool):((a&&b)=true)=(a=true∧b=true):=Bool.and_eq_true a b
theorem zzl {α:Type} {l:List α} {i:Nat} {a:α}:l.getD i a=l[i]?.getD a:=List.getD_eq_getElem?_getD
theorem zzm {α:Type} {a:α} {l:List α}:a∈a::l:=List.mem_cons_self
theorem zzn {α:Type} (y:α) {a:α} {l:List α}:a∈l→a∈y::l:=List.mem_cons_of_mem y
theorem zzo {α:Type} {l:List α} {i:Nat} (h:i<l.length):l[i]?=some l[i]:=List.getElem?_eq_getElem h
theorem zzp {α β:Type} {x:Option α} {f:α→β} {b:β}:x.map f=some b↔∃ a,x=some a∧f a=b:=Option.map_eq_some_iff
inductive Leaf (I B S L:Type) where
 | int (i:I)
 | bool (b:B)
 | str (s:S)
 | rows (l:L)
structure Alg where
 I:Type
 B:Type
 S:Type
 L:Type
 C:Type
 M:Type
 lit:IntKind→Int→I
 o:IntKind→I→I→I
 x:IntKind→I→I→I
 am:IntKind→I→I→I
 au:IntKind→I→I→I
 aq:IntKind→I→I→I
 ay:IntKind→I→I
 av:Nat→IntKind→I→I→I
 az:Bool→IntKind→I→I→I
 ba:I→S
 v:I→I→B
 n:I→I→B
 d:I→I→B
 k:B
 b:B
 h:B→B
 t:B→B→B
 ai:B→B→B
 af:B→I→I→I
 g:B→B→B→B
 bb:B→S→S→S
 bc:B→L→L→L
 q:ByteArray→S
 ap:S→S→B
 bd:S→S→B
 w:S→I
 be:S→I→I
 aw:S→I→I→S
 ah:S→S→S
 as:S→L
 y:L
 ae:List (List (Leaf I B S L))→L
 ad:L→L→L
 m:L→I
 ag:L→I→Nat→List (Leaf I B S L)→L
 aj:L→I→I→L
 ao:I→List (Leaf I B S L)→L
 s:L→I→Nat→I
 rB:L→I→Nat→B
 rS:L→I→Nat→S
 rL:L→I→Nat→L
 ax:Nat→L→List I→I
 bf:Nat→L→List I→I
 bg:Nat→L→List I→I→L
 bh:L→S
 bi:L→B
 i:C→Nat→I
 l:C→Nat→B
 cS:C→Nat→S
 r:C→Nat→L
 ac:C→Nat→B
 p:I→I→B
 ak:I→I→I→B
 u:I→Nat→B
 a:List (Leaf I B S L)→M
 z:String→M
 j:B→M→M
 c:B→M→M→M
 e:M→(C→M)→M
 f:Nat→List Nat→List (Leaf I B S L)→M
 aa:((List (Leaf I B S L)→M)→C→M)→List (Leaf I B S L)→M
abbrev Alg.Lf (O:Alg):Type:=Leaf O.I O.B O.S O.L
inductive Cap (O:Alg) where
 | box (b off:Nat)
 | row (e:TypeId) (l:O.L)
inductive AC (O:Alg) where
 | int (k:IntKind) (i:O.I)
 | bool (b:O.B)
 | str (s:O.S)
 | nil (e:TypeId)
 | imm (e:TypeId) (nw:Bool) (l:O.L)
 | own (e:TypeId) (id:Nat)
 | ptr (b off:Nat)
 | aptr (b off n sz:Nat) (i:O.I) (inner:Nat)
 | eptr (id:Nat) (i:O.I) (off:Nat)
 | iptr (e:TypeId) (nw:Bool) (l:O.L) (i:O.I) (off:Nat)
 | fn (f:FuncId) (caps:List (Cap O))
 | nilptr
 | tail (e:TypeId) (id:Nat) (i:O.I)
 | mp (e:TypeId) (id:Nat)
 | any (T:TypeId)
def Cap.ac {O:Alg}:Cap O→AC O
 | .box b off=>.ptr b off
 | .row e l=>.iptr e false l (O.lit .i64 0) 0
def Cap.box? {O:Alg}:Cap O→List Nat
 | .box b _=>[b]
 | .row _ _=>[]
def Dj {O:Alg}:List (Cap O)→List Nat
 | []=>[]
 | c::r=>c.box?++Dj r
structure Val (O:Alg) where
 agg:Bool
 cs:List (AC O)
inductive AV (O:Alg) where
 | val (v:Val O)
 | tup (vs:List (Val O))
structure TV (O:Alg) where
 gs:List (Nat×Bool)
 v:AV O
structure BEnt (O:Alg) where
 cs:List (AC O)
 dirty:Bool
structure HEnt (O:Alg) where
 e:TypeId
 frozen:Bool
 nw:Bool
 l:O.L
 dirty:Bool
inductive TM (α:Type) where
 | e
 | leaf (a:α)
 | node (l r:TM α)
def TM.get {α:Type}:Nat→TM α→Nat→Option α
 | 0,.leaf a,_=>some a
 | d+1,.node l r,k=>match Nat.beq (k % 2) 0 with
  | true=>TM.get d l (k / 2)
  | false=>TM.get d r (k / 2)
 | _,_,_=>none
def TM.kids {α:Type}:TM α→TM α×TM α
 | .node l r=>(l,r)
 | _=>(.e,.e)
def TM.set {α:Type}:Nat→TM α→Nat→Option α→TM α
 | 0,_,_,some a=>.leaf a
 | 0,_,_,none=>.e
 | d+1,t,k,a=>match t.kids with
  | (l,r)=>match Nat.beq (k % 2) 0 with
   | true=>.node (TM.set d l (k / 2) a) r
   | false=>.node l (TM.set d r (k / 2) a)
def AJ {α:Type}:List (Nat×α)→Nat→Option α
 | [],_=>none
 | (j,a)::l,k=>match Nat.beq j k with
  | true=>some a
  | false=>AJ l k
def Ng {α:Type}:List (Nat×α)→Nat→List (Nat×α)
 | [],_=>[]
 | (j,a)::l,k=>match Nat.beq j k with
  | true=>Ng l k
  | false=>(j,a)::Ng l k
def GN {α:Type} (l:List (Nat×α)) (k:Nat):Option α→List (Nat×α)
 | some a=>(k,a)::Ng l k
 | none=>Ng l k
def HW:Nat:=9
structure State (O:Alg) where
 tm:TM (TV O)
 bx:List (Nat×BEnt O)
 hp:List (Nat×HEnt O)
 st:Nat
def CA:Nat:=512
def Bn {α:Type} (t:TM α) (n:Nat):Option α:=match Nat.blt n CA with
 | true=>TM.get HW t n
 | false=>none
def Cv {α:Type} (t:TM α) (n:Nat) (v:Option α):TM α:=match Nat.blt n CA with
 | true=>TM.set HW t n v
 | false=>t
def State.getT {O:Alg} (s:State O) (n:Nat):Option (TV O):=Bn s.tm n
def State.getB {O:Alg} (s:State O) (n:Nat):Option (BEnt O):=AJ s.bx n
def State.getH {O:Alg} (s:State O) (n:Nat):Option (HEnt O):=AJ s.hp n
structure Wr (O:Alg) where
 ts:List (Nat×Option (TV O)):=[]
 bs:List (Nat×Option (BEnt O)):=[]
 hs:List (Nat×Option (HEnt O)):=[]
def State.applyT {O:Alg} (t:TM (TV O)):List (Nat×Option (TV O))→TM (TV O)
 | []=>t
 | (n,v)::r=>State.applyT (Cv t n v) r
def Ak {α:Type} (t:List (Nat×α)):List (Nat×Option α)→List (Nat×α)
 | []=>t
 | (n,v)::r=>Ak (GN t n v) r
def State.apply {O:Alg} (s:State O) (w:Wr O):State O :=
 { tm:=State.applyT s.tm w.ts,bx:=Ak s.bx w.bs,hp:=Ak s.hp w.hs,st:=s.st }
def BX (k:Nat):Nat:=2 ^ k
def Jf (f:Nat→Nat) {α:Type}:List (Nat×α)→Nat
 | []=>0
 | (n,_)::r=>BX (f n) ||| Jf f r
def Wr.mask {O:Alg} (w:Wr O):Nat :=
 Jf (fun n=>3 * n) w.ts ||| Jf (fun n=>3 * n+1) w.bs ||| Jf (fun n=>3 * n+2) w.hs
inductive RM (O:Alg) (α:Type) where
 | ret (a:α)
 | fail (w:String)
 | t (n:Nat) (f:Option (TV O)→RM O α)
 | b (n:Nat) (f:Option (BEnt O)→RM O α)
 | h (n:Nat) (f:Option (HEnt O)→RM O α)
def RM.bind {O:Alg} {α β:Type}:RM O α→(α→RM O β)→RM O β
 | .ret a,f=>f a
 | .fail w,_=>.fail w
 | .t n g,f=>.t n fun v=>(g v).bind f
 | .b n g,f=>.b n fun v=>(g v).bind f
 | .h n g,f=>.h n fun v=>(g v).bind f
instance {O:Alg}:Monad (RM O) where
 pure:=RM.ret
 bind:=RM.bind
def RM.run {O:Alg} {α:Type} (s:State O):RM O α→Nat→Except String (α×Nat)
 | .ret a,m=>.ok (a,m)
 | .fail w,_=>.error w
 | .t n g,m=>RM.run s (g (s.getT n)) (m ||| BX (3 * n))
 | .b n g,m=>RM.run s (g (s.getB n)) (m ||| BX (3 * n+1))
 | .h n g,m=>RM.run s (g (s.getH n)) (m ||| BX (3 * n+2))
def RM.ofOpt {O:Alg} {α:Type} (w:String):Option α→RM O α
 | some a=>.ret a
 | none=>.fail w
def RM.guard {O:Alg} (b:Bool) (w:String):RM O Unit:=match b with
 | true=>.ret ()
 | false=>.fail w
inductive LK where
 | int (k:IntKind) | bool | str | sl (e:TypeId) | ptr | fn | other
def KK:IntKind→IntKind→Bool
 | .i8,.i8 | .i16,.i16 | .i32,.i32 | .i64,.i64 | .u8,.u8 | .u16,.u16 | .u32,.u32 | .u64,.u64=>true
 | _,_=>false
def AG (P:Program) (t:TypeId):LK:=match P.underlying t with
 | some (.int k)=>.int k
 | some .bool=>.bool
 | some .string=>.str
 | some (.slice e)=>.sl e
 | some (.pointer _)=>.ptr
 | some (.func _ _ _)=>.fn
 | _=>.other
def CN {α:Type}:Nat→List α→List α
 | 0,_=>[]
 | n+1,l=>l++CN n l
def Gl {α:Type}:List (Option (List α))→Option (List α)
 | []=>some []
 | none::_=>none
 | some a::r=>match Gl r with
  | some b=>some (a++b)
  | none=>none
def A4 (P:Program):Nat→TypeId→Option (List TypeId)
 | 0,_=>none
 | n+1,t=>match P.underlying t with
  | some (.struct fs)=>Gl (fs.toList.map fun f=>A4 P n f.type)
  | some (.array k e)=>(A4 P n e).map (CN k)
  | some (.tuple _) | some .invalid | some (.named _ _) | none=>none
  | some _=>some [t]
def Bh:Nat:=20
def AM (P:Program) (t:TypeId):Option (List TypeId):=match A4 P Bh t with
 | some l=>match Nat.beq l.length (P.cellsOf t)&&Nat.blt 0 l.length with
  | true=>some l
  | false=>none
 | none=>none
def AN (P:Program) (t:TypeId):Bool:=match P.underlying t with
 | some (.struct _) | some (.array _ _)=>true
 | _=>false
def JP (P:Program) (t:TypeId):Option TypeId:=match P.underlying t with
 | some (.slice e)=>some e
 | _=>none
def F3 (P:Program):Nat→List Field→Bool
 | _,[]=>true
 | off, f :: fs => match Nat.beq f.offset off && (f.name != "_"), P.underlying f.type with
  | true,some (.int .i64)=>F3 P (off+1) fs
  | _,_=>false
def Nh (P:Program) (K:TypeId) (n:Nat):Bool:=match P.underlying K with
 | some (.struct fs)=>F3 P 0 fs.toList&&Nat.beq fs.toList.length n && !P.stoodInHeld K
 | _=>false
def GF (P:Program) (T:TypeId) (n:Nat):Bool:=match P.underlying T with
 | some (.map K V)=>Nh P K n&&(match P.underlying V with | some (.int .i64)=>true | _=>false)&&(match P.info? V with
  | some i=>(match i.zero with | some (.int .i64 z)=>z==0 | _=>false)
  | none=>false)
 | _=>false
def noSl (P:Program) (T:TypeId):Bool:=P.types.toList.all fun i=>match i.desc with
 | .slice e => !Nat.beq e T
 | _=>true
def Bp (P:Program) (n:Nat):TypeId:=P.types.size+2+n
def EF (P:Program) (T:TypeId):TypeId×TypeId:=match P.underlying T with
 | some (.map K V)=>(K,V)
 | _=>(T,T)
def A6:List Nat→List Nat→Bool
 | [],[]=>true
 | a::l,b::r=>match Nat.beq a b with
  | true=>A6 l r
  | false=>false
 | _,_=>false
def BZ (n:Nat):List Nat→Bool
 | []=>false
 | m::l=>match Nat.beq n m with
  | true=>true
  | false=>BZ n l
def L2 (P:Program) (e:TypeId) (off:Nat) (t:TypeId):Option (List TypeId) :=
 match AM P e,AM P t with
 | some l,some r=>match A6 ((l.drop off).take r.length) r with
  | true=>some r
  | false=>none
 | _,_=>none
section
variable {O:Alg} (P:Program)
def Ls (t:TypeId) (v:Value):Option (AC O):=match AG P t,v with
 | .int k,.int k' n=>match KK k k' with
  | true=>some (.int k (O.lit k n))
  | false=>none
 | .bool,.bool b=>some (.bool (match b with | true=>O.k | false=>O.b))
 | .str,.string s=>some (.str (O.q s))
 | .sl e,.slice none 0 0=>match AM P e with
  | some _=>some (.nil e)
  | none=>none
 | .ptr,.pointer none=>some .nilptr
 | _,_=>none
def Ep:List TypeId→List Value→Option (List (AC O))
 | [],[]=>some []
 | t::ts,v::vs=>match Ls P t v,Ep ts vs with
  | some a,some r=>some (a::r)
  | _,_=>none
 | _,_=>none
def H7 (t:TypeId) (v:Value):Option (Val O):=match v with
 | .agg cs=>match AM P t with
  | some ts=>match Ep P ts cs.toList with
   | some l=>some { agg:=true,cs:=l }
   | none=>none
  | none=>none
 | v=>match Ls P t v with
  | some c=>some { agg:=false,cs:=[c] }
  | none=>none
def Gt (t:TypeId):Option (Val O):=match P.info? t with
 | some i=>match i.zero with
  | some v=>H7 P t v
  | none=>none
 | none=>none
def HN (nw:Bool) (l:O.L) (i:O.I):Nat→List TypeId→Option (List (AC O))
 | _,[]=>some []
 | j,t::ts=>match HN nw l i (j+1) ts with
  | none=>none
  | some r=>match AG P t with
   | .int k=>some (.int k (O.s l i j)::r)
   | .bool=>some (.bool (O.rB l i j)::r)
   | .str=>some (.str (O.rS l i j)::r)
   | .sl e=>some (.imm e nw (O.rL l i j)::r)
   | _=>none
def AW (own:Nat→Bool) (nw:Bool) (c:O.C):Nat→Nat→List TypeId→Option (List (AC O)×List (Nat×HEnt O))
 | _,_,[]=>some ([],[])
 | j,q,t::ts=>match AG P t with
  | .int k=>(AW own nw c (j+1) q ts).map fun (r,h)=>(.int k (O.i c j)::r,h)
  | .bool=>(AW own nw c (j+1) q ts).map fun (r,h)=>(.bool (O.l c j)::r,h)
  | .str=>(AW own nw c (j+1) q ts).map fun (r,h)=>(.str (O.cS c j)::r,h)
  | .sl e=>match own e with
   | true=>(AW own nw c (j+1) (q+1) ts).map fun (r,h)=>(.own e q::r,(q,{ e,frozen:=false,nw,l:=O.r c j,dirty:=true })::h)
   | false=>(AW own nw c (j+1) q ts).map fun (r,h)=>(.imm e nw (O.r c j)::r,h)
  | _=>none
def bz:List TypeId→Option (List O.Lf)
 | []=>some []
 | t::ts=>match bz ts with
  | none=>none
  | some r=>match AG P t with
   | .int k=>some (.int (O.lit k 0)::r)
   | .bool=>some (.bool O.b::r)
   | .str=>some (.str (O.q ByteArray.empty)::r)
   | .sl _=>some (.rows O.y::r)
   | _=>none
end
def NJ:List (Nat×Bool)→List (Nat×Bool)→Bool
 | [],_=>true
 | (n,b)::r,ctx=>match ctx.any (fun (m,c)=>Nat.beq n m&&(b==c)) with
  | true=>NJ r ctx
  | false=>false
inductive StepRes (O:Alg) where
 | plain (as:List O.B) (w:Wr O)
 | call (g:Option O.B) (f:FuncId) (fns:List Nat) (args:List O.Lf) (dflt:List O.Lf) (next:O.C→Option (Wr O))
 | inl (f:FuncId) (args:List (AV O))
 | inlg (g:O.B) (f:FuncId) (args:List (AV O)) (w:Wr O)
structure CI where
 f:FuncId
 fns:List Nat
 own:Bool
 nw:Bool
 gives:List Bool:=[]
 sk:List Nat:=[]
def CI.ow (ci:CI) (e:Nat):Bool:=ci.own && !BZ e ci.sk
structure Bld where
 f:FuncId
 k:Nat
 T:TypeId
 u:TypeId
structure Cfg where
 gam:List CI
 imm:Bool:=false
 old:Bool:=false
 ie:List Nat:=[]
 bld:List Bld:=[]
 stop:List Nat:=[]
def TA:List Bld→Nat→Option Bld
 | [],_=>none
 | b::l,f=>match Nat.beq b.f f with
  | true=>some b
  | false=>TA l f
def Mj:List CI→Nat→List Nat→Option CI
 | [],_,_=>none
 | c::l,f,fns=>match Nat.beq c.f f&&A6 c.fns fns with
  | true=>some c
  | false=>Mj l f fns
section
variable {O:Alg} (P:Program) (cfg:Cfg)
def one (c:AC O):AV O:=.val { agg:=false,cs:=[c] }
def ev (ctx:List (Nat×Bool)) (T:TypeId):Operand→RM O (AV O)
 | .tmp n=>.t n fun
  | some tv=>match NJ tv.gs ctx with
   | true=>.ret tv.v
   | false => .fail "a guarded temporary"
  | none => .fail "no such temporary"
 | .const v=>match H7 P T v with
  | some v=>.ret (.val v)
  | none => .fail "a constant"
 | .func f=>.ret (one (.fn f []))
 | .global _ => .fail "a global"
def evV (ctx:List (Nat×Bool)) (T:TypeId) (x:Operand):RM O (Val O):=(ev P ctx T x).bind fun
 | .val v=>.ret v
 | .tup _ => .fail "a tuple"
def evC (ctx:List (Nat×Bool)) (T:TypeId) (x:Operand):RM O (AC O):=(evV P ctx T x).bind fun v =>
 match v.agg,v.cs with
 | false,[c]=>.ret c
 | _, _ => .fail "not one cell"
def evI (ctx:List (Nat×Bool)):Operand→RM O (O.I)
 | .const (.int k n)=>.ret (O.lit k n)
 | .tmp n=>.t n fun
  | some tv=>match NJ tv.gs ctx,tv.v with
   | true,.val ⟨false,[.int _ i]⟩=>.ret i
   | _, _ => .fail "no integer"
  | none => .fail "no such temporary"
 | _ => .fail "no integer"
def MX:List (Nat×Bool)→RM O (Option O.B)
 | []=>.ret none
 | (n,want)::r=>.t n fun
  | some ⟨_,.val ⟨false,[.bool b]⟩⟩=>(MX r).bind fun g =>
   let c:=match want with | true=>b | false=>O.h b
   .ret (some (match g with | none=>c | some g=>O.t g c))
  | _ => .fail "no guard"
def LH (ops:List Oper) (o:Oper):RM O (List (Nat×Bool)):=match o.guard with
 | none=>.ret []
 | some (j,want)=>match (ops[j]?).bind (·.dst) with
  | some d=>.t d fun
   | some tv=>.ret ((d,want)::tv.gs)
   | none => .fail "no such guard"
  | none => .fail "a guard without a value"
def UN (g:Option O.B) (a:O.B):O.B:=match g with
 | none=>a
 | some g=>O.h (O.t g (O.h a))
def TG (b:O.B):AC O→AC O→Option (AC O)
 | .int k x,.int k' y=>match KK k k' with
  | true=>some (.int k (O.af b x y))
  | false=>none
 | .bool x,.bool y=>some (.bool (O.g b x y))
 | .str x,.str y=>some (.str (O.bb b x y))
 | .imm e nw x,.imm e' nw' y=>match Nat.beq e e' with
  | true=>some (.imm e (nw&&nw') (O.bc b x y))
  | false=>none
 | _,_=>none
def Bd (b:O.B):List (AC O)→List (AC O)→Option (List (AC O))
 | [],[]=>some []
 | x::xs,y::ys=>match TG b x y,Bd b xs ys with
  | some c,some r=>some (c::r)
  | _,_=>none
 | _,_=>none
def dk (op:BinOp) (a b:O.I):Option O.B:=match op with
 | .eql=>some (O.d a b)
 | .neq=>some (O.h (O.d a b))
 | .lss=>some (O.n a b)
 | .leq=>some (O.v a b)
 | .gtr=>some (O.n b a)
 | .geq=>some (O.v b a)
 | _=>none
def eqC:AC O→AC O→Option O.B
 | .int k a,.int k' b=>match KK k k' with
  | true=>some (O.d a b)
  | false=>none
 | .bool a,.bool b=>some (O.ai a b)
 | .str a,.str b=>some (O.ap a b)
 | _,_=>none
def ET:List (AC O)→List (AC O)→Option O.B
 | [],[]=>some O.k
 | [x],[y]=>eqC x y
 | x::xs,y::ys=>match eqC x y,ET xs ys with
  | some a,some r=>some (O.t a r)
  | _,_=>none
 | _,_=>none
def L7:LK→AC O→Bool
 | .int k,.int k' _=>KK k k'
 | .bool,.bool _=>true
 | .str,.str _=>true
 | _,_=>false
def A5:List TypeId→List (AC O)→Bool
 | [],[]=>true
 | t::ts,c::cs=>match L7 (AG P t) c with
  | true=>A5 ts cs
  | false=>false
 | _,_=>false
def M0:Nat→List Field→Bool
 | _,[]=>true
 | off, f :: fs => match Nat.beq f.offset off && (f.name != "_") with
  | true=>M0 (off+P.cellsOf f.type) fs
  | false=>false
def H9:Option (List Nat)→Option (List Nat)→Bool
 | some a,some b=>A6 a b
 | _,_=>false
def NO:Nat→TypeId→Bool
 | 0,_=>false
 | n+1,t=>match P.underlying t with
  | some .bool | some (.int _) | some .string=>H9 (AM P t) (some [t])
  | some (.struct fs) => !P.stoodInHeld t&&M0 P 0 fs.toList&&fs.toList.all (fun f=>NO n f.type)&&H9 (AM P t) (Gl (fs.toList.map fun f=>AM P f.type))
  | some (.array k e)=>NO n e&&H9 (AM P t) ((AM P e).map (CN k))
  | _=>false
def Dd:Operand→Bool
 | .const (.int _ n) => !(n==0)
 | _=>false
def Uk:AC O→RM O (O.Lf×List (Nat×Option (HEnt O))×Bool)
 | .int _ i=>.ret (.int i,[],true)
 | .bool b=>.ret (.bool b,[],true)
 | .str s=>.ret (.str s,[],true)
 | .nil _=>.ret (.rows O.y,[],true)
 | .imm _ nw l=>.ret (.rows l,[],nw)
 | .own _ id=>.h id fun
  | some h=>.ret (.rows h.l,[(id,some { h with frozen:=true,dirty:=true })],h.nw)
  | none => .fail "a slice that is gone"
 | _ => .fail "no data"
def Et:List (AC O)→RM O (List O.Lf×List (Nat×Option (HEnt O))×Bool)
 | []=>.ret ([],[],true)
 | c::r=>(Uk c).bind fun (a,h,n)=>(Et r).bind fun (as,hs,ns)=>.ret (a::as,h++hs,n&&ns)
def Bs {α:Type}:List α→Nat→List α→Option (List α)
 | l,_,[]=>some l
 | [],_,_::_=>none
 | x::l,0,y::ys=>(Bs l 0 ys).map (y::·)
 | x::l,n+1,ys=>(Bs l n ys).map (x::·)
def C0 {α:Type} (l:List α) (off n:Nat):Option (List α) :=
 let r:=(l.drop off).take n
 match Nat.beq r.length n with
 | true=>some r
 | false=>none
def JK (f:Nat→Option (List (AC O))) (i:O.I):Nat→Option (List (AC O))
 | 0=>f 0
 | k+1=>match JK f i k,f (k+1) with
  | some r,some c=>Bd (O.d i (O.lit .i64 ((k+1:Nat):Int))) c r
  | _,_=>none
def XE (off sz inner:Nat) (i:O.I) (v:List (AC O)):Nat→List (AC O)→Option (List (AC O))
 | 0,cs=>some cs
 | k+1,cs=>match C0 cs (off+k * sz+inner) v.length with
  | none=>none
  | some old=>match Bd (O.d i (O.lit .i64 (k:Int))) v old with
   | none=>none
   | some new=>match Bs cs (off+k * sz+inner) new with
    | none=>none
    | some cs=>XE off sz inner i v k cs
def WJ (T:TypeId):AC O→RM O (List (AC O))
 | .ptr b off=>.b b fun
  | some e => RM.ofOpt "load" (C0 e.cs off (P.cellsOf T))
  | none => .fail "no such variable"
 | .aptr b off n sz i inner=>.b b fun
  | some e =>
   match n with
   | 0 => .fail "an array of no elements"
   | n + 1 => RM.ofOpt "load of an element" (JK (fun k => C0 e.cs (off + k * sz + inner) (P.cellsOf T)) i n)
  | none => .fail "no such variable"
 | .eptr id i off=>.h id fun
  | some h=>match L2 P h.e off T with
   | some ts => RM.ofOpt "load of a row" (HN P h.nw h.l i off ts)
   | none => .fail "a row of another type"
  | none => .fail "a slice that is gone"
 | .iptr e nw l i off=>match L2 P e off T with
  | some ts => RM.ofOpt "load of a row" (HN P nw l i off ts)
  | none => .fail "a row of another type"
 | _ => .fail "load no address"
def PU:AC O→RM O (TypeId×O.L×Bool)
 | .nil e=>.ret (e,O.y,true)
 | .imm e nw l=>.ret (e,l,nw)
 | .own _ id=>.h id fun
  | some h=>.ret (h.e,h.l,h.nw)
  | none => .fail "a slice that is gone"
 | _ => .fail "no slice"
def F2 (T:TypeId) (f:Nat):Option Field:=match P.underlying T with
 | some (.struct fs)=>fs.toList[f]?
 | _=>none
def CB (n:Nat):AC O→Option (AC O)
 | .ptr b off=>some (.ptr b (off+n))
 | .aptr b off m sz i inner=>some (.aptr b off m sz i (inner+n))
 | .eptr id i off=>some (.eptr id i (off+n))
 | .iptr e nw l i off=>some (.iptr e nw l i (off+n))
 | _=>none
def QY (place:Nat→Option (Nat×TypeId)) (ctx:List (Nat×Bool)):List (Nat×Operand)→List (AC O)→RM O (List (AC O))
 | [],cs=>.ret cs
 | (i,x)::r,cs=>match place i with
  | none => .fail "no such part"
  | some (off, T) => (evV P ctx T x).bind fun v => (RM.guard (Nat.beq v.cs.length (P.cellsOf T) && Nat.blt 0 v.cs.length) "a part of another size").bind fun _ =>
   match Bs cs off v.cs with
   | some cs=>QY place ctx r cs
   | none => .fail "a part that does not fit"
def D0 {α:Type} (n:Nat):Nat→List α→List (List α)
 | 0,_=>[]
 | k+1,l=>l.take n::D0 n k (l.drop n)
def Wn:List (List (AC O))→RM O (List (List O.Lf)×List (Nat×Option (HEnt O))×Bool)
 | []=>.ret ([],[],true)
 | c::r=>(Et c).bind fun (a,h,n)=>(Wn r).bind fun (as,hs,ns)=>.ret (a::as,h++hs,n&&ns)
def PB (lt:O.I→O.I→O.B):AC O→List (AC O)→Option (AC O)
 | c,[]=>some c
 | .int k x,.int k' y::r=>match KK k k' with
  | true=>PB lt (.int k (O.af (lt y x) y x)) r
  | false=>none
 | _,_=>none
def Y9 (ctx:List (Nat×Bool)) (T:TypeId):List Operand→RM O (List (AC O))
 | []=>.ret []
 | x::r=>(evC P ctx T x).bind fun c=>(Y9 ctx T r).bind fun l=>.ret (c::l)
def Rw:AC O→Bool
 | .int _ _ | .bool _ | .str _ | .nil _=>true
 | _=>false
def Au:LK→AC O→Bool
 | .int k,.int k' _=>KK k k'
 | .bool,.bool _=>true
 | .str,.str _=>true
 | .sl e,.nil e'=>Nat.beq e e'
 | .sl e,.imm e' _ _=>Nat.beq e e'
 | .sl e,.own e' _=>Nat.beq e e'
 | _,_=>false
def AQ:List TypeId→List (AC O)→Bool
 | [],[]=>true
 | t::ts,c::cs=>match Au (AG P t) c with
  | true=>AQ ts cs
  | false=>false
 | _,_=>false
def EX (ts:List TypeId):List (List (AC O))→Bool
 | []=>true
 | r::rs=>match AQ P ts r with
  | true=>EX ts rs
  | false=>false
def ST:Operand→Operand→Bool
 | .tmp a,.tmp b=>Nat.beq a b
 | .const (.int _ a),.const (.int _ b)=>decide (a=b)
 | _,_=>false
def Kb:List (AC O)→Bool
 | []=>true
 | .any _::_=>false
 | _::r=>Kb r
def TB (T:TypeId):List (AC O)→List (AC O)
 | [.nilptr,.nil e]=>[.any T,.nil e]
 | cs=>cs
def YG (T:TypeId) (v:List (AC O)):AC O→RM O (Wr O)
  | .ptr b off=>.b b fun
    | some e => (RM.guard (Nat.beq v.length (P.cellsOf T) && Nat.blt 0 v.length) "store size").bind fun _ =>
      (RM.ofOpt "store" (Bs e.cs off v)).bind fun cs => (RM.guard (Kb cs) "store").bind fun _ => .ret { bs := [(b, some { cs, dirty := true })] }
    | none => .fail "no such variable"
  | .aptr b off n sz i inner=>.b b fun
    | some e =>
      (RM.guard (Nat.beq v.length (P.cellsOf T) && Nat.blt 0 v.length) "store size").bind fun _ =>
      (RM.ofOpt "store of an element" (XE off sz inner i v n e.cs)).bind fun cs => (RM.guard (Kb cs) "store").bind fun _ => .ret { bs := [(b, some { cs, dirty := true })] }
    | none => .fail "no such variable"
  | .eptr id i off=>.h id fun
    | some h => (RM.guard (!h.frozen) "a store into a shared slice").bind fun _ =>
      match L2 P h.e off T with
      | some ts => (RM.guard (Nat.beq v.length ts.length && Nat.beq v.length (P.cellsOf T)) "store size").bind fun _ =>
        (Et v).bind fun (ls, fr, nw) => (RM.guard (AQ P ts v && !BZ id (fr.map (·.1))) "store kinds").bind fun _ =>
          .ret { hs:=fr++[(id,some { h with l:=O.ag h.l i off ls,nw:=h.nw&&nw,dirty:=true })] }
      | none => .fail "a row of another type"
    | none => .fail "a slice that is gone"
  | _ => .fail "store no address"
def XP (ctx:List (Nat×Bool)):List Operand→RM O (List (Cap O))
 | []=>.ret []
 | x::r=>(evC P ctx 0 x).bind fun
  | .ptr b off=>(XP ctx r).bind fun l=>.ret (.box b off::l)
  | _ => .fail "makeFunc captured"
def NQ (ctx:List (Nat×Bool)):List TypeId→List Operand→RM O (List (AV O))
 | [],[]=>.ret []
 | t::ts,x::xs=>(ev P ctx t x).bind fun v=>(NQ ctx ts xs).bind fun r=>.ret (v::r)
 | _, _ => .fail "arguments"
def Mk (used:List Nat):List (AC O)→RM O (List O.Lf×List Nat)
 | []=>.ret ([],used)
 | .own _ id::r=>.h id fun
  | some h=>match !h.frozen && !BZ id used with
   | true=>(Mk (id::used) r).bind fun (ls,u)=>.ret (.rows h.l::ls,u)
   | false => .fail "a slice that cannot be handed over"
  | none => .fail "a slice that is gone"
 | .imm _ _ _ :: _ => .fail "a shared slice cannot be handed over"
 | c::r=>(Uk c).bind fun (l,_,_)=>(Mk used r).bind fun (ls,u)=>.ret (l::ls,u)
def Zo:AC O→Bool
 | .ptr .. | .aptr .. | .eptr .. | .iptr .. | .fn .. | .nilptr | .tail .. | .any ..=>false
 | _=>true
def Dx:List (AV O)→Option (List Nat)
 | []=>some []
 | .val ⟨false,[.fn f _]⟩::r=>(Dx r).map (f::·)
 | .val v::r=>match v.cs.all Zo with
  | true=>Dx r
  | false=>none
 | .tup _::_=>none
def Ul (n:Nat):List Oper→Option TypeId
 | []=>none
 | o::r=>match o.op with
  | .load T (.tmp m)=>match Nat.beq m n with
   | true=>some T
   | false=>Ul n r
  | _=>Ul n r
def orT:Option TypeId→Option TypeId→Option TypeId
 | some t,_=>some t
 | none,x=>x
def TU (n:Nat):Code→Option TypeId
 | .region _ ops _=>Ul n ops.toList
 | .seq a b | .cond _ a b=>orT (TU n a) (TU n b)
 | .block _ b | .loop b | .scope b=>TU n b
 | _=>none
def X9 (b:Code):Nat→Nat→Option (List TypeId)
 | _,0=>some []
 | n,k+1=>match TU n b,X9 b (n+1) k with
  | some t,some r=>some (t::r)
  | _,_=>none
def Y8 (P:Program) (f:FuncId):Option (List TypeId):=match P.funcs[f]? with
 | some fn=>match fn.nfree with
  | 0=>some []
  | k+1=>match fn.body with
   | some b=>X9 b fn.params.size (k+1)
   | none=>none
 | none=>none
def XK (T:TypeId):Nat→List TypeInfo→Option TypeId
 | _,[]=>none
 | i,x::r=>match x.desc with
  | .slice e=>match Nat.beq e T with
   | true=>some i
   | false=>XK T (i+1) r
  | _=>XK T (i+1) r
def ZU (P:Program) (T:TypeId):Bool:=match XK T 0 P.types.toList with
 | some t=>(match AG P t with | .sl e=>Nat.beq e T | _=>false)
 | none=>false
def Uh:AC O→Bool
 | .int _ _ | .bool _ | .str _=>true
 | _=>false
def WQ:List TypeId→List (Cap O)→RM O (List O.Lf)
  | [],[]=>.ret []
  | T::ts,.box b off::r=>.b b fun
    | some e=>match AM P T,C0 e.cs off (P.cellsOf T) with
      | some l, some cs => (RM.guard (AQ P l cs && cs.all Uh && ZU P T) "a variable that is taken along").bind fun _ =>
        (Et cs).bind fun (ls,_,_)=>(WQ ts r).bind fun more=>.ret (.rows (O.ae [ls])::more)
      | _, _ => .fail "a variable that is taken along"
    | none => .fail "no such variable"
  | _, _ => .fail "what is taken along"
def Cq:List TypeId→List O.Lf→Option (List (Cap O)×List O.Lf)
 | [],ls=>some ([],ls)
 | t::ts,.rows l::ls=>(Cq ts ls).map fun (c,r)=>(.row t l::c,r)
 | _::_,_=>none
def FW:List Bool→List Nat→List (AV O)→RM O (List O.Lf×List (Nat×Option (HEnt O))×List Nat)
 | _,used,[]=>.ret ([],[],used)
 | gv, used, .val ⟨false, [.fn f caps]⟩ :: r => (RM.ofOpt "what is taken along" (Y8 P f)).bind fun ts => (WQ P ts caps).bind fun cl => (FW gv.tail used r).bind fun (ls', fr', u') => .ret (cl ++ ls', fr', u')
 | gv,used,.val v::r=>match gv.headD false with
  | true=>(Mk used v.cs).bind fun (ls,u)=>(FW gv.tail u r).bind fun (ls',fr,u')=>.ret (ls++ls',fr,u')
  | false=>(Et v.cs).bind fun (ls,fr,_)=>(FW gv.tail used r).bind fun (ls',fr',u')=>.ret (ls++ls',fr++fr',u')
 | _, _, .tup _ :: _ => .fail "arguments"
def S8 (used:List Nat):List (Nat×Option (HEnt O))→Bool
 | []=>true
 | (n,_)::r => !BZ n used&&S8 used r
def Aq (own:Nat→Bool) (nw:Bool) (c:O.C):Nat→Nat→List TypeId→Option (List (Val O)×List (Nat×HEnt O))
 | _,_,[]=>some ([],[])
 | j,q,t::ts=>match AM P t with
  | none=>none
  | some l=>match AW P own nw c j q l with
   | none=>none
   | some (cs,h)=>match Aq own nw c (j+l.length) (q+h.length) ts with
    | none=>none
    | some (vs,hs)=>some ({ agg:=AN P t,cs }::vs,h++hs)
def EO:List (Val O)→AV O
 | [v]=>.val v
 | vs=>.tup vs
def EK (P:Program):List TypeId→Option (List TypeId)
 | []=>some []
 | t::ts=>match AM P t,EK P ts with
  | some a,some r=>some (a++r)
  | _,_=>none
def Qc (P:Program):List TypeId→Nat
 | []=>0
 | t::ts=>(match AG P t with | .sl _=>1 | _=>0)+Qc P ts
def Tt (P:Program) (e:TypeId):Bool:=match AM P e with
 | some l=>Nat.beq (Qc P l) 0
 | none=>false
def Aw (P:Program) (o:Oper):Nat:=match o.op with
 | .call c=>match c.callee with
  | .builtin _=>1
  | _=>16
 | .alloc _ | .box _ _ | .buildSlice _ _ _ | .makeSlice _ _ _ | .convert _ _ _ | .slice _ _ _ _ _=>1
 | .makeMap _ _ | .mapUpdate _ _ _ _ | .lookup _ _ _ _ | .mapEntry _ _ _ | .entryStore _ _ _ _=>1
 | _=>0
def DP:List TypeId→List (AV O)→Bool
 | [],[]=>true
 | t::ts,v::vs=>(match AG P t,v with
  | .fn,.val ⟨false,[.fn _ _]⟩=>true
  | .fn,_=>false
  | _,.val ⟨false,[.fn _ _]⟩=>false
  | _,.val v=>match AM P t with
   | some l=>v.agg==AN P t&&AQ P l v.cs
   | none=>false
  | _,.tup _=>false)&&DP ts vs
 | _,_=>false
def Jy:List (AV O)→Bool
 | []=>true
 | .val ⟨false,[.fn _ (_::_)]⟩::_=>false
 | _::r=>Jy r
def bq {α:Type} (g:Option α) (b:Nat→Bool):Nat→Bool:=match g with
 | none=>b
 | some _=>fun _=>false
def Wh (ctx:List (Nat×Bool)) (g:Option O.B) (id:Nat) (d:Option Nat) (ci:CI) (fn:Func) (fr:List (Nat×Option (HEnt O))) (u:List Nat):O.C→Option (Wr O):=fun c =>
 match Aq P (bq g ci.ow) ci.nw c 0 id fn.resultTypes.toList with
  | none=>none
  | some (vs,nh)=>match Nat.ble nh.length 16 with
   | true=>some { ts:=match d with | some d=>[(d,some ⟨ctx,EO vs⟩)] | none=>[],hs:=(match ci.nw with | true=>[] | false=>fr)++(u.map (fun n=>(n,none))++nh.map fun (n,h)=>(n,some h)) }
   | false=>none
def TO (gives:List Bool):Bool:=Nat.blt 8 gives.length
def QU (gives:List Bool) (used:List Nat) (fr:List (Nat×Option (HEnt O))):Bool:=S8 used fr&&(!TO gives||used.isEmpty)
def U7 (ctx:List (Nat×Bool)) (g:Option O.B) (d:Option Nat) (f:FuncId) (args:List (AV O)):RM O (StepRes O):=match BZ f cfg.stop with
 | true => .fail "a function that is not entered"
 | false=>match g,ctx,d with
  | none,_,_=>.ret (.inl f args)
  | some b,[_],some d=>match (P.funcs[f]?).bind fun fn=>(match fn.resultTypes.toList with | [t]=>Gt P t | _=>none) with
   | some z=>.ret (.inlg b f args { ts:=[(d,some ⟨ctx,.val z⟩)] })
   | none => .fail "a call under a guard that has no contract"
  | some _, _, _ => .fail "a call under a guard that has no contract"
def SW (ctx:List (Nat×Bool)) (g:Option O.B) (id:Nat) (d:Option Nat) (f:FuncId) (caps:List (Cap O)) (args:List (AV O)):RM O (StepRes O) :=
  let inl:RM O (StepRes O):=U7 P cfg ctx g d f (args++caps.map fun c=>one c.ac)
  match caps with
  | _::_=>inl
  | []=>match Dx args with
    | none=>inl
    | some fns=>match Mj cfg.gam f fns with
      | none=>inl
      | some ci=>match P.funcs[f]? with
        | none => .fail "no such function"
        | some fn => (RM.guard (fn.body.isSome && !(fn.name == "runtime.NumGoroutine") && (DP P fn.params.toList args && (ci.nw || Jy args))) "a callee").bind fun _ =>
          (FW P ci.gives [] args).bind fun (ls,fr,used)=>match (EK P fn.resultTypes.toList).bind (bz P),QU ci.gives used fr with
          | some dm,true=>.ret (.call g f fns ls dm (Wh P ctx g id d ci fn fr used))
          | _, _ => .fail "a result that is no data"
abbrev Ek (O:Alg):=List O.B×AV O×List (Nat×Option (HEnt O))
def okP (as:List O.B) (v:AV O):RM O (Ek O):=.ret (as,v,[])
def Hp (T:TypeId) (n:Nat):Bool:=(P.underlying T).isSome&&(AN P T||Nat.beq n 1)
def Zv (ctx:List (Nat×Bool)) (ty:TypeId) (n:Nat) (a b:Operand):RM O (Ek O):=.t n fun
  | some tv=>match NJ tv.gs ctx,tv.v with
    | true,.val ⟨false,[.bool c]⟩ =>
      (evV P ((n,true)::ctx) ty a).bind fun x=>(evV P ((n,false)::ctx) ty b).bind fun y =>
      match x.agg==y.agg,Bd c x.cs y.cs with
      | true,some cs=>okP [] (.val { agg:=x.agg,cs })
      | _, _ => .fail "pick"
    | _, _ => .fail "pick no bool"
  | none => .fail "no such temporary"
def cG:BinOp→Option Nat
 | .and=>some 0
 | .or=>some 1
 | .xor=>some 2
 | .andNot=>some 3
 | _=>none
def dV:BinOp→Option Bool
 | .shl=>some true
 | .shr=>some false
 | _=>none
def QW:Operand→Bool
 | .const (.int _ n)=>decide (0≤n)
 | _=>false
def Yz (op:BinOp) (T:TypeId) (y:Operand) (a b:Val O):RM O (Ek O):=match a.agg,b.agg,a.cs,b.cs with
  | false,false,[.int k i],[.int k' j]=>match dV op with
   | some l=>okP (match QW y with | true=>[] | false=>[O.v (O.lit k' 0) j]) (one (.int k (O.az l k i j)))
   | none=>match KK k k' with
    | false => .fail "operands of different kinds"
    | true=>match cG op with
     | some c=>okP [] (one (.int k (O.av c k i j)))
     | none=>match op with
      | .add=>okP [] (one (.int k (O.o k i j)))
      | .sub=>okP [] (one (.int k (O.x k i j)))
      | .mul=>okP [] (one (.int k (O.am k i j)))
      | .quo=>okP (match Dd y with | true=>[] | false=>[O.h (O.d j (O.lit k 0))]) (one (.int k (O.au k i j)))
      | .rem=>okP (match Dd y with | true=>[] | false=>[O.h (O.d j (O.lit k 0))]) (one (.int k (O.aq k i j)))
      | op=>match dk op i j with
        | some c=>okP [] (one (.bool c))
        | none => .fail "an operator on integers"
  | false,false,[.str s],[.str t]=>match op with
    | .eql=>okP [] (one (.bool (O.ap s t)))
    | .neq=>okP [] (one (.bool (O.h (O.ap s t))))
    | .lss=>okP [] (one (.bool (O.bd s t)))
    | .add=>okP [O.u (O.w s) 1,O.u (O.w t) 1] (one (.str (O.ah s t)))
    | _ => .fail "an operator on strings"
  | p,q,xs,ys=>match AM P T with
    | none => .fail "an operator"
    | some ts=>match p==AN P T&&q==AN P T&&NO P Bh T && !P.eqGuardType P.depth T&&A5 P ts xs&&A5 P ts ys,op,ET xs ys with
      | true,.eql,some c=>okP [] (one (.bool c))
      | true,.neq,some c=>okP [] (one (.bool (O.h c)))
      | _, _, _ => .fail "an operator"
def VJ (src dst:TypeId) (c:AC O):RM O (Ek O):=match P.underlying src with
 | none => .fail "convert"
 | some _=>match AG P dst,c with
  | .int k,.int _ i=>okP [] (one (.int k (O.ay k i)))
  | .str,.str s=>okP [] (one (.str s))
  | .str,.int _ i=>okP [] (one (.str (O.ba i)))
  | _, _ => .fail "convert"
def Lc (T:TypeId) (p:AC O) (ix:Operand) (i:O.I):RM O (Ek O):=match P.underlying T with
 | some (.array n e) => (RM.guard (Nat.blt 0 (P.cellsOf e)) "indexAddr element").bind fun _ => match ix with
  | .const (.int _ c)=>match decide (0≤c∧c<n),CB (c.toNat * P.cellsOf e) p with
   | true,some p=>okP [] (one p)
   | _, _ => .fail "indexAddr"
  | _=>match p with
   | .ptr b off=>okP [O.p i (O.lit .i64 n)] (one (.aptr b off n (P.cellsOf e) i 0))
   | _ => .fail "indexAddr an array in an array"
 | some (.slice e)=>match p with
  | .own e' h => (PU (AC.own e' h : AC O)).bind fun (_, l, _) => (RM.guard (Nat.beq e e') "indexAddr element").bind fun _ =>
   okP [O.p i (O.m l)] (one (.eptr h i 0))
  | .imm e' nw l => (RM.guard (Nat.beq e e') "indexAddr element").bind fun _ => okP [O.p i (O.m l)] (one (.iptr e' nw l i 0))
  | .nil e=>okP [O.b] (one (.iptr e true O.y i 0))
  | _ => .fail "indexAddr no slice"
 | _ => .fail "indexAddr type"
def Uf (T:TypeId) (v:Val O) (ix:Operand) (i:O.I):RM O (Ek O):=match P.underlying T,v.agg,v.cs with
 | some .string,false,[.str s]=>okP [O.p i (O.w s)] (one (.int .u8 (O.be s i)))
 | some (.array n e),true,cs=>match ix with
  | .const (.int _ c)=>match decide (0≤c∧c<n),C0 cs (c.toNat * P.cellsOf e) (P.cellsOf e) with
   | true, some cs => (RM.guard (Hp P e cs.length) "index size").bind fun _ => okP [] (.val { agg := AN P e, cs })
   | _, _ => .fail "index"
  | _=>match n with
   | 0 => .fail "an array of no elements"
   | n+1=>match JK (fun k=>C0 cs (k * P.cellsOf e) (P.cellsOf e)) i n with
    | some cs => (RM.guard (Hp P e cs.length) "index size").bind fun _ =>
     okP [O.p i (O.lit .i64 ((n+1:Nat):Int))] (.val { agg:=AN P e,cs })
    | none => .fail "index of an array"
 | _, _, _ => .fail "index type"
def Tr (ctx:List (Nat×Bool)) (d:O.I):Option Operand→RM O O.I
 | none=>.ret d
 | some x=>evI ctx x
def J4:Option Operand→Bool
 | none=>true
 | some (.const (.int _ n))=>decide (n=0)
 | _=>false
def bQ (ctx:List (Nat×Bool)) (e':TypeId) (c:AC O) (lo hi:Option Operand):RM O (Ek O) :=
  (PU c).bind fun (e, l, nw) => (RM.guard (Nat.beq e e') "slice").bind fun _ =>
  (Tr ctx (O.lit .i64 0) lo).bind fun a=>(Tr ctx (O.m l) hi).bind fun b=>match c with
  | .own _ h=>.h h fun
    | some en=>.ret ([O.ak a b (O.m l)],one (.imm e nw (O.aj l a b)),[(h,some { en with frozen:=true,dirty:=true })])
    | none => .fail "a slice that is gone"
  | _=>okP [O.ak a b (O.m l)] (one (.imm e nw (O.aj l a b)))
def U3 (ctx:List (Nat×Bool)) (T:TypeId) (c:AC O) (lo hi mx:Option Operand):RM O (Ek O):=match mx with
 | some m=>match P.underlying T,c,J4 lo,J4 hi&&hi.isSome,J4 (some m) with
  | some (.slice e'),.imm e _ _,true,true,true=>match Nat.beq e e' with
   | true=>okP [] (one (.nil e))
   | false => .fail "slice"
  | _, _, _, _, _ => .fail "slice with three bounds"
 | none=>match P.underlying T with
  | some .string=>match c with
   | .str s=>(Tr ctx (O.lit .i64 0) lo).bind fun l=>(Tr ctx (O.w s) hi).bind fun h =>
    okP [O.ak l h (O.w s)] (one (.str (O.aw s l h)))
   | _ => .fail "slice"
  | some (.slice e')=>bQ ctx e' c lo hi
  | _ => .fail "slice"
def PX (ctx:List (Nat×Bool)) (ty:TypeId):Op→RM O (Ek O)
  | .move x | .assign x=>(ev P ctx ty x).bind fun v=>okP [] v
  | .pick (.tmp n) a b=>Zv P ctx ty n a b
  | .build T parts=>match Gt P T with
    | none => .fail "build"
    | some z=>match z.agg with
      | false => .fail "build"
      | true=>(match P.underlying T with
        | some (.struct fs) => (RM.guard (fs.toList.all fun f => (P.info? f.type).isSome) "build fields").bind fun _ =>
          QY P (fun i=>(fs.toList[i]?).map fun (f:Field)=>(f.offset,f.type)) ctx parts.toList z.cs
        | some (.array _ e) => (RM.guard (Nat.blt 0 (P.cellsOf e)) "build element").bind fun _ => QY P (fun i => some (i * P.cellsOf e, e)) ctx parts.toList z.cs
        | _ => .fail "build type").bind fun cs => okP [] (.val { agg := true, cs })
  | .load T a=>(evC P ctx T a).bind fun p=>(WJ P T p).bind fun cs =>
    (RM.guard (Hp P T cs.length) "load size").bind fun _ => okP [] (.val { agg := AN P T, cs })
  | .nilCheck x=>(evC P ctx ty x).bind fun p=>match p with
    | .ptr b off=>okP [] (one (.ptr b off))
    | .eptr i x off=>okP [] (one (.eptr i x off))
    | .iptr e nw l i off=>okP [] (one (.iptr e nw l i off))
    | .aptr b off n sz i inner=>okP [] (one (.aptr b off n sz i inner))
    | _ => .fail "nilCheck"
  | .binOp op T x y yT=>(evV P ctx T x).bind fun a=>(evV P ctx yT y).bind fun b=>Yz P op T y a b
  | .unOp op T x=>(evC P ctx T x).bind fun c=>match op,c with
    | .not,.bool b=>okP [] (one (.bool (O.h b)))
    | .neg,.int k i=>okP [] (one (.int k (O.x k (O.lit k 0) i)))
    | .xor,.int k i=>okP [] (one (.int k (O.av 2 k (O.lit k (match k.signed with | true => -1 | false=>k.max)) i)))
    | _, _ => .fail "a unary operator"
  | .convert src dst x=>(evC P ctx src x).bind fun c=>VJ P src dst c
  | .extract x i=>(ev P ctx ty x).bind fun
    | .tup vs=>match vs[i]? with
      | some v=>okP [] (.val v)
      | none => .fail "extract"
    | .val _ => .fail "extract"
  | .field T x f=>(evV P ctx T x).bind fun v=>match F2 P T f with
    | none => .fail "field"
    | some fd=>match v.agg,C0 v.cs fd.offset (P.cellsOf fd.type) with
      | true, some cs => (RM.guard (Hp P fd.type cs.length) "field size").bind fun _ => okP [] (.val { agg := AN P fd.type, cs })
      | _, _ => .fail "field"
  | .fieldAddr T x f=>(evC P ctx T x).bind fun p=>match F2 P T f with
    | none => .fail "fieldAddr"
    | some fd => (RM.guard (!Nat.beq (P.cellsOf fd.type) 0) "a field of no size").bind fun _ => match CB fd.offset p with
      | some p=>okP [] (one p)
      | none => .fail "fieldAddr no address"
  | .indexAddr T x ix=>(evC P ctx T x).bind fun p=>(evI ctx ix).bind fun i=>Lc P T p ix i
  | .index T x ix=>(evV P ctx T x).bind fun v=>(evI ctx ix).bind fun i=>Uf P T v ix i
  | .slice T x lo hi mx=>(evC P ctx T x).bind fun c=>U3 P ctx T c lo hi mx
  | .makeFunc (.func f) first caps=>match first.toList with
    | []=>(XP P ctx caps.toList).bind fun l=>okP [] (one (.fn f l))
    | _ => .fail "makeFunc"
  | .call c=>match c.callee with
    | .builtin .len=>match c.args.toList,c.argTypes.toList with
      | [x],[T]=>match P.underlying T with
        | some (.array n _)=>okP [] (one (.int .i64 (O.lit .i64 n)))
        | some .string=>(evC P ctx T x).bind fun
          | .str s=>okP [] (one (.int .i64 (O.w s)))
          | _ => .fail "len"
        | some (.slice _)=>(evC P ctx T x).bind fun v=>(PU v).bind fun (_,l,_)=>okP [] (one (.int .i64 (O.m l)))
        | _ => .fail "len"
      | _, _ => .fail "len"
    | .builtin .min=>(Y9 P ctx ty c.args.toList).bind fun
      | v::u::r=>match PB O.n v (u::r) with
        | some m=>okP [] (one m)
        | none => .fail "min"
      | _ => .fail "min"
    | .builtin .max=>(Y9 P ctx ty c.args.toList).bind fun
      | v::u::r=>match PB (fun a b=>O.n b a) v (u::r) with
        | some m=>okP [] (one m)
        | none => .fail "max"
      | _ => .fail "max"
    | _ => .fail "call"
  | _ => .fail "an operation"
abbrev dK (O:Alg):=List O.B×AC O×Wr O
def EA (ctx:List (Nat×Bool)) (id:Nat):Op→RM O (dK O)
  | .alloc T=>match Gt P T with
    | some v => (RM.guard (Nat.beq v.cs.length (P.cellsOf T) && Kb v.cs) "alloc size").bind fun _ => .ret ([], .ptr id 0, { bs := [(id, some { cs := TB T v.cs, dirty := true })] })
    | none => .fail "alloc"
  | .box T x => (evV P ctx T x).bind fun v => (RM.guard (Kb v.cs) "a variable").bind fun _ => .ret ([], .ptr id 0, { bs := [(id, some { cs := v.cs, dirty := true })] })
  | .buildSlice T len parts=>match JP P T with
    | none => .fail "buildSlice"
    | some e=>match Gt P e,AM P e with
      | some z, some ts => (RM.guard (Nat.ble (len * P.cellsOf e) 100000 && Nat.beq z.cs.length (P.cellsOf e)) "buildSlice size").bind fun _ =>
        (QY P (fun i=>some (i * P.cellsOf e,e)) ctx parts.toList (CN len z.cs)).bind fun cs =>
        (Wn (D0 (P.cellsOf e) len cs)).bind fun (rows, fr, nw) => (RM.guard (EX P ts (D0 (P.cellsOf e) len cs)) "buildSlice kinds").bind fun _ =>
        .ret ([],.own e id,{ hs:=fr++[(id,some { e,frozen:=false,nw,l:=O.ae rows,dirty:=true })] })
      | _, _ => .fail "buildSlice zero"
  | .makeSlice T len cap=>match JP P T with
    | none => .fail "makeSlice"
    | some e=>match Gt P e,P.info? e,AM P e with
      | some z, some ti, some ts => (evI ctx len).bind fun n => (RM.guard (ST len cap && EX P ts [z.cs] && z.cs.all Rw) "makeSlice cap").bind fun _ =>
        (Et z.cs).bind fun (ls,_,_) =>
        .ret ([O.u n ti.bytes],.own e id,{ hs:=[(id,some { e,frozen:=false,nw:=true,l:=O.ao n ls,dirty:=true })] })
      | _, _, _ => .fail "makeSlice zero"
  | .call c=>match c.callee,c.args.toList,c.argTypes.toList with
    | .builtin .append,[x,y],[T,U]=>match JP P T,JP P U with
      | some e, some e' => (RM.guard (Nat.beq T U) "append types").bind fun _ => (evC P ctx T x).bind fun a => (evC P ctx U y).bind fun b =>
        (PU b).bind fun (eb,lb,nb') =>
        let nb:=nb'||Tt P e
        match P.info? e,AM P e,Gt (O:=O) P e with
        | some ti, some _, some z => (RM.guard (Nat.beq e eb && Nat.beq z.cs.length (P.cellsOf e)) "append elements").bind fun _ => match a with
          | .nil ea => (RM.guard (Nat.beq e ea) "append elements").bind fun _ =>
            .ret ([O.u (O.m lb) ti.bytes],.own e id,{ hs:=[(id,some { e,frozen:=false,nw:=nb,l:=lb,dirty:=true })] })
          | .own ea i=>.h i fun
            | some h => (RM.guard (!h.frozen && Nat.beq e ea && Nat.beq e h.e) "append to a shared slice").bind fun _ =>
              .ret ([O.u (O.m (O.ad h.l lb)) ti.bytes],.own e id,
                { hs:=[(i,none),(id,some { e,frozen:=false,nw:=h.nw&&nb,l:=O.ad h.l lb,dirty:=true })] })
            | none => .fail "append a slice that is gone"
          | _ => .fail "append to a slice that came in"
        | _, _, _ => .fail "append type"
      | _, _ => .fail "append types"
    | _, _, _ => .fail "call"
  | .convert src dst x=>(evC P ctx src x).bind fun c=>match AG P src,AG P dst,c with
    | .str,.sl e,.str s=>match AG P e,AM P e with
      | .int .u8,some [t]=>match AG P t with
        | .int .u8=>.ret ([],.imm e true (O.as s),{})
        | _ => .fail "convert"
      | _, _ => .fail "convert"
    | _, _, _ => .fail "convert"
  | _ => .fail "an operation"
def Yq:Op→Bool
 | .alloc _ | .box _ _ | .buildSlice _ _ _ | .makeSlice _ _ _=>true
 | .convert _ dst _=>match AG P dst with
  | .sl _=>true
  | _=>false
 | .call c=>match c.callee with
  | .builtin .append=>true
  | _=>false
 | _=>false
def SU:List (Nat×Option (HEnt O))→RM O (List (Nat×Option (HEnt O)))
 | []=>.ret []
 | (n,_)::r=>.h n fun
  | some h=>(SU r).bind fun l=>.ret ((n,some { h with frozen:=true,dirty:=true })::l)
  | none => .fail "a slice that is gone"
def br (ctx:List (Nat×Bool)) (id:Nat):Op→RM O (AC O)
 | .buildSlice T len parts=>(EA P ctx id (.buildSlice T len parts)).bind fun (as,c,w)=>match as,c,w.hs,w.bs with
  | [],.own e q,[(j,some h)],[]=>match Nat.beq q id&&(Nat.beq j id&&Nat.beq e h.e) with
   | true=>.ret (.imm e h.nw h.l)
   | false => .fail "a literal under a guard"
  | _, _, _, _ => .fail "a literal under a guard"
 | _ => .fail "an operation under a guard"
inductive Spec where
 | take (T:TypeId) (x hi:Operand)
 | tail (T:TypeId) (x lo:Operand)
 | clr (T:TypeId) (x:Operand)
 | mkMap (T:TypeId)
 | mapUpd (T:TypeId) (m k v:Operand)
 | mapGet (T:TypeId) (m k:Operand)
 | mapEnt (T:TypeId) (m k:Operand)
 | mapSto (T:TypeId) (m x v:Operand)
 | bld (b:Bld) (x:Operand) (r:List Operand)
def JO:List (AC O)→Option (List O.I)
 | []=>some []
 | .int .i64 i::r=>match JO r with
  | some l=>some (i::l)
  | none=>none
 | _=>none
def YW (v:Val O):Option (List O.I):=match v.agg with
 | true=>JO v.cs
 | false=>none
def IY (O:Alg) (l:O.L) (ks:List O.I) (z:O.I):O.L:=O.bg ks.length l ks z
def Lk (O:Alg) (l:O.L) (ks:List O.I):O.I:=O.bf ks.length l ks
def EI (cfg:Cfg):Op→Option Spec
 | .slice T x lo (some hi) none=>match BZ 60001 cfg.ie&&J4 lo with
  | true=>some (.take T x hi)
  | false=>none
 | .slice T x (some lo) none none=>match BZ 60001 cfg.ie with
  | true=>some (.tail T x lo)
  | false=>none
 | .call ⟨.builtin .clear,args,tys⟩=>match args.toList,tys.toList with
  | [x],[T]=>some (.clr T x)
  | _,_=>none
 | .call ⟨.value (.func f),args,_⟩=>match TA cfg.bld f,args.toList with
  | some b,x::r=>some (.bld b x r)
  | _,_=>none
 | .makeMap T none=>some (.mkMap T)
 | .mapUpdate T m k v=>some (.mapUpd T m k v)
 | .lookup T m k false=>some (.mapGet T m k)
 | .mapEntry T m k=>some (.mapEnt T m k)
 | .entryStore T m x v=>some (.mapSto T m x v)
 | _=>none
def Po (ctx:List (Nat×Bool)) (id:Nat) (d:Option Nat) (T:TypeId) (hi:Operand) (c:AC O):RM O (Option (StepRes O)):=match c,JP P T,d with
  | .own e q,some e',some d=>.h q fun
    | some en=>match !en.frozen&&(Nat.beq e en.e&&Nat.beq e e') with
      | true => (evI ctx hi).bind fun b => .ret (some (.plain [O.ak (O.lit .i64 0) b (O.m en.l)]
          { ts:=[(d,some ⟨ctx,one (.own e id)⟩)],hs:=[(q,none),(id,some { en with l:=O.aj en.l (O.lit .i64 0) b,dirty:=true })] }))
      | false=>.ret none
    | none => .fail "a slice that is gone"
  | _,_,_=>.ret none
def P9 (ctx:List (Nat×Bool)) (d:Option Nat) (T:TypeId) (lo:Operand) (c:AC O):RM O (Option (StepRes O)):=match c,JP P T,d with
 | .own e q,some e',some d=>.h q fun
  | some en=>match !en.frozen&&(Nat.beq e en.e&&Nat.beq e e') with
   | true=>(evI ctx lo).bind fun i=>.ret (some (.plain [O.ak i (O.m en.l) (O.m en.l)] { ts:=[(d,some ⟨ctx,one (.tail e q i)⟩)] }))
   | false=>.ret none
  | none => .fail "a slice that is gone"
 | _,_,_=>.ret none
def WG (d:Option Nat) (T:TypeId) (c:AC O):RM O (Option (StepRes O)):=match c,JP P T,d with
 | .tail e q i,some e',none=>.h q fun
  | some en=>match Gt P e,AM P e with
   | some z, some ts => (RM.guard (!en.frozen && (Nat.beq e en.e && Nat.beq e e') && (EX P ts [z.cs] && z.cs.all Rw)) "clear").bind fun _ => (Et z.cs).bind fun (ls, _, _) =>
    .ret (some (.plain [] { hs:=[(q,some { en with l:=O.ad (O.aj en.l (O.lit .i64 0) i) (O.ao (O.m (O.aj en.l i (O.m en.l))) ls),dirty:=true })] }))
   | _, _ => .fail "clear"
  | none => .fail "a slice that is gone"
 | _, _, _ => .fail "clear"
def Lj (T:TypeId) (n:Nat) (c:AC O):RM O (Nat×HEnt O):=match c with
 | .mp e q=>.h q fun
  | some en=>match !en.frozen&&((Nat.beq e (Bp P n)&&Nat.beq en.e e)&&GF P T n) with
   | true=>.ret (q,en)
   | false => .fail "another map"
  | none => .fail "a map that is gone"
 | _ => .fail "no map"
def LC (ctx:List (Nat×Bool)) (T:TypeId) (k:Operand):RM O (List O.I) :=
  (evV P ctx T k).bind fun kv => RM.ofOpt "a key" (YW kv)
def Sr:AC O→RM O O.I
 | .int .i64 z=>.ret z
 | _ => .fail "no int"
def ZT (d:Option Nat) (T:TypeId) (c:AC O) (ks:List O.I) (z:O.I):RM O (Option (StepRes O)):=match d with
 | none=>(Lj P T ks.length c).bind fun (q,en)=>.ret (some (.plain [] { hs:=[(q,some { en with l:=IY O en.l ks z,dirty:=true })] }))
 | some _ => .fail "a map"
def Nl (ctx:List (Nat×Bool)) (d:Option Nat) (T:TypeId) (c:AC O) (ks:List O.I):RM O (Option (StepRes O)):=match d with
 | some d=>(Lj P T ks.length c).bind fun (q,en)=>.ret (some (.plain [] { ts:=[(d,some ⟨ctx,one (.int .i64 (Lk O en.l ks))⟩)] }))
 | none => .fail "a map"
def Tq (ctx:List (Nat×Bool)) (d:Option Nat) (T:TypeId) (c:AC O) (ks:List O.I):RM O (Option (StepRes O)):=match d with
 | some d=>(Lj P T ks.length c).bind fun (q,en)=>.ret (some (.plain [] { ts:=[(d,some ⟨ctx,.tup [{ agg:=false,cs:=[.int .i64 (Lk O en.l ks)] },{ agg:=false,cs:=[.int .i64 (O.ax ks.length en.l ks)] }]⟩)],hs:=[(q,some { en with l:=IY O en.l ks (Lk O en.l ks),dirty:=true })] }))
 | none => .fail "a map"
def Yb (d:Option Nat) (T:TypeId) (c:AC O) (i z:O.I):RM O (Option (StepRes O)):=match d with
 | none=>(Lj P T (P.cellsOf (EF P T).1) c).bind fun (q,en)=>.ret (some (.plain [O.p i (O.m en.l)] { hs:=[(q,some { en with l:=O.ag en.l i (P.cellsOf (EF P T).1) [.int z],dirty:=true })] }))
 | some _ => .fail "a map"
def W4 (ctx:List (Nat×Bool)) (id:Nat) (d:Option Nat) (T:TypeId) (n:Nat):RM O (Option (StepRes O)) :=
 match d,GF P T n&&(noSl P (Bp P n)&&Nat.blt n 200) with
 | some d,true=>.ret (some (.plain [] { ts:=[(d,some ⟨ctx,one (.mp (Bp P n) id)⟩)],hs:=[(id,some { e:=Bp P n,frozen:=false,nw:=true,l:=O.y,dirty:=true })] }))
 | _, _ => .fail "a map"
def Th (u:TypeId):Bool:=match AG P u,AM P u with
 | .int .u8,some [t]=>(match AG P t with | .int .u8=>true | _=>false)
 | _,_=>false
def Y4 (u:TypeId):AC O→RM O (O.L×Bool×List (Nat×Option (HEnt O)))
 | .nil e => (RM.guard (Nat.beq e u) "a builder").bind fun _ => .ret (O.y, true, [])
 | .own e q=>.h q fun
  | some en => (RM.guard (!en.frozen && (Nat.beq e u && Nat.beq en.e u)) "a builder").bind fun _ => .ret (en.l, en.nw, [(q, none)])
  | none => .fail "a slice that is gone"
 | _ => .fail "a builder"
def V8 (b:Bld):AC O→RM O (Nat×O.L×Bool×List (Nat×Option (HEnt O)))
 | .ptr n off=>.b n fun
  | some e=>match e.cs with
   | [.any T, c] => (RM.guard (Nat.beq T b.T && (Nat.beq off 0 && Th P b.u)) "a builder").bind fun _ => (Y4 b.u c).bind fun (l, nw, g) => .ret (n, l, nw, g)
   | _ => .fail "a builder"
  | none => .fail "no such variable"
 | _ => .fail "a builder"
def WB (ctx:List (Nat×Bool)) (id d:Nat) (b:Bld) (c:AC O) (new:O.L) (v:AV O):RM O (Option (StepRes O)) :=
  (V8 P b c).bind fun (n,l,nw,g)=>.ret (some (.plain [O.u (O.m (O.ad l new)) 1]
    { ts:=[(d,some ⟨ctx,v⟩)],bs:=[(n,some { cs:=[.any b.T,.own b.u id],dirty:=true })],hs:=g++[(id,some { e:=b.u,frozen:=false,nw,l:=O.ad l new,dirty:=true })] }))
def WH (ctx:List (Nat×Bool)) (id:Nat) (d:Option Nat) (b:Bld) (c:AC O) (r:List Operand):RM O (Option (StepRes O)):=match P.funcs[b.f]? with
 | none => .fail "no such function"
 | some fn => (RM.guard (fn.body.isSome && !(fn.name == "runtime.NumGoroutine")) "a callee without a body").bind fun _ => match b.k, r, d with
  | 0,[y],some d=>(evC P ctx (fn.params[1]?.getD 0) y).bind fun
   | .str s=>WB P ctx id d b c (O.as s) (.tup [{ agg:=false,cs:=[.int .i64 (O.w s)] },{ agg:=false,cs:=[.any 0] }])
   | _ => .fail "a builder"
  | 1,[y],some d=>(evC P ctx (fn.params[1]?.getD 0) y).bind fun
   | .int .u8 i=>WB P ctx id d b c (O.ae [[.int i]]) (one (.any 0))
   | _ => .fail "a builder"
  | 2,[],some d=>(V8 P b c).bind fun (n,l,nw,g)=>.ret (some (.plain [O.u (O.m l) 1,O.bi l] { ts:=[(d,some ⟨ctx,one (.str (O.bh l))⟩)],hs:=g }))
  | _, _, _ => .fail "a builder"
def Jd (ctx:List (Nat×Bool)) (id:Nat) (d:Option Nat):Spec→RM O (Option (StepRes O))
 | .mkMap T=>W4 P ctx id d T (P.cellsOf (EF P T).1)
 | .mapUpd T m k v=>(evC P ctx T m).bind fun c=>(LC P ctx (EF P T).1 k).bind fun ks=>(evC P ctx (EF P T).2 v).bind fun x=>(Sr x).bind fun z=>ZT P d T c ks z
 | .mapGet T m k=>(evC P ctx T m).bind fun c=>(LC P ctx (EF P T).1 k).bind fun ks=>Nl P ctx d T c ks
 | .mapEnt T m k=>(evC P ctx T m).bind fun c=>(LC P ctx (EF P T).1 k).bind fun ks=>Tq P ctx d T c ks
 | .mapSto T m x v=>(evC P ctx T m).bind fun c=>(evC P ctx 0 x).bind fun x=>(Sr x).bind fun i=>(evC P ctx (EF P T).2 v).bind fun y=>(Sr y).bind fun z=>Yb P d T c i z
 | .take T x hi=>(evC P ctx T x).bind fun c=>Po P ctx id d T hi c
 | .tail T x lo=>(evC P ctx T x).bind fun c=>P9 P ctx d T lo c
 | .clr T x=>(evC P ctx T x).bind fun c=>WG P d T c
 | .bld b x r=>(evC P ctx 0 x).bind fun c=>WH P ctx id d b c r
def LG (ctx:List (Nat×Bool)) (g:Option O.B) (o:Oper) (id:Nat):RM O (StepRes O):=match o.op,Yq P o.op with
 | .store T a x,_=>match g with
  | some _ => .fail "a store under a guard"
  | none=>(evC P ctx T a).bind fun p=>(evV P ctx T x).bind fun v=>(YG P T v.cs p).bind fun w=>match o.dst with
   | none=>.ret (.plain [] w)
   | some _ => .fail "a store with a value"
 | .call ⟨.value f,args,_⟩,_=>(ev P ctx 0 f).bind fun
  | .val ⟨false,[.fn f caps]⟩=>match P.funcs[f]? with
   | none => .fail "no such function"
   | some fn => (RM.guard (fn.body.isSome && !(fn.name == "runtime.NumGoroutine")) "a callee without a body").bind fun _ => (NQ P ctx (fn.params.toList.take args.size) args.toList).bind fun args => SW P cfg ctx g id o.dst f caps args
  | _ => .fail "call no function"
 | op,true=>match g,o.dst with
  | none,some d=>(EA P ctx id op).bind fun (as,c,w)=>.ret (.plain as { w with ts:=[(d,some ⟨ctx,one c⟩)] })
  | some _,some d=>(br P ctx id op).bind fun c=>.ret (.plain [] { ts:=[(d,some ⟨ctx,one c⟩)] })
  | _, none => .fail "an operation under a guard"
 | op,false=>match o.dst with
  | some d=>(PX P ctx o.type op).bind fun (as,v,fr)=>(SU fr).bind fun fr=>.ret (.plain (as.map (UN g)) { ts:=[(d,some ⟨ctx,v⟩)],hs:=fr })
  | none => .fail "an operation without a value"
def Wg (ctx:List (Nat×Bool)) (g:Option O.B) (o:Oper) (id:Nat):RM O (StepRes O):=match g,EI cfg o.op with
 | none,some sp=>(Jd P ctx id o.dst sp).bind fun
  | some r=>.ret r
  | none=>LG P cfg ctx g o id
 | _,_=>LG P cfg ctx g o id
def Cj (ops:List Oper) (o:Oper) (id:Nat):RM O (StepRes O) :=
  (LH ops o).bind fun ctx=>(MX ctx).bind fun g=>Wg P cfg ctx g o id
end
structure Ms where
 t:Nat
 r:Nat
def Ms.or (a b:Ms):Ms:=⟨a.t ||| b.t,a.r ||| b.r⟩
def NL:Option Ms→Option Ms→Option Ms
 | some a,some b=>some (a.or b)
 | some a,none=>some a
 | none,b=>b
def TT (a:Ms):Option Ms→Option Ms
 | some b=>some (a.or b)
 | none=>none
structure An where
 nrm:Option Ms
 ret:Option Ms
 exts:List (Nat×Ms)
def Ao:List (Nat×Ms)→Nat→Option Ms
 | [],_=>none
 | (j,m)::l,k=>match Nat.beq j k with
  | true=>some m
  | false=>Ao l k
def Fz:List (Nat×Ms)→Nat→List (Nat×Ms)
 | [],_=>[]
 | (j,m)::l,k=>match Nat.beq j k with
  | true=>Fz l k
  | false=>(j,m)::Fz l k
def ML (l:List (Nat×Ms)) (k:Nat) (m:Ms):List (Nat×Ms):=match Ao l k with
 | some m'=>(k,m'.or m)::Fz l k
 | none=>(k,m)::l
def JT:List (Nat×Ms)→List (Nat×Ms)→List (Nat×Ms)
 | [],r=>r
 | (k,m)::l,r=>JT l (ML r k m)
def KH (ops:List Oper):Nat→Nat→Nat
 | 0,t=>t
 | n+1,t=>match ops.find? (fun o=>match o.dst with | some d=>Nat.beq d t | none=>false) with
  | some o=>match o.op with
   | .fieldAddr _ (.tmp x) _ | .indexAddr _ (.tmp x) _ | .nilCheck (.tmp x) | .move (.tmp x) | .load _ (.tmp x) | .assign (.tmp x)=>KH ops n x
   | _=>t
  | none=>t
def YF (P:Program) (all:List Oper):Operand→Nat
 | .tmp a=>match all.find? (fun o=>match o.dst with | some d=>Nat.beq d a | none=>false) with
  | some o=>match AG P o.type with
   | .ptr | .fn=>BX (KH all 40 a)
   | _=>0
  | none=>0
 | _=>0
def ar (P:Program) (all:List Oper):Operand→List Operand→Nat
 | .func f,.tmp a::_=>match P.funcs[f]? with
  | some fn=>match fn.params[0]? with
   | some t=>match AG P t with
    | .ptr=>BX (KH all 40 a)
    | _=>0
   | none=>0
  | none=>0
 | _,_=>0
def dv (P:Program) (all:List Oper):Operand→List Operand→Nat
 | .func f,args=>match P.funcs[f]? with
  | some fn=>match fn.resultTypes.toList with
   | []=>args.foldl (fun m x=>m ||| (match x with
    | .tmp a=>match all.find? (fun o=>match o.dst with | some d=>Nat.beq d a | none=>false) with
     | some o=>match AG P o.type with
      | .sl _=>BX (KH all 40 a)
      | _=>0
     | none=>0
    | _=>0)) 0
   | _=>0
  | none=>0
 | _,_=>0
def XR (P:Program) (all:List Oper):List Oper→Nat
 | []=>0
 | o::r=>(match o.op with
  | .store _ (.tmp a) _=>BX (KH all 40 a)
  | .mapUpdate _ (.tmp a) _ _ | .mapEntry _ (.tmp a) _ | .entryStore _ (.tmp a) _ _=>BX (KH all 40 a)
  | .call c=>match c.callee with
   | .value f=>c.args.toList.foldl (fun m x=>m ||| YF P all x) (YF P all f) ||| ar P all f c.args.toList ||| dv P all f c.args.toList
   | .builtin .append=>match c.args.toList with
    | .tmp a::_=>BX (KH all 40 a)
    | _=>0
   | _=>0
  | _=>0) ||| XR P all r
def QS:List Oper→Nat
 | []=>0
 | o::r=>(match o.dst with | some d=>BX d | none=>0) ||| QS r
def an (P:Program):Code→An
 | .skip=>⟨some ⟨0,0⟩,none,[]⟩
 | .region _ ops _=>⟨some ⟨QS ops.toList,XR P ops.toList ops.toList⟩,none,[]⟩
 | .seq a b=>match an P a with
  | ⟨none,r,e⟩=>⟨none,r,e⟩
  | ⟨some m,r,e⟩=>match an P b with
   | ⟨n',r',e'⟩=>⟨TT m n',NL r (TT m r'),JT (e'.map fun (k,x)=>(k,m.or x)) e⟩
 | .cond _ a b=>match an P a,an P b with
  | ⟨n,r,e⟩,⟨n',r',e'⟩=>⟨NL n n',NL r r',JT e e'⟩
 | .block id b=>match an P b with
  | ⟨n,r,e⟩=>⟨NL n (Ao e id),r,Fz e id⟩
 | .loop b=>match an P b with
  | ⟨n,r,e⟩=>⟨none,match n with | some m=>TT m r | none=>r,match n with | some m=>e.map (fun (k,x)=>(k,m.or x)) | none=>e⟩
 | .exit id=>⟨none,none,[(id,⟨0,0⟩)]⟩
 | .ret=>⟨none,some ⟨0,0⟩,[]⟩
 | _=>⟨none,none,[]⟩
structure Cn where
 nrm:Nat
 ret:Nat
 exts:List (Nat×Nat)
def ZA:List (Nat×Nat)→Nat→Nat
 | [],_=>0
 | (j,m)::l,k=>match Nat.beq j k with
  | true=>m+ZA l k
  | false=>ZA l k
def cnt:Code→Cn
 | .skip | .region ..=>⟨1,0,[]⟩
 | .seq a b=>match cnt a,cnt b with
  | ⟨0,r,e⟩,_=>⟨0,r,e⟩
  | ⟨n,r,e⟩,⟨n',r',e'⟩=>⟨n',r+r',e++e'⟩
 | .cond _ a b=>match cnt a,cnt b with
  | ⟨n,r,e⟩,⟨n',r',e'⟩=>⟨n+n',r+r',e++e'⟩
 | .block id b=>match cnt b with
  | ⟨n,r,e⟩=>⟨n+ZA e id,r,e.filter fun (k,_) => !Nat.beq k id⟩
 | .loop b=>match cnt b with
  | ⟨n,r,e⟩=>⟨0,(match r with | 0=>0 | _=>1),e.map fun (k,_)=>(k,1)⟩
 | .exit id=>⟨0,0,[(id,1)]⟩
 | .ret=>⟨0,1,[]⟩
 | _=>⟨0,0,[]⟩
def WO:Operand→Nat
 | .tmp t=>BX t
 | _=>0
def FC (nt:Nat):List Oper→Bool
 | []=>true
 | o::r=>(match o.dst with | some d=>Nat.blt d nt | none=>true)&&FC nt r
def Bk (nt:Nat):Code→Bool
 | .region _ ops _=>FC nt ops.toList
 | .seq a b=>Bk nt a&&Bk nt b
 | .cond _ a b=>Bk nt a&&Bk nt b
 | .block _ b=>Bk nt b
 | .loop b=>Bk nt b
 | _=>true
def WN:List Oper→Nat
 | []=>0
 | o::r=>o.op.operands.toList.foldl (fun m x=>m ||| WO x) 0 ||| WN r
def LL:Code→Nat
 | .region _ ops _=>WN ops.toList
 | .seq a b=>LL a ||| LL b
 | .cond c a b=>WO c ||| LL a ||| LL b
 | .block _ b | .loop b | .scope b=>LL b
 | _=>0
def Mc:Code→Nat
 | .region _ ops _=>ops.size
 | .seq a b=>Mc a+Mc b
 | .cond _ a b=>4+Mc a+Mc b
 | .block _ b=>Mc b
 | .loop _=>1000
 | _=>0
inductive Ex where
 | nrm
 | ext (id:Nat)
 | ret
structure Lv where
 nrm:Nat
 ret:Nat
 exts:List (Nat×Nat)
def cH:List (Nat×Nat)→Nat→Nat
 | [],_=>0
 | (j,m)::l,k=>match Nat.beq j k with
  | true=>m
  | false=>cH l k
def Lv.of (lv:Lv):Ex→Nat
 | .nrm=>lv.nrm
 | .ret=>lv.ret
 | .ext id=>cH lv.exts id
def Lv.all (lv:Lv):Nat:=lv.exts.foldl (fun m (_,x)=>m ||| x) (lv.nrm ||| lv.ret)
inductive SlotC where
 | int (k:IntKind) | bool | str | own (e:TypeId) (nw:Bool) | imm (e:TypeId) (nw:Bool) | any (T:TypeId)
inductive Slot where
 | t (n:Nat) (agg:Bool) (cs:List SlotC)
 | b (id:Nat) (cs:List SlotC)
def ZC (cfg:Cfg) (e:Nat):Bool:=cfg.imm||BZ e cfg.ie
def eV {O:Alg} (s:State O) (cfg:Cfg):AC O→Option SlotC
 | .int k _=>some (.int k)
 | .bool _=>some .bool
 | .str _=>some .str
 | .any T=>some (.any T)
 | .nil e=>some (match ZC cfg e with | true=>.imm e (!cfg.old) | false=>.own e (!cfg.old))
 | .imm e nw _=>some (.imm e (nw && !cfg.old))
 | .own e id=>match s.getH id with
  | some h=>some (match h.frozen||ZC cfg e with | true=>.imm e (h.nw && !cfg.old) | false=>.own e (h.nw && !cfg.old))
  | none=>none
 | _=>none
def WP {O:Alg} (s:State O) (cfg:Cfg):List (AC O)→Option (List SlotC)
 | []=>some []
 | c::r=>match eV s cfg c,WP s cfg r with
  | some a,some l=>some (a::l)
  | _,_=>none
section
variable {O:Alg} (P:Program) (cfg:Cfg)
def Un (s:State O) (n:Nat):List Nat:=match s.getT n with
 | some ⟨_,.val ⟨false,[.ptr b _]⟩⟩=>[b]
 | some ⟨_,.val ⟨false,[.aptr b _ _ _ _ _]⟩⟩=>[b]
 | some ⟨_,.val ⟨false,[.fn _ caps]⟩⟩=>Dj caps
 | _=>[]
def eY (s:State O) (n:Nat):Bool:=match s.getT n with
 | some ⟨_,.val ⟨false,[.fn _ _]⟩⟩=>true
 | _=>false
def Zm (s:State O) (n:Nat):List Nat:=match s.getT n with
 | some ⟨_,.val ⟨false,[.eptr id _ _]⟩⟩=>[id]
 | some ⟨_,.val ⟨false,[.mp _ id]⟩⟩=>[id]
 | _=>[]
def dW (s:State O) (hid:List Nat) (n:Nat):Bool:=match s.getT n with
 | some ⟨_,.val ⟨false,[.own _ id]⟩⟩ => !BZ id hid
 | _=>false
def EY (s:State O):List Nat→List Nat→List (Nat×TypeId×Bool)
 | [],_=>[]
 | n::r,seen=>match BZ n seen with
  | true=>EY s r seen
  | false=>match s.getH n with
   | none=>EY s r seen
   | some h=>match h.frozen with
    | true=>EY s r seen
    | false=>(n,h.e,h.nw)::EY s r (n::seen)
def GM (m:Nat):Nat→List Nat→List Nat
 | 0,acc=>match m.testBit 0 with | true=>0::acc | false=>acc
 | n+1,acc=>GM m n (match m.testBit (n+1) with | true=>(n+1)::acc | false=>acc)
def Mr (m:Nat):Nat:=m.log2
def Ef (s:State O):List Nat→List Nat→Option (List Slot)
 | [],_=>some []
 | b::r,seen=>match BZ b seen with
  | true=>Ef s r seen
  | false=>match s.getB b with
   | none=>Ef s r seen
   | some e=>match WP s cfg e.cs,Ef s r (b::seen) with
    | some cs,some l=>some (.b b cs::l)
    | _,_=>none
def Fe (s:State O):List Nat→List Slot
 | []=>[]
 | n::r=>match s.getT n with
  | some ⟨[],.val v⟩=>match WP s cfg v.cs with
   | some cs=>.t n v.agg cs::Fe s r
   | none=>Fe s r
  | _=>Fe s r
def JV (s:State O) (m:Nat):List Nat:=GM m (Mr m) []
def hOf (s:State O) (m:Ms):List (Nat×TypeId×Bool):=EY s (((JV s m.r).map (Zm s)).flatten) []
def Uq (s:State O) (n:Nat):List Nat:=match s.getT n with
 | some ⟨_,.val ⟨false,[.own _ id]⟩⟩=>[id]
 | _=>[]
def bu (s:State O) (m:Ms):List Nat:=match BZ 60002 cfg.ie with
 | true=>(((JV s m.r).filter fun n => !m.t.testBit n).map (Uq s)).flatten
 | false=>[]
def XS (s:State O) (m:Ms):List (Nat×TypeId×Bool):=EY s (((JV s m.r).map (Zm s)).flatten++bu cfg s m) []
def Zh (s:State O) (m:Ms) (live:Nat):Option (List Slot) :=
 let rs:=JV s m.r
 let tmps:=(m.t ||| rs.foldl (fun a n=>match dW s ((XS cfg s m).map (·.1)) n with | true=>a ||| BX n | false=>a) 0) &&& live
 match Ef cfg s (((rs.filter fun n=>live.testBit n||(BZ 60000 cfg.ie&&eY s n)).map (Un s)).flatten) [] with
 | some l=>some (Fe cfg s (GM tmps (Mr tmps) [])++l)
 | none=>none
def Bi (s:State O) (m:Ms):List Nat:=((JV s m.r).map (Un s)).flatten
def T6:List (AC O)→List Nat
 | []=>[]
 | .own _ id::r=>id::T6 r
 | _::r=>T6 r
def WC (s:State O):List Nat→List Nat
 | []=>[]
 | n::r=>(match s.getT n with | some ⟨_,.val v⟩=>T6 v.cs | _=>[])++WC s r
def cD (s:State O):List Nat→List Nat
 | []=>[]
 | b::r=>(match s.getB b with | some e=>T6 e.cs | none=>[])++cD s r
def QT (s:State O) (m:Ms):List Nat:=WC s (GM (m.t ||| m.r) (Mr (m.t ||| m.r)) [])++cD s (Bi s m)
def NE (s:State O) (m:Ms):List Nat:=QT s m++(hOf s m).map (·.1)
def Hm (s:State O) (ids:List Nat):List (Nat×HEnt O):=s.hp.filter fun (n,_) => !BZ n ids
def Gd (s:State O) (bs:List Nat):List (Nat×BEnt O):=s.bx.filter fun (n,_) => !BZ n bs
def cleanB (l:List (Nat×BEnt O)):List (Nat×BEnt O):=l.map fun (n,e)=>(n,{ e with dirty:=false })
def cleanH (l:List (Nat×HEnt O)):List (Nat×HEnt O):=l.map fun (n,e)=>(n,{ e with dirty:=false })
def Ee (s:State O) (keep:List Nat) (used:List Nat):SlotC→AC O→Except String (O.Lf×List Nat)
 | .int k, .int k' i => match KK k k' with | true => .ok (.int i, used) | false => .error "a slot of another kind"
 | .bool,.bool b=>.ok (.bool b,used)
 | .str,.str x=>.ok (.str x,used)
 | .any T, .any T' => match Nat.beq T T' with | true => .ok (.bool O.k, used) | false => .error "a slot of another type"
 | .own e _, .nil e' => match Nat.beq e e' with | true => .ok (.rows O.y, used) | false => .error "a slot of another element"
 | .imm e _, .nil e' => match Nat.beq e e' with | true => .ok (.rows O.y, used) | false => .error "a slot of another element"
 | .own e nw,.own e' id=>match s.getH id with
  | some h=>match Nat.beq e e'&&Nat.beq e h.e && !h.frozen&&(h.nw || !nw) && !BZ id used && !BZ id keep with
   | true=>.ok (.rows h.l,id::used)
   | false => .error "an owned slot that is shared"
  | none => .error "a slot whose slice is gone"
 | .own _ _, .imm _ _ _ => .error "an owned slot that is not owned"
 | .imm e nw, .imm e' nw' l => match Nat.beq e e' && (nw' || !nw) with | true => .ok (.rows l, used) | false => .error "a shared slot"
 | .imm e nw,.own e' id=>match s.getH id with
  | some h=>match Nat.beq e e'&&Nat.beq e h.e&&(h.nw || !nw)&&(h.frozen || !BZ id keep) && !BZ id used with
   | true=>.ok (.rows h.l,match h.frozen with | true=>used | false=>id::used)
   | false => .error "a shared slot of an owned slice"
  | none => .error "a slot whose slice is gone"
 | _, _ => .error "a slot"
def DK (s:State O) (keep used:List Nat):List SlotC→List (AC O)→Except String (List O.Lf×List Nat)
 | [],[]=>.ok ([],used)
 | a::as,c::cs=>match Ee s keep used a c with
  | .error e=>.error e
  | .ok (l,u)=>match DK s keep u as cs with
   | .error e=>.error e
   | .ok (ls,u)=>.ok (l::ls,u)
 | _, _ => .error "slots"
def Dk (s:State O) (keep:List Nat):List Nat→List Slot→Except String (List O.Lf)
 | _,[]=>.ok []
 | used,.t n agg cs::r=>match s.getT n with
  | some ⟨[],.val v⟩=>match v.agg==agg,DK s keep used cs v.cs with
   | true,.ok (ls,u)=>match Dk s keep u r with
    | .ok more=>.ok (ls++more)
    | .error e=>.error e
   | true,.error e=>.error e
   | false, _ => .error "a slot s form"
  | _ => .error "a slot that is not there"
 | used,.b b cs::r=>match s.getB b with
  | some e=>match DK s keep used cs e.cs with
   | .ok (ls,u)=>match Dk s keep u r with
    | .ok more=>.ok (ls++more)
    | .error e=>.error e
   | .error e=>.error e
  | none => .error "a slot s variable is gone"
def H0 (s:State O):List (Nat×BEnt O)→Bool
 | []=>true
 | (n,_)::r=>match s.getB n with
  | some e=>match e.dirty with
   | true=>false
   | false=>H0 s r
  | none=>false
def IM (s:State O):List (Nat×HEnt O)→Bool
 | []=>true
 | (n,_)::r=>match s.getH n with
  | some e=>match e.dirty with
   | true=>false
   | false=>IM s r
  | none=>false
def DT (c:O.C) (j q:Nat):SlotC→AC O×List (Nat×HEnt O)
 | .int k=>(.int k (O.i c j),[])
 | .bool=>(.bool (O.l c j),[])
 | .str=>(.str (O.cS c j),[])
 | .own e nw=>(.own e q,[(q,{ e,frozen:=false,nw,l:=O.r c j,dirty:=true })])
 | .imm e nw=>(.imm e nw (O.r c j),[])
 | .any T=>(.any T,[])
def FR (c:O.C):Nat→Nat→List SlotC→List (AC O)×List (Nat×HEnt O)
 | _,_,[]=>([],[])
 | j,q,a::as=>match DT c j q a with
  | (x,h)=>match FR c (j+1) (q+h.length) as with
   | (xs,hs)=>(x::xs,h++hs)
def A8 (c:O.C):Nat→Nat→List Slot→State O→State O
 | _,q,[],s=>{ s with st:=q }
 | j,q,.t n agg cs::r,s=>match FR c j q cs with
  | (xs,hs)=>A8 c (j+cs.length) (q+hs.length) r { s with tm:=Cv s.tm n (some ⟨[],.val { agg,cs:=xs }⟩),hp:=hs++s.hp }
 | j,q,.b b cs::r,s=>match FR c j q cs with
  | (xs,hs)=>A8 c (j+cs.length) (q+hs.length) r { s with bx:=GN s.bx b (some { cs:=xs,dirty:=true }),hp:=hs++s.hp }
def V9 (t:TM (TV O)):List Nat→TM (TV O)
 | []=>t
 | n::r=>V9 (Cv t n none) r
structure Way (O:Alg) where
 e:Ex
 slots:List Slot
 base:State O
 hs:List (Nat×TypeId×Bool)
def Oz (s:State O):List (Nat×TypeId×Bool)→Except String (List O.Lf)
 | []=>.ok []
 | (n,e,nw)::r=>match s.getH n with
  | none => .error "a kept slice is gone"
  | some h=>match Nat.beq h.e e&&(!h.frozen&&h.nw==nw) with
   | false => .error "a kept slice"
   | true=>match Oz s r with
    | .ok ls=>.ok (.rows h.l::ls)
    | .error e=>.error e
def HQ (c:O.C):Nat→List (Nat×TypeId×Bool)→List (Nat×HEnt O)
 | _,[]=>[]
 | j,(n,e,nw)::r=>(n,{ e,frozen:=false,nw,l:=O.r c j,dirty:=true })::HQ c (j+1) r
def Way.keep (w:Way O):List Nat:=w.hs.map (·.1)++w.base.hp.map (·.1)
def Way.baseC (w:Way O) (c:O.C) (j:Nat):State O:={ w.base with hp:=HQ c j w.hs++w.base.hp }
def Way.encL (w:Way O) (s':State O):Except String (List O.Lf):=match Oz s' w.hs with
 | .error e=>.error e
 | .ok a=>match Dk s' w.keep [] w.slots with
  | .error e=>.error e
  | .ok b=>.ok (a++b)
def FY (s:State O) (e:Ex) (m:Ms) (live:Nat):Except String (Way O):=match Zh cfg s m live with
  | none => .error "a layout"
  | some sl => .ok { e, slots := sl, base :=
      { tm:=V9 s.tm (GM m.t (Mr m.t) []),bx:=Gd s (Bi s m),hp:=Hm s (NE s m),st:=s.st },hs:=XS cfg s m }
def Way.enc (w:Way O) (tag:Option Nat) (s':State O):O.M :=
 match H0 s' w.base.bx,IM s' w.base.hp with
 | true,true=>match w.encL s' with
  | .ok ls=>O.a (match tag with | some t=>.int (O.lit .i64 t)::ls | none=>ls)
  | .error e=>O.z e
 | _, _ => O.z "memory that a join does not know"
def Way.dec (w:Way O) (tagged:Bool) (c:O.C):State O:=A8 c ((match tagged with | true=>1 | false=>0)+w.hs.length) w.base.st w.slots (w.baseC c (match tagged with | true=>1 | false=>0))
def Pr (s:State O) (lv:Lv) (e:Ex):Option Ms→Except String (List (Way O))
 | none=>.ok []
 | some m=>match FY cfg s e m (lv.of e) with
  | .ok w=>.ok [w]
  | .error e=>.error e
def MK (s:State O) (lv:Lv):List (Nat×Ms)→Except String (List (Way O))
 | []=>.ok []
 | (id,m)::r=>match Pr cfg s lv (.ext id) (some m),MK s lv r with
  | .ok a,.ok b=>.ok (a++b)
  | .error e,_=>.error e
  | _,.error e=>.error e
def MN (s:State O) (a:An) (lv:Lv):Except String (List (Way O)) :=
 match Pr cfg s lv .nrm a.nrm,Pr cfg s lv .ret a.ret,MK cfg s lv a.exts with
 | .ok x,.ok y,.ok z=>.ok (x++y++z)
 | .error e,_,_=>.error e
 | _,.error e,_=>.error e
 | _,_,.error e=>.error e
def bP:Ex→Ex→Bool
 | .nrm,.nrm=>true
 | .ret,.ret=>true
 | .ext a,.ext b=>Nat.beq a b
 | _,_=>false
def Ew (tagged:Bool) (e:Ex) (s':State O):Nat→List (Way O)→O.M
 | _, [] => O.z "a way out that was not seen"
 | i,w::r=>match bP e w.e with
  | true=>w.enc (match tagged with | true=>some i | false=>none) s'
  | false=>Ew tagged e s' (i+1) r
def Fc (c:O.C) (k:Ex→State O→O.M) (tagged:Bool):Nat→List (Way O)→O.M
 | _, [] => O.z "no way out"
 | _,[w]=>k w.e (w.dec tagged c)
 | i,w::r=>O.c (O.ac c i) (k w.e (w.dec tagged c)) (Fc c k tagged (i+1) r)
def cleaned (s:State O):State O:={ s with bx:=cleanB s.bx,hp:=cleanH s.hp }
def scope (a:An) (lv:Lv) (s:State O) (run:State O→(Ex→State O→O.M)→O.M) (k:Ex→State O→O.M):O.M :=
 match MN cfg s a lv with
 | .error e=>O.z e
 | .ok ws =>
  let tagged:=Nat.blt 1 ws.length
  O.e (run (cleaned s) fun e s'=>Ew tagged e s' 0 ws) fun c=>Fc c k tagged 0 ws
def A9:List Oper→List Nat→List Nat
 | [],acc=>acc
 | o::r,acc=>A9 r (acc++[o.after.toList.foldl (fun s e=>match e.ground with
  | .textOnly _ | .gcOnly _=>s
  | _=>s ||| BX e.on ||| acc.getD e.on 0) 0])
def Tb (o:Oper):Bool:=match o.op,o.guard with
 | .lookup _ _ _ false,none=>true
 | _,_=>false
def S6 (o:Oper):Bool:=match o.op,o.guard with
 | .mapEntry _ _ _,none=>true
 | _,_=>false
def Mb (ops:List Oper) (i j:Nat):Bool:=match ops[i]?,ops[j]? with
 | some a,some b=>Tb a&&S6 b
 | _,_=>false
def Yn (x:Nat):Bool:=Nat.beq x (BX x.log2)&&Nat.beq (x.log2 % 3) 2
def Ft (ex:Nat→Nat→Bool) (bs:List Nat) (ms:List (Nat×Nat)):Bool :=
 let rec inner (j bj rj wj:Nat):Nat→List (Nat×Nat)→Bool
  | _,[]=>true
  | i,(r,w)::l=>match Nat.ble j i with
   | true=>true
   | false=>match bj.testBit i||(Nat.beq (w &&& (rj ||| wj)) 0&&(Nat.beq (wj &&& r) 0||(ex i j&&Yn (wj &&& r)))) with
    | true=>inner j bj rj wj (i+1) l
    | false=>false
 let rec outer:Nat→List Nat→List (Nat×Nat)→Bool
  | j,b::bs,(r,w)::l=>match inner j b r w 0 ms with
   | true=>outer (j+1) bs l
   | false=>false
  | _,_,_=>true
 outer 0 bs ms
def T1:List Nat→Bool
 | []=>true
 | n::l => !BZ n l&&T1 l
def Kl:List O.B→O.M→O.M
 | [],m=>m
 | a::r,m=>O.j a (Kl r m)
def Cp:TM (TV O)→TM (TV O)
 | .e=>.e
 | .leaf a=>match a.gs with
  | []=>.leaf a
  | _=>.e
 | .node l r=>.node (Cp l) (Cp r)
def Ca (ops:List Oper):Nat→List Nat→List Oper→Bool
 | i,b::bs,o::r=>match o.guard with
  | none=>Ca ops (i+1) bs r
  | some (j,_)=>Nat.blt j i&&b.testBit j&&(match (ops[j]?).bind (·.dst) with | some _=>true | none=>false)&&Ca ops (i+1) bs r
 | _,_,[]=>true
 | _,[],_::_=>false
def Pm:Nat→List Oper→Bool
 | _,[]=>true
 | i,o::r=>(o.after.toList.all fun e=>match e.ground with
  | .textOnly _ | .gcOnly _=>true
  | _=>Nat.blt e.on i)&&Pm (i+1) r
def CC (inl : FuncId → List (AV O) → State O → (AV O → State O → O.M) → O.M) (all : List Oper) (draw : Bool) :
    List Oper→Nat→State O→List (Nat×Nat)→(State O→List (Nat×Nat)→O.M)→O.M
  | [],id,s,ms,k=>k { s with st:=id } ms
  | o::r,id,s,ms,k=>match RM.run s (Cj P cfg all o id) 0 with
    | .error e=>O.z e
    | .ok (.plain as w,rd)=>Kl as (CC inl all draw r (id+Aw P o) (s.apply w) (ms++[(rd,w.mask)]) k)
    | .ok (.call g f fns args dm next,rd) =>
      let m:=O.f f fns args
      O.e (match g with | none=>m | some g=>O.c g m (O.a dm)) fun c=>match next c with
        | none => O.z "a result"
        | some w=>CC inl all draw r (id+Aw P o) (s.apply w) (ms++[(rd,w.mask)]) k
    | .ok (.inl f args,rd)=>match draw with
      | true => O.z "a call that has no contract in a region that draws"
      | false=>inl f args { s with st:=id+Aw P o } fun v s' =>
        CC inl all draw r s'.st (match o.dst with | some d=>{ s' with tm:=Cv s'.tm d (some ⟨[],v⟩) } | none=>s') (ms++[(0,0)]) k
    | .ok (.inlg g f args w,rd)=>match draw with
      | true => O.z "a call that has no contract in a region that draws"
      | false=>O.c g (inl f args { s with st:=id+Aw P o } fun v s' =>
        CC inl all draw r s'.st (match o.dst with | some d=>{ s' with tm:=Cv s'.tm d (some ⟨[],v⟩) } | none=>s') (ms++[(0,0)]) k)
        (CC inl all draw r (id+Aw P o) (s.apply w) (ms++[(rd,w.mask)]) k)
def AY:List Oper→List Nat
 | []=>[]
 | o::r=>match o.dst with | some d=>d::AY r | none=>AY r
def cu (o:Oper):Bool:=match o.op,o.guard with
 | .call ⟨.value _,_,_⟩,none=>true
 | _,_=>false
def O7 (ops:List Oper):Bool:=match ops.drop (ops.length - 1) with
 | [o]=>cu o&&Nat.beq ((A9 ops []).getD (ops.length - 1) 0 &&& (BX (ops.length - 1) - 1)) (BX (ops.length - 1) - 1)
 | _=>false
def EM (inl:FuncId→List (AV O)→State O→(AV O→State O→O.M)→O.M) (ops:List Oper) (draw:Bool) (s:State O) (k:State O→O.M):O.M :=
 match T1 (AY ops)&&(Ca ops 0 (A9 ops []) ops&&Pm 0 ops) with
 | false => O.z "a temporary that is written twice"
 | true=>match draw&&O7 ops with
  | true=>CC P cfg inl ops true (ops.take (ops.length - 1)) s.st s [] fun s' ms =>
   match Ft (Mb ops) (A9 ops []) ms with
   | false => O.z "an order that is open"
   | true=>CC P cfg inl ops false (ops.drop (ops.length - 1)) s'.st s' [] fun s' _=>k { s' with tm:=Cp s'.tm }
  | false=>CC P cfg inl ops draw ops s.st s [] fun s' ms =>
   match !draw||Ft (Mb ops) (A9 ops []) ms with
   | false => O.z "an order that is open"
   | true=>k { s' with tm:=Cp s'.tm }
def Y2 (s:State O):Operand→Option O.B
 | .tmp n=>match s.getT n with
  | some ⟨[],.val ⟨false,[.bool b]⟩⟩=>some b
  | _=>none
 | .const (.bool b)=>some (match b with | true=>O.k | false=>O.b)
 | _=>none
def ZN (head:Way O) (ws:List (Way O)) (tagged:Bool) (self:List O.Lf→O.M):Ex→State O→O.M:=fun e s'=>match e with
 | .nrm=>match H0 s' head.base.bx,IM s' head.base.hp with
  | true,true=>match head.encL s' with
   | .ok ls=>self ls
   | .error e=>O.z e
  | _, _ => O.z "memory that a loop does not know"
 | e=>Ew tagged e s' 0 ws
def UR (o:Oper):Bool:=match o.op,o.guard with
 | .panic _,none=>true
 | _,_=>false
def X (inl:FuncId→List (AV O)→State O→(AV O→State O→O.M)→O.M):Code→Bool→Lv→State O→(Ex→State O→O.M)→O.M
 | .skip,_,_,s,k=>k .nrm s
 | .region _ ops draw,_,_,s,k=>match ops.toList.any UR with
  | true=>O.j O.b (O.a [])
  | false=>EM P cfg inl ops.toList draw s fun s'=>k .nrm s'
 | .seq a b,light,lv,s,k=>X inl a (light&&Nat.ble (Mc b) 6) { lv with nrm:=LL b ||| lv.all } s fun e s'=>match e with
  | .nrm=>X inl b light lv s' k
  | e=>k e s'
 | .cond c a b,light,lv,s,k=>match Y2 s c with
  | none => O.z "a condition"
  | some x=>match light||Nat.blt ((cnt a).nrm+(cnt b).nrm) 2 with
   | true=>O.c x (X inl a light lv s k) (X inl b light lv s k)
   | false=>scope cfg (an P (.cond c a b)) lv s (fun s k=>O.c x (X inl a true lv s k) (X inl b true lv s k)) k
 | .block id b,light,lv,s,k =>
  let lv':Lv:={ lv with exts:=(id,lv.nrm)::lv.exts }
  let k':Ex→State O→O.M:=fun e s'=>match e with
   | .ext i=>match Nat.beq i id with
    | true=>k .nrm s'
    | false=>k e s'
   | e=>k e s'
  match light||Nat.blt ((cnt b).nrm+ZA (cnt b).exts id) 2 with
  | true=>X inl b light lv' s k'
  | false=>scope cfg (an P b) lv' s (fun s k=>X inl b true lv' s k) k'
 | .loop b,_,lv,s,k =>
  let a:=an P b
  let lvb:Lv:={ lv with nrm:=LL b ||| lv.all }
  match a.nrm with
  | none => O.z "a loop of one round"
  | some m=>match FY cfg s .nrm m lvb.nrm,MN cfg s (an P (.loop b)) lv with
   | .ok head,.ok ws =>
    let tagged:=Nat.blt 1 ws.length
    match head.encL s with
    | .error e=>O.z e
    | .ok ls=>O.e (O.aa (fun self c=>X inl b true lvb (cleaned (head.dec false c)) (ZN head ws tagged self)) ls) fun c=>Fc c k tagged 0 ws
   | .error e,_=>O.z e
   | _,.error e=>O.z e
 | .exit id,_,_,s,k=>k (.ext id) s
 | .ret,_,_,s,k=>k .ret s
 | _, _, _, _, _ => O.z "code"
def XZ (s:State O):ResultVar→Option (Val O)
 | .tmp t=>match s.getT t with
  | some ⟨[],.val v⟩=>some v
  | _=>none
 | .cell a T=>match s.getT a with
  | some ⟨[],.val ⟨false,[.ptr b off]⟩⟩=>match s.getB b with
   | some e=>match C0 e.cs off (P.cellsOf T) with
    | some cs=>match Hp P T cs.length with
     | true=>some { agg:=AN P T,cs }
     | false=>none
    | none=>none
   | none=>none
  | _=>none
def Fx (s:State O):List ResultVar→Option (List (Val O))
 | []=>some []
 | r::rs=>match XZ P s r,Fx s rs with
  | some v,some l=>some (v::l)
  | _,_=>none
def HI:List ResultVar→Nat
 | []=>0
 | .tmp t::r=>BX t ||| HI r
 | .cell t _::r=>BX t ||| HI r
def BI:Nat→List (AV O)→TM (TV O)→TM (TV O)
 | _,[],t=>t
 | i,v::r,t=>BI (i+1) r (Cv t i (some ⟨[],v⟩))
def Wi (cfg:Cfg):List TypeId→Option (List SlotC)
 | []=>some []
 | t::ts=>match Wi cfg ts with
  | none=>none
  | some r=>match AG P t with
   | .int k=>some (.int k::r)
   | .bool=>some (.bool::r)
   | .str=>some (.str::r)
   | .sl e=>some ((match ZC cfg e with | false=>.own e false | true=>.imm e false)::r)
   | _=>none
def Dc:List TypeId→List (AC O)→Option (List (Val O))
 | [],_=>some []
 | t::ts,cs=>match AM P t with
  | none=>none
  | some l=>match Dc ts (cs.drop l.length) with
   | none=>none
   | some r=>some ({ agg:=AN P t,cs:=cs.take l.length }::r)
def Gh:List TypeId→List (Val O)→Bool
 | [],[]=>true
 | t::ts,v::vs=>(match AM P t with
  | some l=>v.agg==AN P t&&AQ P l v.cs
  | none=>false)&&Gh ts vs
 | _,_=>false
def K5:Ex→Bool
 | .ext _=>true
 | _=>false
def TD (a:An):Ms:=match NL a.nrm a.ret with
 | some m=>m
 | none=>⟨0,0⟩
def Ur (rec':Code→Bool→Lv→State O→(Ex→State O→O.M)→O.M) (f:FuncId) (args:List (AV O)) (s:State O) (k:AV O→State O→O.M):O.M :=
  match P.funcs[f]? with
  | none => O.z "no such function"
  | some fn=>match fn.body with
    | none => O.z "a function without a body"
    | some body=>match Bk fn.ntmps body with
     | false => O.z "temporaries"
     | true =>
      let s1:State O:={ s with tm:=BI 0 args .e }
      let live:=HI fn.results.toList ||| (BX args.length - 1)
      let lv:Lv:={ nrm:=live,ret:=live,exts:=[] }
      let c:=cnt body
      match Nat.blt (c.nrm+c.ret) 2 || !(XS cfg s1 (TD (an P body))).isEmpty with
      | true=>rec' body false lv s1 fun e s'=>match K5 e,Fx P s' fn.results.toList with
        | false,some vs=>k (EO vs) { s' with tm:=s.tm }
        | _, _ => O.z "results"
      | false =>
        let a:=an P body
        let m:Ms:=TD a
        match Ef cfg s1 (Bi s1 m) [],(EK P fn.resultTypes.toList).bind (Wi P cfg) with
        | some sl,some rs =>
          let base:State O:={ s with bx:=Gd s (Bi s1 m),hp:=Hm s (QT s1 m) }
          let keep:=base.hp.map (·.1)
          O.e (rec' body true lv (cleaned s1) fun e s'=>match K5 e,Fx P s' fn.results.toList with
            | true, _ | _, none => O.z "results"
            | false,some vs=>match Gh P fn.resultTypes.toList vs&&H0 s' base.bx,IM s' base.hp,DK s' keep [] rs ((vs.map (·.cs)).flatten) with
              | true,true,.ok (ls,used)=>match Dk s' keep used sl with
                | .ok more=>O.a (ls++more)
                | .error e=>O.z e
              | true,true,.error e=>O.z e
              | _, _, _ => O.z "memory that a call does not know") fun c =>
            match FR c 0 base.st rs with
            | (xs,hs)=>match Dc P fn.resultTypes.toList xs with
              | none => O.z "results"
              | some vs=>k (EO vs) (A8 c rs.length (base.st+hs.length) sl { base with hp:=hs++base.hp })
        | _, _ => O.z "a layout of a call"
def XL:Nat→Code→Bool→Lv→State O→(Ex→State O→O.M)→O.M
 | 0 => fun _ _ _ _ _ => O.z "too deep"
 | n+1=>X P cfg (Ur P cfg (XL n))
def AU (give:Bool):Nat→List TypeId→List O.Lf→Option (List (AC O)×List (Nat×HEnt O)×List O.Lf)
 | _,[],ls=>some ([],[],ls)
 | q,t::ts,l::ls=>match AG P t,l with
  | .int k,.int i=>(AU give q ts ls).map fun (cs,h,r)=>(.int k i::cs,h,r)
  | .bool,.bool b=>(AU give q ts ls).map fun (cs,h,r)=>(.bool b::cs,h,r)
  | .str,.str s=>(AU give q ts ls).map fun (cs,h,r)=>(.str s::cs,h,r)
  | .sl e,.rows l=>match give with
   | false=>(AU give q ts ls).map fun (cs,h,r)=>(.imm e false l::cs,h,r)
   | true=>(AU give (q+1) ts ls).map fun (cs,h,r)=>(.own e q::cs,(q,{ e,frozen:=false,nw:=false,l,dirty:=true })::h,r)
  | _,_=>none
 | _,_::_,[]=>none
def Ab:List Bool→Nat→List TypeId→List Nat→List O.Lf→Option (List (AV O)×List (Nat×HEnt O))
 | _,_,[],[],[]=>some ([],[])
 | gv,q,t::ts,fns,ls=>match AG P t with
  | .fn=>match fns with
   | f::fns=>match Y8 P f with
    | some cts=>match Cq cts ls with
     | some (caps,ls)=>(Ab gv.tail q ts fns ls).map fun (r,h)=>(one (.fn f caps)::r,h)
     | none=>none
    | none=>none
   | []=>none
  | _=>match AM P t with
   | none=>none
   | some l=>match AU P (gv.headD false) q l ls with
    | none=>none
    | some (cs,h,ls)=>(Ab gv.tail (q+h.length) ts fns ls).map fun (r,hs)=>(.val { agg:=AN P t,cs }::r,h++hs)
 | _,_,[],_,_=>none
def JM {α:Type} (l:α):Except String (List α)→Except String (List α)
 | .ok ls=>.ok (l::ls)
 | .error e=>.error e
def CT (s:State O) (own:Nat→Bool) (nw:Bool) (used:List Nat):List (AC O)→Except String (List O.Lf)
 | []=>.ok []
 | c::r=>match c with
  | .int _ i=>JM (.int i) (CT s own nw used r)
  | .bool b=>JM (.bool b) (CT s own nw used r)
  | .str x=>JM (.str x) (CT s own nw used r)
  | .nil _=>JM (.rows O.y) (CT s own nw used r)
  | .imm e n l=>match !own e&&(n || !nw) with
   | true=>JM (.rows l) (CT s own nw used r)
   | false => .error "a result that is not fresh"
  | .own e id=>match s.getH id with
   | some h=>match (!own e || !h.frozen)&&(h.frozen || !BZ id used)&&(h.nw || !nw) with
    | true=>JM (.rows h.l) (CT s own nw (id::used) r)
    | false => .error "a result that is shared"
   | none => .error "a result that is gone"
  | _ => .error "a result that is no data"
def Yy (own:Nat→Bool) (s:State O):State O:={ s with hp:=s.hp.map fun (n,h)=>(n,{ h with frozen:=h.frozen || !own h.e }) }
def Y1 (own:Nat→Bool) (nw:Bool) (fn:Func) (e:Ex) (s':State O):O.M:=match K5 e,Fx P s' fn.results.toList with
 | true, _ | _, none => O.z "results"
 | false,some rs=>match Gh P fn.resultTypes.toList rs,CT s' own nw [] ((rs.map (·.cs)).flatten) with
  | true,.ok ls=>O.a ls
  | true,.error e=>O.z e
  | false, _ => O.z "results of other kinds"
def UV (own:Nat→Bool) (nw:Bool) (fn:Func):Ex→State O→O.M:=fun e s0=>Y1 P own nw fn e (Yy own s0)
def XF (own:Nat→Bool) (nw:Bool) (gives:List Bool) (f:FuncId) (fns:List Nat) (args:List O.Lf):O.M:=match P.funcs[f]? with
  | none => O.z "no such function"
  | some fn=>match fn.body,Ab P gives 1 fn.params.toList fns args with
    | some body,some (vs,hs)=>match Bk fn.ntmps body with
     | false => O.z "temporaries"
     | true =>
      let lv:Lv:={ nrm:=HI fn.results.toList,ret:=HI fn.results.toList,exts:=[] }
      XL P cfg 6 body true lv { tm:=BI 0 vs .e,bx:=[],hp:=hs,st:=1+hs.length } (UV P own nw fn)
    | none, _ => O.z "no body"
    | _, none => O.z "parameters"
end
end Go.Px
