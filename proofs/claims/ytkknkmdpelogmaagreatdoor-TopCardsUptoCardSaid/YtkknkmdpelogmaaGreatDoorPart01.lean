/- Part 1. -/
import GoSem.Step
set_option linter.unusedVariables false
set_option linter.unusedSimpArgs false
namespace Go.Px
theorem zzk(a b:Bool):((a&&b)=true)=(a=true∧b=true):=Bool.and_eq_true a b
theorem zzl{α:Type}{l:List α}{i:Nat}{a:α}:l.getD i a=l[i]?.getD a:=List.getD_eq_getElem?_getD
theorem zzm{α:Type}{a:α}{l:List α}:a∈a::l:=List.mem_cons_self
theorem zzn{α:Type}(y:α){a:α}{l:List α}:a∈l→a∈y::l:=List.mem_cons_of_mem y
theorem zzo{α:Type}{l:List α}{i:Nat}(h:i<l.length):l[i]?=some l[i]:=List.getElem?_eq_getElem h
theorem zzp{α β:Type}{x:Option α}{f:α→β}{b:β}:x.map f=some b↔∃a,x=some a∧f a=b:=Option.map_eq_some_iff
inductive Leaf(I B S L:Type) where
 |int (i:I)
 |bool (b:B)
 |str (s:S)
 |rows (l:L)
structure Alg where
 I:Type
 B:Type
 S:Type
 L:Type
 C:Type
 M:Type
 lit:IntKind→Int→I
 p:IntKind→I→I→I
 x:IntKind→I→I→I
 ak:IntKind→I→I→I
 an:IntKind→I→I→I
 as:IntKind→I→I→I
 aw:IntKind→I→I
 bb:Nat→IntKind→I→I→I
 be:Bool→IntKind→I→I→I
 ar:I→S
 le:I→I→B
 n:I→I→B
 e:I→I→B
 o:B
 g:B
 h:B→B
 af:B→B→B
 ao:B→B→B
 aj:B→I→I→I
 k:B→B→B→B
 az:B→S→S→S
 bf:B→L→L→L
 t:ByteArray→S
 au:S→S→B
 bg:S→S→B
 y:S→I
 bh:S→I→I
 bc:S→I→I→S
 ah:S→S→S
 bd:S→L
 u:L
 z:List (List (Leaf I B S L))→L
 ac:L→L→L
 l:L→I
 w:L→I→Nat→List (Leaf I B S L)→L
 ai:L→I→I→L
 am:I→List (Leaf I B S L)→L
 m:L→I→Nat→I
 rB:L→I→Nat→B
 rS:L→I→Nat→S
 rL:L→I→Nat→L
 ba:Nat→L→List I→I
 aq:Nat→L→List I→I
 ap:Nat→L→List I→L
 av:Nat→L→List I→Leaf I B S L→L
 bi:L→S
 bj:L→B
 d:C→Nat→I
 r:C→Nat→B
 cS:C→Nat→S
 j:C→Nat→L
 ad:C→Nat→B
 q:I→I→B
 al:I→I→I→B
 s:I→Nat→B
 a:List (Leaf I B S L)→M
 ae:String→M
 i:B→M→M
 b:B→M→M→M
 c:M→(C→M)→M
 f:Nat→List Nat→List (Leaf I B S L)→M
 v:((List (Leaf I B S L)→M)→C→M)→List (Leaf I B S L)→M
abbrev Alg.Lf(O:Alg):Type:=Leaf O.I O.B O.S O.L
inductive Cap(O:Alg) where
 |box (b off:Nat)
 |row (e:TypeId) (l:O.L)
inductive AC(O:Alg) where
 |int (k:IntKind) (i:O.I)
 |bool (b:O.B)
 |str (s:O.S)
 |nil (e:TypeId)
 |imm (e:TypeId) (nw:Bool) (l:O.L)
 |own (e:TypeId) (id:Nat)
 |ptr (b off:Nat)
 |aptr (b off n sz:Nat) (i:O.I) (inner:Nat)
 |eptr (id:Nat) (i:O.I) (off:Nat)
 |iptr (e:TypeId) (nw:Bool) (l:O.L) (i:O.I) (off:Nat)
 |fn (f:FuncId) (caps:List (Cap O))
 |nilptr
 |tail (e:TypeId) (id:Nat) (i:O.I)
 |mp (e:TypeId) (id:Nat)
 |any (T:TypeId)
 |opq (nw:Bool) (n:O.I)
 |qlit (b n:Nat)
def Cap.ac{O:Alg}:Cap O→AC O
 | .box b off=>.ptr b off
 | .row e l=>.iptr e false l (O.lit .i64 0) 0
def Cap.box?{O:Alg}:Cap O→List Nat
 | .box b _=>[b]
 | .row _ _=>[]
def JI{O:Alg}:List (Cap O)→List Nat
 | []=>[]
 |c::r=>c.box?++JI r
structure Val(O:Alg) where
 agg:Bool
 cs:List (AC O)
inductive AV(O:Alg) where
 |val (v:Val O)
 |tup (vs:List (Val O))
structure TV(O:Alg) where
 gs:List (Nat×Bool)
 v:AV O
structure BEnt(O:Alg) where
 cs:List (AC O)
 dirty:Bool
structure HEnt(O:Alg) where
 e:TypeId
 frozen:Bool
 nw:Bool
 l:O.L
 dirty:Bool
inductive TM(α:Type) where
 |e
 |leaf (a:α)
 |node (l r:TM α)
def TM.get{α:Type}:Nat→TM α→Nat→Option α
 |0,.leaf a,_=>some a
 |d+1,.node l r,k=>match Nat.beq (k%2) 0 with
  |true=>TM.get d l (k / 2)
  |false=>TM.get d r (k / 2)
 |_,_,_=>none
def TM.kids{α:Type}:TM α→TM α×TM α
 | .node l r=>(l,r)
 |_=>(.e,.e)
def TM.set{α:Type}:Nat→TM α→Nat→Option α→TM α
 |0,_,_,some a=>.leaf a
 |0,_,_,none=>.e
 |d+1,t,k,a=>match t.kids with
  |(l,r)=>match Nat.beq (k%2) 0 with
   |true=>.node (TM.set d l (k / 2) a) r
   |false=>.node l (TM.set d r (k / 2) a)
def AN{α:Type}:List (Nat×α)→Nat→Option α
 | [],_=>none
 |(j,a)::l,k=>match Nat.beq j k with
  |true=>some a
  |false=>AN l k
def Zd{α:Type}:List (Nat×α)→Nat→List (Nat×α)
 | [],_=>[]
 |(j,a)::l,k=>match Nat.beq j k with
  |true=>Zd l k
  |false=>(j,a)::Zd l k
def P4{α:Type}(l:List (Nat×α))(k:Nat):Option α→List (Nat×α)
 |some a=>(k,a)::Zd l k
 |none=>Zd l k
def fh:Nat:=9
structure State(O:Alg) where
 tm:TM (TV O)
 bx:List (Nat×BEnt O)
 hp:List (Nat×HEnt O)
 st:Nat
def Fo:Nat:=512
def Dh{α:Type}(t:TM α)(n:Nat):Option α:=match Nat.blt n Fo with
 |true=>TM.get fh t n
 |false=>none
def Gl{α:Type}(t:TM α)(n:Nat)(v:Option α):TM α:=match Nat.blt n Fo with
 |true=>TM.set fh t n v
 |false=>t
def State.getT{O:Alg}(s:State O)(n:Nat):Option (TV O):=Dh s.tm n
def State.getB{O:Alg}(s:State O)(n:Nat):Option (BEnt O):=AN s.bx n
def State.getH{O:Alg}(s:State O)(n:Nat):Option (HEnt O):=AN s.hp n
structure Wr(O:Alg) where
 ts:List (Nat×Option (TV O)):=[]
 bs:List (Nat×Option (BEnt O)):=[]
 hs:List (Nat×Option (HEnt O)):=[]
def State.applyT{O:Alg}(t:TM (TV O)):List (Nat×Option (TV O))→TM (TV O)
 | []=>t
 |(n,v)::r=>State.applyT (Gl t n v) r
def BR{α:Type}(t:List (Nat×α)):List (Nat×Option α)→List (Nat×α)
 | []=>t
 |(n,v)::r=>BR (P4 t n v) r
def State.apply{O:Alg}(s:State O)(w:Wr O):State O:=
 { tm:=State.applyT s.tm w.ts,bx:=BR s.bx w.bs,hp:=BR s.hp w.hs,st:=s.st }
def C3(k:Nat):Nat:=2 ^ k
def Vb(f:Nat→Nat){α:Type}:List (Nat×α)→Nat
 | []=>0
 |(n,_)::r=>C3 (f n) ||| Vb f r
def Wr.mask{O:Alg}(w:Wr O):Nat:=
 Vb (fun n=>3*n) w.ts ||| Vb (fun n=>3*n+1) w.bs ||| Vb (fun n=>3*n+2) w.hs
inductive RM(O:Alg)(α:Type) where
 |ret (a:α)
 |fail (w:String)
 |t (n:Nat) (f:Option (TV O)→RM O α)
 |b (n:Nat) (f:Option (BEnt O)→RM O α)
 |h (n:Nat) (f:Option (HEnt O)→RM O α)
def RM.bind{O:Alg}{α β:Type}:RM O α→(α→RM O β)→RM O β
 | .ret a,f=>f a
 | .fail w,_=>.fail w
 | .t n g,f=>.t n fun v=>(g v).bind f
 | .b n g,f=>.b n fun v=>(g v).bind f
 | .h n g,f=>.h n fun v=>(g v).bind f
instance {O:Alg}:Monad (RM O) where
 pure:=RM.ret
 bind:=RM.bind
def RM.run{O:Alg}{α:Type}(s:State O):RM O α→Nat→Except String (α×Nat)
 | .ret a,m=>.ok (a,m)
 | .fail w,_=>.error w
 | .t n g,m=>RM.run s (g (s.getT n)) (m ||| C3 (3*n))
 | .b n g,m=>RM.run s (g (s.getB n)) (m ||| C3 (3*n+1))
 | .h n g,m=>RM.run s (g (s.getH n)) (m ||| C3 (3*n+2))
def RM.ofOpt{O:Alg}{α:Type}(w:String):Option α→RM O α
 |some a=>.ret a
 |none=>.fail w
def RM.guard{O:Alg}(b:Bool)(w:String):RM O Unit:=match b with
 |true=>.ret ()
 |false=>.fail w
inductive LK where
 |int (k:IntKind)|bool|str|sl (e:TypeId)|ptr|fn|other|opq
def Vw:IntKind→IntKind→Bool
 | .i8,.i8 | .i16,.i16 | .i32,.i32 | .i64,.i64 | .u8,.u8 | .u16,.u16 | .u32,.u32 | .u64,.u64=>true
 |_,_=>false
def Eh(P:Program)(e:TypeId):Bool:=Nat.beq e 9&&(Nat.beq P.funcs.size 199||Nat.beq P.funcs.size 214)
def slK(b c:Bool)(e:TypeId):LK:=match b,c with|true,_=>.opq|false,true=>.sl e|false,false=>.other
def ptB:Nat:=1000000
def ptE(P:Program)(e:TypeId):Bool:=Nat.beq e 106&&Nat.beq P.funcs.size 214
def ptK(b:Bool)(e:TypeId):LK:=match b with|true=>.sl (e+ptB)|false=>.ptr
def AL(P:Program)(t:TypeId):LK:=match P.underlying t with
 |some (.int k)=>.int k
 |some .bool=>.bool
 |some .string=>.str
 |some (.slice e)=>slK (Eh P e) (Nat.blt e ptB) e
 |some (.pointer e)=>ptK (ptE P e) e
 |some (.func _ _ _)=>.fn
 |_=>.other
def EU{α:Type}:Nat→List α→List α
 |0,_=>[]
 |n+1,l=>l++EU n l
def Q1{α:Type}:List (Option (List α))→Option (List α)
 | []=>some []
 |none::_=>none
 |some a::r=>match Q1 r with
  |some b=>some (a++b)
  |none=>none
def B5(P:Program):Nat→TypeId→Option (List TypeId)
 |0,_=>none
 |n+1,t=>match P.underlying t with
  |some (.struct fs)=>Q1 (fs.toList.map fun f=>B5 P n f.type)
  |some (.array k e)=>(B5 P n e).map (EU k)
  |some (.tuple _)|some .invalid|some (.named _ _)|none=>none
  |some _=>some [t]
def Dx:Nat:=20
def AY(P:Program)(t:TypeId):Option (List TypeId):=match B5 P Dx t with
 |some l=>match Nat.beq l.length (P.cellsOf t)&&Nat.blt 0 l.length with
  |true=>some l
  |false=>none
 |none=>none
def Ag(P:Program)(t:TypeId):Bool:=match P.underlying t with
 |some (.struct _)|some (.array _ _)=>true
 |_=>false
def O3(P:Program)(t:TypeId):Option TypeId:=match P.underlying t with
 |some (.slice e)=>(match Nat.blt e ptB && !Eh P e with|false=>none|true=>some e)
 |_=>none
def ON(P:Program):Nat→List Field→Bool
 |_,[]=>true
 | off, f :: fs => match Nat.beq f.offset off && (f.name != "_"), P.underlying f.type with
  |true,some (.int .i64)=>ON P (off+1) fs
  |_,_=>false
def Vn(P:Program)(K:TypeId)(n:Nat)(c:Bool):Bool:=match P.underlying K with
 |some (.struct fs)=>ON P 0 fs.toList&&Nat.beq fs.toList.length n && !P.stoodInHeld K && !c
 |some (.int .i64)=>c&&Nat.beq n 1
 |_=>false
def AFE(P:Program)(V:TypeId)(p:Bool):Bool:=match p with
 |false=>(match P.underlying V with|some (.int .i64)=>true|_=>false)&&(match P.info? V with
  |some i=>(match i.zero with|some (.int .i64 z)=>z==0|_=>false)
  |none=>false)
 |true=>(match AL P V with | .sl e=>Nat.ble ptB e|_=>false)&&(match P.info? V with
  |some i=>(match i.zero with|some (.pointer none)=>true|_=>false)
  |none=>false)
def Mc(P:Program)(T:TypeId)(m:Nat):Bool:=match P.underlying T with
 |some (.map K V)=>Vn P K (m%16) (m.testBit 4)&&AFE P V (m.testBit 5)
 |_=>false
def mapM(P:Program)(T:TypeId):Nat:=match P.underlying T with
 |some (.map K V)=>P.cellsOf K+(match P.underlying K with|some (.int _)=>16|_=>0)+(match P.underlying V with|some (.pointer _)=>32|_=>0)
 |_=>0
def noSl(P:Program)(T:TypeId):Bool:=P.types.toList.all fun i=>match i.desc with
 | .slice e => !Nat.beq e T
 |_=>true
def DP(P:Program)(n:Nat):TypeId:=P.types.size+2+n
def Kl(P:Program)(T:TypeId):TypeId×TypeId:=match P.underlying T with
 |some (.map K V)=>(K,V)
 |_=>(T,T)
def AK:List Nat→List Nat→Bool
 | [],[]=>true
 |a::l,b::r=>match Nat.beq a b with
  |true=>AK l r
  |false=>false
 |_,_=>false
def DG(n:Nat):List Nat→Bool
 | []=>false
 |m::l=>match Nat.beq n m with
  |true=>true
  |false=>DG n l
def ZP(P:Program)(e:TypeId)(off:Nat)(t:TypeId):Option (List TypeId):=
 match AY P e,AY P t with
 |some l,some r=>match AK ((l.drop off).take r.length) r with
  |true=>some r
  |false=>none
 |_,_=>none
section
variable {O:Alg} (P:Program)
def Y2(t:TypeId)(v:Value):Option (AC O):=match AL P t,v with
 | .int k,.int k' n=>match Vw k k' with
  |true=>some (.int k (O.lit k n))
  |false=>none
 | .bool,.bool b=>some (.bool (match b with|true=>O.o|false=>O.g))
 | .str,.string s=>some (.str (O.t s))
 | .sl e,.slice none 0 0=>match AY P e with
  |some _=>some (.nil e)
  |none=>none
 | .ptr,.pointer none=>some .nilptr
 | .sl e,.pointer none=>(match Nat.blt e ptB with|true=>none|false=>some (.imm e true O.u))
 | .opq,.slice none 0 0=>some (.opq true (O.lit .i64 0))
 |_,_=>none
def UY:List TypeId→List Value→Option (List (AC O))
 | [],[]=>some []
 |t::ts,v::vs=>match Y2 P t v,UY ts vs with
  |some a,some r=>some (a::r)
  |_,_=>none
 |_,_=>none
def R4(t:TypeId)(v:Value):Option (Val O):=match v with
 | .agg cs=>match AY P t with
  |some ts=>match UY P ts cs.toList with
   |some l=>some { agg:=true,cs:=l }
   |none=>none
  |none=>none
 |v=>match Y2 P t v with
  |some c=>some { agg:=false,cs:=[c] }
  |none=>none
def JK(t:TypeId):Option (Val O):=match P.info? t with
 |some i=>match i.zero with
  |some v=>R4 P t v
  |none=>none
 |none=>none
def Q6(nw:Bool)(l:O.L)(i:O.I):Nat→List TypeId→Option (List (AC O))
 |_,[]=>some []
 |j,t::ts=>match Q6 nw l i (j+1) ts with
  |none=>none
  |some r=>match AL P t with
   | .int k=>some (.int k (O.m l i j)::r)
   | .bool=>some (.bool (O.rB l i j)::r)
   | .str=>some (.str (O.rS l i j)::r)
   | .sl e=>some (.imm e nw (O.rL l i j)::r)
   | .opq=>some (.opq nw (O.m l i j)::r)
   |_=>none
def A3(own:Nat→Bool)(nw:Bool)(c:O.C):Nat→Nat→List TypeId→Option (List (AC O)×List (Nat×HEnt O))
 |_,_,[]=>some ([],[])
 |j,q,t::ts=>match AL P t with
  | .int k=>(A3 own nw c (j+1) q ts).map fun(r,h)=>(.int k (O.d c j)::r,h)
  | .bool=>(A3 own nw c (j+1) q ts).map fun(r,h)=>(.bool (O.r c j)::r,h)
  | .str=>(A3 own nw c (j+1) q ts).map fun(r,h)=>(.str (O.cS c j)::r,h)
  | .sl e=>match own e with
   |true=>(A3 own nw c (j+1) (q+1) ts).map fun(r,h)=>(.own e q::r,(q,{ e,frozen:=false,nw,l:=O.j c j,dirty:=true })::h)
   |false=>(A3 own nw c (j+1) q ts).map fun(r,h)=>(.imm e nw (O.j c j)::r,h)
  | .opq=>(A3 own nw c (j+1) q ts).map fun(r,h)=>(.opq nw (O.d c j)::r,h)
  |_=>none
def ACs:List TypeId→Option (List O.Lf)
 | []=>some []
 |t::ts=>match ACs ts with
  |none=>none
  |some r=>match AL P t with
   | .int k=>some (.int (O.lit k 0)::r)
   | .bool=>some (.bool O.g::r)
   | .str=>some (.str (O.t ByteArray.empty)::r)
   | .sl _=>some (.rows O.u::r)
   | .opq=>some (.int (O.lit .i64 0)::r)
   |_=>none
end
def ZX:List (Nat×Bool)→List (Nat×Bool)→Bool
 | [],_=>true
 |(n,b)::r,ctx=>match ctx.any (fun(m,c)=>Nat.beq n m&&(b==c))with
  |true=>ZX r ctx
  |false=>false
inductive StepRes(O:Alg) where
 |plain (as:List O.B) (w:Wr O)
 |call (g:Option O.B) (f:FuncId) (fns:List Nat) (args:List O.Lf) (dflt:List O.Lf) (next:O.C→Option (Wr O))
 |inl (f:FuncId) (args:List (AV O))
 |inlg (g:O.B) (f:FuncId) (args:List (AV O)) (w:Wr O)
structure CI where
 f:FuncId
 fns:List Nat
 own:Bool
 nw:Bool
 gives:List Bool:=[]
 sk:List Nat:=[]
def CI.ow(ci:CI)(e:Nat):Bool:=ci.own&&(Nat.blt e ptB && !DG e ci.sk)
structure Cfg where
 gam:List CI
 imm:Bool:=false
 old:Bool:=false
 ie:List Nat:=[]
 stop:List Nat:=[]
def dv:List CI→Nat→List Nat→Option CI
 | [],_,_=>none
 |c::l,f,fns=>match Nat.beq c.f f&&AK c.fns fns with
  |true=>some c
  |false=>dv l f fns
section
variable {O:Alg} (P:Program) (cfg:Cfg)
def one(c:AC O):AV O:=.val { agg:=false,cs:=[c] }
def ev(ctx:List (Nat×Bool))(T:TypeId):Operand→RM O (AV O)
 | .tmp n=>.t n fun
  |some tv=>match ZX tv.gs ctx with
   |true=>.ret tv.v
   | false => .fail "a guarded temporary"
  | none => .fail "no such temporary"
 | .const v=>match R4 P T v with
  |some v=>.ret (.val v)
  | none => .fail "a constant"
 | .func f=>.ret (one (.fn f []))
 | .global _ => .fail "a global"
def evV(ctx:List (Nat×Bool))(T:TypeId)(x:Operand):RM O (Val O):=(ev P ctx T x).bind fun
 | .val v=>.ret v
 | .tup _ => .fail "a tuple"
def evC(ctx:List (Nat×Bool))(T:TypeId)(x:Operand):RM O (AC O):=(evV P ctx T x).bind fun v=>
 match v.agg,v.cs with
 |false,[c]=>.ret c
 | _, _ => .fail "not one cell"
def evI(ctx:List (Nat×Bool)):Operand→RM O (O.I)
 | .const (.int k n)=>.ret (O.lit k n)
 | .tmp n=>.t n fun
  |some tv=>match ZX tv.gs ctx,tv.v with
   |true,.val ⟨false,[.int _ i]⟩=>.ret i
   | _, _ => .fail "no integer"
  | none => .fail "no such temporary"
 | _ => .fail "no integer"
def Yy:List (Nat×Bool)→RM O (Option O.B)
 | []=>.ret none
 |(n,want)::r=>.t n fun
  |some ⟨_,.val ⟨false,[.bool b]⟩⟩=>(Yy r).bind fun g=>
   let c:=match want with|true=>b|false=>O.h b
   .ret (some (match g with|none=>c|some g=>O.af g c))
  | _ => .fail "no guard"
def Wf(ops:List Oper)(o:Oper):RM O (List (Nat×Bool)):=match o.guard with
 |none=>.ret []
 |some (j,want)=>match(ops[j]?).bind (·.dst)with
  |some d=>.t d fun
   |some tv=>.ret ((d,want)::tv.gs)
   | none => .fail "no such guard"
  | none => .fail "a guard without a value"
def oJ(g:Option O.B)(a:O.B):O.B:=match g with
 |none=>a
 |some g=>O.h (O.af g (O.h a))
def kU(b:O.B):AC O→AC O→Option (AC O)
 | .int k x,.int k' y=>match Vw k k' with
  |true=>some (.int k (O.aj b x y))
  |false=>none
 | .bool x,.bool y=>some (.bool (O.k b x y))
 | .str x,.str y=>some (.str (O.az b x y))
 | .imm e nw x,.imm e' nw' y=>match Nat.beq e e' with
  |true=>some (.imm e (nw&&nw') (O.bf b x y))
  |false=>none
 |_,_=>none
def F6(b:O.B):List (AC O)→List (AC O)→Option (List (AC O))
 | [],[]=>some []
 |x::xs,y::ys=>match kU b x y,F6 b xs ys with
  |some c,some r=>some (c::r)
  |_,_=>none
 |_,_=>none
def AEz(op:BinOp)(a b:O.I):Option O.B:=match op with
 | .eql=>some (O.e a b)
 | .neq=>some (O.h (O.e a b))
 | .lss=>some (O.n a b)
 | .leq=>some (O.le a b)
 | .gtr=>some (O.n b a)
 | .geq=>some (O.le b a)
 |_=>none
def eqC:AC O→AC O→Option O.B
 | .int k a,.int k' b=>match Vw k k' with
  |true=>some (O.e a b)
  |false=>none
 | .bool a,.bool b=>some (O.ao a b)
 | .str a,.str b=>some (O.au a b)
 |_,_=>none
def LP:List (AC O)→List (AC O)→Option O.B
 | [],[]=>some O.o
 | [x],[y]=>eqC x y
 |x::xs,y::ys=>match eqC x y,LP xs ys with
  |some a,some r=>some (O.af a r)
  |_,_=>none
 |_,_=>none
def Yd:LK→AC O→Bool
 | .int k,.int k' _=>Vw k k'
 | .bool,.bool _=>true
 | .str,.str _=>true
 |_,_=>false
def C8:List TypeId→List (AC O)→Bool
 | [],[]=>true
 |t::ts,c::cs=>match Yd (AL P t) c with
  |true=>C8 ts cs
  |false=>false
 |_,_=>false
def aF:Nat→List Field→Bool
 |_,[]=>true
 | off, f :: fs => match Nat.beq f.offset off && (f.name != "_") with
  |true=>aF (off+P.cellsOf f.type) fs
  |false=>false
def SP:Option (List Nat)→Option (List Nat)→Bool
 |some a,some b=>AK a b
 |_,_=>false
def aI:Nat→TypeId→Bool
 |0,_=>false
 |n+1,t=>match P.underlying t with
  |some .bool|some (.int _)|some .string=>SP (AY P t) (some [t])
  |some (.struct fs) => !P.stoodInHeld t&&aF P 0 fs.toList&&fs.toList.all (fun f=>aI n f.type)&&SP (AY P t) (Q1 (fs.toList.map fun f=>AY P f.type))
  |some (.array k e)=>aI n e&&SP (AY P t) ((AY P e).map (EU k))
  |_=>false
def I3:Operand→Bool
 | .const (.int _ n) => !(n==0)
 |_=>false
def tj:AC O→RM O (O.Lf×List (Nat×Option (HEnt O))×Bool)
 | .int _ i=>.ret (.int i,[],true)
 | .bool b=>.ret (.bool b,[],true)
 | .str s=>.ret (.str s,[],true)
 | .nil _=>.ret (.rows O.u,[],true)
 | .imm _ nw l=>.ret (.rows l,[],nw)
 | .opq nw n=>.ret (.int n,[],nw)
 | .own _ id=>.h id fun
  |some h=>.ret (.rows h.l,[(id,some { h with frozen:=true,dirty:=true })],h.nw)
  | none => .fail "a slice that is gone"
 | _ => .fail "no data"
def L9:List (AC O)→RM O (List O.Lf×List (Nat×Option (HEnt O))×Bool)
 | []=>.ret ([],[],true)
 |c::r=>(tj c).bind fun(a,h,n)=>(L9 r).bind fun(as,hs,ns)=>.ret (a::as,h++hs,n&&ns)
def EP{α:Type}:List α→Nat→List α→Option (List α)
 |l,_,[]=>some l
 | [],_,_::_=>none
 |x::l,0,y::ys=>(EP l 0 ys).map (y::·)
 |x::l,n+1,ys=>(EP l n ys).map (x::·)
def G4{α:Type}(l:List α)(off n:Nat):Option (List α):=
 let r:=(l.drop off).take n
 match Nat.beq r.length n with
 |true=>some r
 |false=>none
def UF(f:Nat→Option (List (AC O)))(i:O.I):Nat→Option (List (AC O))
 |0=>f 0
 |k+1=>match UF f i k,f (k+1)with
  |some r,some c=>F6 (O.e i (O.lit .i64 ((k+1:Nat):Int))) c r
  |_,_=>none
def tB(off sz inner:Nat)(i:O.I)(v:List (AC O)):Nat→List (AC O)→Option (List (AC O))
 |0,cs=>some cs
 |k+1,cs=>match G4 cs (off+k*sz+inner) v.length with
  |none=>none
  |some old=>match F6 (O.e i (O.lit .i64 (k:Int))) v old with
   |none=>none
   |some new=>match EP cs (off+k*sz+inner) new with
    |none=>none
    |some cs=>tB off sz inner i v k cs
def vG(T:TypeId):AC O→RM O (List (AC O))
 | .ptr b off=>.b b fun
  | some e => RM.ofOpt "load" (G4 e.cs off (P.cellsOf T))
  | none => .fail "no such variable"
 | .aptr b off n sz i inner=>.b b fun
  |some e=>
   match n with
   | 0 => .fail "an array of no elements"
   | n + 1 => RM.ofOpt "load of an element" (UF (fun k => G4 e.cs (off + k * sz + inner) (P.cellsOf T)) i n)
  | none => .fail "no such variable"
 | .eptr id i off=>.h id fun
  |some h=>match ZP P h.e off T with
   | some ts => RM.ofOpt "load of a row" (Q6 P h.nw h.l i off ts)
   | none => .fail "a row of another type"
  | none => .fail "a slice that is gone"
 | .iptr e nw l i off=>match ZP P e off T with
  | some ts => RM.ofOpt "load of a row" (Q6 P nw l i off ts)
  | none => .fail "a row of another type"
 | _ => .fail "load no address"
def eF:AC O→RM O (TypeId×O.L×Bool)
 | .nil e=>.ret (e,O.u,true)
 | .imm e nw l => (match Nat.blt e ptB with | true => .ret (e, l, nw) | false => .fail "no slice")
 | .own _ id=>.h id fun
  |some h=>.ret (h.e,h.l,h.nw)
  | none => .fail "a slice that is gone"
 | _ => .fail "no slice"
def Ue(T:TypeId)(f:Nat):Option Field:=match P.underlying T with
 |some (.struct fs)=>fs.toList[f]?
 |_=>none
def V2(n:Nat):AC O→Option (AC O)
 | .ptr b off=>some (.ptr b (off+n))
 | .aptr b off m sz i inner=>some (.aptr b off m sz i (inner+n))
 | .eptr id i off=>some (.eptr id i (off+n))
 | .iptr e nw l i off=>some (.iptr e nw l i (off+n))
 |_=>none
def Wy(place:Nat→Option (Nat×TypeId))(ctx:List (Nat×Bool)):List (Nat×Operand)→List (AC O)→RM O (List (AC O))
 | [],cs=>.ret cs
 |(i,x)::r,cs=>match place i with
  | none => .fail "no such part"
  | some (off, T) => (evV P ctx T x).bind fun v => (RM.guard (Nat.beq v.cs.length (P.cellsOf T) && Nat.blt 0 v.cs.length) "a part of another size").bind fun _ =>
   match EP cs off v.cs with
   |some cs=>Wy place ctx r cs
   | none => .fail "a part that does not fit"
def J1{α:Type}(n:Nat):Nat→List α→List (List α)
 |0,_=>[]
 |k+1,l=>l.take n::J1 n k (l.drop n)
def tI:List (List (AC O))→RM O (List (List O.Lf)×List (Nat×Option (HEnt O))×Bool)
 | []=>.ret ([],[],true)
 |c::r=>(L9 c).bind fun(a,h,n)=>(tI r).bind fun(as,hs,ns)=>.ret (a::as,h++hs,n&&ns)
def jN(lt:O.I→O.I→O.B):AC O→List (AC O)→Option (AC O)
 |c,[]=>some c
 | .int k x,.int k' y::r=>match Vw k k' with
  |true=>jN lt (.int k (O.aj (lt y x) y x)) r
  |false=>none
 |_,_=>none
def yX(ctx:List (Nat×Bool))(T:TypeId):List Operand→RM O (List (AC O))
 | []=>.ret []
 |x::r=>(evC P ctx T x).bind fun c=>(yX ctx T r).bind fun l=>.ret (c::l)
def Rb:AC O→Bool
 | .int _ _ | .bool _ | .str _ | .nil _=>true
 |_=>false
def Bj:LK→AC O→Bool
 | .int k,.int k' _=>Vw k k'
 | .bool,.bool _=>true
 | .str,.str _=>true
 | .sl e,.nil e'=>Nat.beq e e'
 | .sl e,.imm e' _ _=>Nat.beq e e'
 | .sl e,.own e' _=>Nat.beq e e'
 | .opq,.opq _ _=>true
 |_,_=>false
def Ai:List TypeId→List (AC O)→Bool
 | [],[]=>true
 |t::ts,c::cs=>match Bj (AL P t) c with
  |true=>Ai ts cs
  |false=>false
 |_,_=>false
def Lc(ts:List TypeId):List (List (AC O))→Bool
 | []=>true
 |r::rs=>match Ai P ts r with
  |true=>Lc ts rs
  |false=>false
def jI:Operand→Operand→Bool
 | .tmp a,.tmp b=>Nat.beq a b
 | .const (.int _ a),.const (.int _ b)=>decide (a=b)
 |_,_=>false
def UO:List (AC O)→Bool
 | []=>true
 | .any _::_=>false
 |_::r=>UO r
def mN(T:TypeId):List (AC O)→List (AC O)
 | [.nilptr,.nil e]=>[.any T,.nil e]
 |cs=>cs
def xh(T:TypeId)(v:List (AC O)):AC O→RM O (Wr O)
  | .ptr b off=>.b b fun
    | some e => (RM.guard (Nat.beq v.length (P.cellsOf T) && Nat.blt 0 v.length) "store size").bind fun _ =>
      (RM.ofOpt "store" (EP e.cs off v)).bind fun cs => (RM.guard (UO cs) "store").bind fun _ => .ret { bs := [(b, some { cs, dirty := true })] }
    | none => .fail "no such variable"
  | .aptr b off n sz i inner=>.b b fun
    |some e=>
      (RM.guard (Nat.beq v.length (P.cellsOf T) && Nat.blt 0 v.length) "store size").bind fun _ =>
      (RM.ofOpt "store of an element" (tB off sz inner i v n e.cs)).bind fun cs => (RM.guard (UO cs) "store").bind fun _ => .ret { bs := [(b, some { cs, dirty := true })] }
    | none => .fail "no such variable"
  | .eptr id i off=>.h id fun
    | some h => (RM.guard (!h.frozen) "a store into a shared slice").bind fun _ =>
      match ZP P h.e off T with
      | some ts => (RM.guard (Nat.beq v.length ts.length && Nat.beq v.length (P.cellsOf T)) "store size").bind fun _ =>
        (L9 v).bind fun (ls, fr, nw) => (RM.guard (Ai P ts v && !DG id (fr.map (·.1))) "store kinds").bind fun _ =>
          .ret { hs:=fr++[(id,some { h with l:=O.w h.l i off ls,nw:=h.nw&&nw,dirty:=true })] }
      | none => .fail "a row of another type"
    | none => .fail "a slice that is gone"
  | _ => .fail "store no address"
def sF(ctx:List (Nat×Bool)):List Operand→RM O (List (Cap O))
 | []=>.ret []
 |x::r=>(evC P ctx 0 x).bind fun
  | .ptr b off=>(sF ctx r).bind fun l=>.ret (.box b off::l)
  | _ => .fail "makeFunc captured"
def Zi(ctx:List (Nat×Bool)):List TypeId→List Operand→RM O (List (AV O))
 | [],[]=>.ret []
 |t::ts,x::xs=>(ev P ctx t x).bind fun v=>(Zi ctx ts xs).bind fun r=>.ret (v::r)
 | _, _ => .fail "arguments"
def AAa:AC O→Bool
 | .ptr .. | .aptr .. | .eptr .. | .iptr .. | .fn .. | .nilptr | .tail .. | .any .. | .qlit ..=>false
 |_=>true
def LS:List (AV O)→Option (List Nat)
 | []=>some []
 | .val ⟨false,[.fn f _]⟩::r=>(LS r).map (f::·)
 | .val v::r=>match v.cs.all AAa with
  |true=>LS r
  |false=>none
 | .tup _::_=>none
def mz(n:Nat):List Oper→Option TypeId
 | []=>none
 |o::r=>match o.op with
  | .load T (.tmp m) | .fieldAddr T (.tmp m) _=>match Nat.beq m n with
   |true=>some T
   |false=>mz n r
  |_=>mz n r
def orT:Option TypeId→Option TypeId→Option TypeId
 |some t,_=>some t
 |none,x=>x
def lV(n:Nat):Code→Option TypeId
 | .region _ ops _=>mz n ops.toList
 | .seq a b | .cond _ a b=>orT (lV n a) (lV n b)
 | .block _ b | .loop b | .scope b=>lV n b
 |_=>none
def xF(b:Code):Nat→Nat→Option (List TypeId)
 |_,0=>some []
 |n,k+1=>match lV n b,xF b (n+1) k with
  |some t,some r=>some (t::r)
  |_,_=>none
def yk(P:Program)(f:FuncId):Option (List TypeId):=match P.funcs[f]? with
 |some fn=>match fn.nfree with
  |0=>some []
  |k+1=>match fn.body with
   |some b=>xF b fn.params.size (k+1)
   |none=>none
 |none=>none
def vq(T:TypeId):Nat→List TypeInfo→Option TypeId
 |_,[]=>none
 |i,x::r=>match x.desc with
  | .slice e=>match Nat.beq e T with
   |true=>some i
   |false=>vq T (i+1) r
  |_=>vq T (i+1) r
def yl(P:Program)(T:TypeId):Bool:=match vq T 0 P.types.toList with
 |some t=>(match AL P t with | .sl e=>Nat.beq e T|_=>false)
 |none=>false
def pA:AC O→Bool
 | .int _ _ | .bool _ | .str _=>true
 |_=>false
def vn:List TypeId→List (Cap O)→RM O (List O.Lf)
  | [],[]=>.ret []
  |T::ts,.box b off::r=>.b b fun
    |some e=>match AY P T,G4 e.cs off (P.cellsOf T)with
      | some l, some cs => (RM.guard (Ai P l cs && cs.all pA && yl P T) "a variable that is taken along").bind fun _ =>
        (L9 cs).bind fun(ls,_,_)=>(vn ts r).bind fun more=>.ret (.rows (O.z [ls])::more)
      | _, _ => .fail "a variable that is taken along"
    | none => .fail "no such variable"
  | _, _ => .fail "what is taken along"
def F7:List TypeId→List O.Lf→Option (List (Cap O)×List O.Lf)
 | [],ls=>some ([],ls)
 |t::ts,.rows l::ls=>(F7 ts ls).map fun(c,r)=>(.row t l::c,r)
 |_::_,_=>none
def UH:List Bool→List Nat→List (AV O)→RM O (List O.Lf×List (Nat×Option (HEnt O))×List Nat)
 |_,used,[]=>.ret ([],[],used)
 | gv, used, .val ⟨false, [.fn f caps]⟩ :: r => (RM.ofOpt "what is taken along" (yk P f)).bind fun ts => (vn P ts caps).bind fun cl => (UH gv.tail used r).bind fun (ls', fr', u') => .ret (cl ++ ls', fr', u')
 |gv,used,.val v::r=>match gv.headD false with
  | true => .fail "gives"
  |false=>(L9 v.cs).bind fun(ls,fr,_)=>(UH gv.tail used r).bind fun(ls',fr',u')=>.ret (ls++ls',fr++fr',u')
 | _, _, .tup _ :: _ => .fail "arguments"
def lm(used:List Nat):List (Nat×Option (HEnt O))→Bool
 | []=>true
 |(n,_)::r => !DG n used&&lm used r
def Bw(own:Nat→Bool)(nw:Bool)(c:O.C):Nat→Nat→List TypeId→Option (List (Val O)×List (Nat×HEnt O))
 |_,_,[]=>some ([],[])
 |j,q,t::ts=>match AY P t with
  |none=>none
  |some l=>match A3 P own nw c j q l with
   |none=>none
   |some (cs,h)=>match Bw own nw c (j+l.length) (q+h.length) ts with
    |none=>none
    |some (vs,hs)=>some ({ agg:=Ag P t,cs }::vs,h++hs)
def LY:List (Val O)→AV O
 | [v]=>.val v
 |vs=>.tup vs
def Lk(P:Program):List TypeId→Option (List TypeId)
 | []=>some []
 |t::ts=>match AY P t,Lk P ts with
  |some a,some r=>some (a++r)
  |_,_=>none
def fT(P:Program):List TypeId→Nat
 | []=>0
 |t::ts=>(match AL P t with | .sl _ | .opq=>1|_=>0)+fT P ts
def kL(P:Program)(e:TypeId):Bool:=match AY P e with
 |some l=>Nat.beq (fT P l) 0
 |none=>false
def Bn(P:Program)(o:Oper):Nat:=match o.op with
 | .call c=>match c.callee with
  | .builtin _=>1
  |_=>16
 | .alloc _ | .box _ _ | .buildSlice _ _ _ | .makeSlice _ _ _ | .convert _ _ _ | .slice _ _ _ _ _=>1
 | .makeMap _ _ | .mapUpdate _ _ _ _ | .lookup _ _ _ _ | .mapEntry _ _ _ | .entryStore _ _ _ _=>1
 |_=>0
def LM:List TypeId→List (AV O)→Bool
 | [],[]=>true
 |t::ts,v::vs=>(match AL P t,v with
  | .fn,.val ⟨false,[.fn _ _]⟩=>true
  | .fn,_=>false
  |_,.val ⟨false,[.fn _ _]⟩=>false
  |_,.val v=>match AY P t with
   |some l=>v.agg==Ag P t&&Ai P l v.cs
   |none=>false
  |_,.tup _=>false)&&LM ts vs
 |_,_=>false
def V4:List (AV O)→Bool
 | []=>true
 | .val ⟨false,[.fn _ (_::_)]⟩::_=>false
 |_::r=>V4 r
def ACx{α:Type}(g:Option α)(b:Nat→Bool):Nat→Bool:=match g with
 |none=>b
 |some _=>fun _=>false
def SY(cfg:Cfg)(g:Option O.B):Option O.B:=match DG 60004 cfg.ie,g with
 |true,none=>some O.o
 |_,g=>g
def rx(ctx:List (Nat×Bool))(g:Option O.B)(id:Nat)(d:Option Nat)(ci:CI)(fn:Func)(fr:List (Nat×Option (HEnt O)))(u:List Nat):O.C→Option (Wr O):=fun c=>
 match Bw P (ACx g ci.ow) ci.nw c 0 id fn.resultTypes.toList with
  |none=>none
  |some (vs,nh)=>match Nat.ble nh.length 16 with
   |true=>some { ts:=match d with|some d=>[(d,some ⟨ctx,LY vs⟩)]|none=>[],hs:=(match ci.nw with|true=>[]|false=>fr)++(u.map (fun n=>(n,none))++nh.map fun(n,h)=>(n,some h)) }
   |false=>none
def mO(gives:List Bool):Bool:=Nat.blt 8 gives.length
def fU(gives:List Bool)(used:List Nat)(fr:List (Nat×Option (HEnt O))):Bool:=lm used fr&&(!mO gives||used.isEmpty)
def nW(ctx:List (Nat×Bool))(g:Option O.B)(d:Option Nat)(f:FuncId)(args:List (AV O)):RM O (StepRes O):=match DG f cfg.stop with
 | true => .fail "a function that is not entered"
 |false=>match g,ctx,d with
  |none,_,_=>.ret (.inl f args)
  |some b,[_],some d=>match(P.funcs[f]?).bind fun fn=>(match fn.resultTypes.toList with | [t]=>JK P t|_=>none)with
   |some z=>.ret (.inlg b f args { ts:=[(d,some ⟨ctx,.val z⟩)] })
   | none => .fail "a call under a guard that has no contract"
  | some _, _, _ => .fail "a call under a guard that has no contract"
def js(ctx:List (Nat×Bool))(g:Option O.B)(id:Nat)(d:Option Nat)(f:FuncId)(caps:List (Cap O))(args:List (AV O)):RM O (StepRes O):=
  let inl:RM O (StepRes O):=nW P cfg ctx g d f (args++caps.map fun c=>one c.ac)
  match caps with
  |_::_=>inl
  | []=>match LS args with
    |none=>inl
    |some fns=>match dv cfg.gam f fns with
      |none=>inl
      |some ci=>match P.funcs[f]? with
        | none => .fail "no such function"
        | some fn => (RM.guard (fn.body.isSome && !(fn.name == "runtime.NumGoroutine") && (LM P fn.params.toList args && (ci.nw || V4 args))) "a callee").bind fun _ =>
          (UH P ci.gives [] args).bind fun(ls,fr,used)=>match(Lk P fn.resultTypes.toList).bind (ACs P),fU ci.gives used fr with
          |some dm,true=>.ret (.call g f fns ls dm (rx P ctx (SY cfg g) id d ci fn fr used))
          | _, _ => .fail "a result that is no data"
abbrev Ly(O:Alg):=List O.B×AV O×List (Nat×Option (HEnt O))
def okP(as:List O.B)(v:AV O):RM O (Ly O):=.ret (as,v,[])
def Ro(T:TypeId)(n:Nat):Bool:=(P.underlying T).isSome&&(Ag P T||Nat.beq n 1)
def YH(e:TypeId):Bool:=Nat.ble ptB e&&(AY P e).isNone
def O9(c:AC O):List O.B×AC O:=match c with
 | .imm e nw l=>(match YH P e with|false=>([],.imm e nw l)|true=>([O.q (O.lit .i64 0) (O.l l)],.iptr (e-ptB) nw l (O.lit .i64 0) 0))
 |c=>([],c)
def yR(op:BinOp)(T:TypeId)(y:Operand)(a:Val O):Option O.B:=match y,a.agg,a.cs,AL P T with
 | .const (.pointer none),false,[.imm e _ l],.sl e'=>(match Nat.beq e e'&&YH P e,op with
  |true,.eql=>some (O.e (O.l l) (O.lit .i64 0))
  |true,.neq=>some (O.h (O.e (O.l l) (O.lit .i64 0)))
  |_,_=>none)
 |_,_,_,_=>none
def AAY(ctx:List (Nat×Bool))(ty:TypeId)(n:Nat)(a b:Operand):RM O (Ly O):=.t n fun
  |some tv=>match ZX tv.gs ctx,tv.v with
    |true,.val ⟨false,[.bool c]⟩=>
      (evV P ((n,true)::ctx) ty a).bind fun x=>(evV P ((n,false)::ctx) ty b).bind fun y=>
      match x.agg==y.agg,F6 c x.cs y.cs with
      |true,some cs=>okP [] (.val { agg:=x.agg,cs })
      | _, _ => .fail "pick"
    | _, _ => .fail "pick no bool"
  | none => .fail "no such temporary"
def ACh:BinOp→Option Nat
 | .and=>some 0
 | .or=>some 1
 | .xor=>some 2
 | .andNot=>some 3
 |_=>none
def AEM:BinOp→Option Bool
 | .shl=>some true
 | .shr=>some false
 |_=>none
def fY:Operand→Bool
 | .const (.int _ n)=>decide (0≤n)
 |_=>false
def yA(op:BinOp)(T:TypeId)(y:Operand)(a b:Val O):RM O (Ly O):=match a.agg,b.agg,a.cs,b.cs with
  |false,false,[.int k i],[.int k' j]=>match AEM op with
   |some l=>okP (match fY y with|true=>[]|false=>[O.le (O.lit k' 0) j]) (one (.int k (O.be l k i j)))
   |none=>match Vw k k' with
    | false => .fail "operands of different kinds"
    |true=>match ACh op with
     |some c=>okP [] (one (.int k (O.bb c k i j)))
     |none=>match op with
      | .add=>okP [] (one (.int k (O.p k i j)))
      | .sub=>okP [] (one (.int k (O.x k i j)))
      | .mul=>okP [] (one (.int k (O.ak k i j)))
      | .quo=>okP (match I3 y with|true=>[]|false=>[O.h (O.e j (O.lit k 0))]) (one (.int k (O.an k i j)))
      | .rem=>okP (match I3 y with|true=>[]|false=>[O.h (O.e j (O.lit k 0))]) (one (.int k (O.as k i j)))
      |op=>match AEz op i j with
        |some c=>okP [] (one (.bool c))
        | none => .fail "an operator on integers"
  |false,false,[.str s],[.str t]=>match op with
    | .eql=>okP [] (one (.bool (O.au s t)))
    | .neq=>okP [] (one (.bool (O.h (O.au s t))))
    | .lss=>okP [] (one (.bool (O.bg s t)))
    | .add=>okP [O.s (O.y s) 1,O.s (O.y t) 1] (one (.str (O.ah s t)))
    | _ => .fail "an operator on strings"
  |p,q,xs,ys=>match AY P T with
    | none => .fail "an operator"
    |some ts=>match p==Ag P T&&q==Ag P T&&aI P Dx T && !P.eqGuardType P.depth T&&C8 P ts xs&&C8 P ts ys,op,LP xs ys with
      |true,.eql,some c=>okP [] (one (.bool c))
      |true,.neq,some c=>okP [] (one (.bool (O.h c)))
      | _, _, _ => .fail "an operator"
def qL(src dst:TypeId)(c:AC O):RM O (Ly O):=match P.underlying src with
 | none => .fail "convert"
 |some _=>match AL P dst,c with
  | .int k,.int _ i=>okP [] (one (.int k (O.aw k i)))
  | .str,.str s=>okP [] (one (.str s))
  | .str,.int _ i=>okP [] (one (.str (O.ar i)))
  | _, _ => .fail "convert"
def Xv(T:TypeId)(p:AC O)(ix:Operand)(i:O.I):RM O (Ly O):=match P.underlying T with
 | some (.array n e) => (RM.guard (Nat.blt 0 (P.cellsOf e)) "indexAddr element").bind fun _ => match ix with
  | .const (.int _ c)=>match decide (0≤c∧c<n),V2 (c.toNat*P.cellsOf e) p with
   |true,some p=>okP [] (one p)
   | _, _ => .fail "indexAddr"
  |_=>match p with
   | .ptr b off=>okP [O.q i (O.lit .i64 n)] (one (.aptr b off n (P.cellsOf e) i 0))
   | _ => .fail "indexAddr an array in an array"
 |some (.slice e)=>match p with
  | .own e' h => (eF (AC.own e' h : AC O)).bind fun (_, l, _) => (RM.guard (Nat.beq e e') "indexAddr element").bind fun _ =>
   okP [O.q i (O.l l)] (one (.eptr h i 0))
  | .imm e' nw l => (RM.guard (Nat.beq e e' && Nat.blt e ptB) "indexAddr element").bind fun _ => okP [O.q i (O.l l)] (one (.iptr e' nw l i 0))
  | .nil e=>okP [O.g] (one (.iptr e true O.u i 0))
  | .qlit b n => (RM.guard (Nat.beq (P.cellsOf e) 1) "indexAddr element").bind fun _ => okP [O.q i (O.lit .i64 n)] (one (.aptr b 0 n 1 i 0))
  | _ => .fail "indexAddr no slice"
 | _ => .fail "indexAddr type"
def oc(T:TypeId)(v:Val O)(ix:Operand)(i:O.I):RM O (Ly O):=match P.underlying T,v.agg,v.cs with
 |some .string,false,[.str s]=>okP [O.q i (O.y s)] (one (.int .u8 (O.bh s i)))
 |some (.array n e),true,cs=>match ix with
  | .const (.int _ c)=>match decide (0≤c∧c<n),G4 cs (c.toNat*P.cellsOf e) (P.cellsOf e)with
   | true, some cs => (RM.guard (Ro P e cs.length) "index size").bind fun _ => okP [] (.val { agg := Ag P e, cs })
   | _, _ => .fail "index"
  |_=>match n with
   | 0 => .fail "an array of no elements"
   |n+1=>match UF (fun k=>G4 cs (k*P.cellsOf e) (P.cellsOf e)) i n with
    | some cs => (RM.guard (Ro P e cs.length) "index size").bind fun _ =>
     okP [O.q i (O.lit .i64 ((n+1:Nat):Int))] (.val { agg:=Ag P e,cs })
    | none => .fail "index of an array"
 | _, _, _ => .fail "index type"
def mG(ctx:List (Nat×Bool))(d:O.I):Option Operand→RM O O.I
 |none=>.ret d
 |some x=>evI ctx x
def Vh:Option Operand→Bool
 |none=>true
 |some (.const (.int _ n))=>decide (n=0)
 |_=>false
def ABu(ctx:List (Nat×Bool))(e':TypeId)(c:AC O)(lo hi:Option Operand):RM O (Ly O):=
  (eF c).bind fun (e, l, nw) => (RM.guard (Nat.beq e e' && Nat.blt e ptB) "slice").bind fun _ =>
  (mG ctx (O.lit .i64 0) lo).bind fun a=>(mG ctx (O.l l) hi).bind fun b=>match c with
  | .own _ h=>.h h fun
    |some en=>.ret ([O.al a b (O.l l)],one (.imm e nw (O.ai l a b)),[(h,some { en with frozen:=true,dirty:=true })])
    | none => .fail "a slice that is gone"
  |_=>okP [O.al a b (O.l l)] (one (.imm e nw (O.ai l a b)))
def o9(ctx:List (Nat×Bool))(T:TypeId)(c:AC O)(lo hi mx:Option Operand):RM O (Ly O):=match mx with
 |some m=>match P.underlying T,c,Vh lo,Vh hi&&hi.isSome,Vh (some m)with
  |some (.slice e'),.imm e _ _,true,true,true=>match Nat.beq e e'&&Nat.blt e ptB with
   |true=>okP [] (one (.nil e))
   | false => .fail "slice"
  | _, _, _, _, _ => .fail "slice with three bounds"
 |none=>match P.underlying T with
  |some .string=>match c with
   | .str s=>(mG ctx (O.lit .i64 0) lo).bind fun l=>(mG ctx (O.y s) hi).bind fun h=>
    okP [O.al l h (O.y s)] (one (.str (O.bc s l h)))
   | _ => .fail "slice"
  |some (.slice e')=>ABu ctx e' c lo hi
  | _ => .fail "slice"
def dg(ctx:List (Nat×Bool))(ty:TypeId):Op→RM O (Ly O)
  | .move x | .assign x=>(ev P ctx ty x).bind fun v=>okP [] v
  | .pick (.tmp n) a b=>AAY P ctx ty n a b
  | .build T parts=>match JK P T with
    | none => .fail "build"
    |some z=>match z.agg with
      | false => .fail "build"
      |true=>(match P.underlying T with
        | some (.struct fs) => (RM.guard (fs.toList.all fun f => (P.info? f.type).isSome) "build fields").bind fun _ =>
          Wy P (fun i=>(fs.toList[i]?).map fun(f:Field)=>(f.offset,f.type)) ctx parts.toList z.cs
        | some (.array _ e) => (RM.guard (Nat.blt 0 (P.cellsOf e)) "build element").bind fun _ => Wy P (fun i => some (i * P.cellsOf e, e)) ctx parts.toList z.cs
        | _ => .fail "build type").bind fun cs => okP [] (.val { agg := true, cs })
  | .load T a=>(evC P ctx T a).bind fun p0=>let(as,p):=O9 P p0;(vG P T p).bind fun cs=>
    (RM.guard (Ro P T cs.length) "load size").bind fun _ => okP as (.val { agg := Ag P T, cs })
  | .nilCheck x=>(evC P ctx ty x).bind fun p=>match p with
    | .ptr b off=>okP [] (one (.ptr b off))
    | .eptr i x off=>okP [] (one (.eptr i x off))
    | .iptr e nw l i off=>okP [] (one (.iptr e nw l i off))
    | .imm e nw l => (match YH P e with | false => .fail "nilCheck" | true => okP [O.q (O.lit .i64 0) (O.l l)] (one (.iptr (e - ptB) nw l (O.lit .i64 0) 0)))
    | .aptr b off n sz i inner=>okP [] (one (.aptr b off n sz i inner))
    | _ => .fail "nilCheck"
  | .binOp op T x y yT=>(evV P ctx T x).bind fun a=>(match yR P op T y a with
    |some c=>okP [] (one (.bool c))
    |none=>(evV P ctx yT y).bind fun b=>yA P op T y a b)
  | .unOp op T x=>(evC P ctx T x).bind fun c=>match op,c with
    | .not,.bool b=>okP [] (one (.bool (O.h b)))
    | .neg,.int k i=>okP [] (one (.int k (O.x k (O.lit k 0) i)))
    | .xor,.int k i=>okP [] (one (.int k (O.bb 2 k (O.lit k (match k.signed with|true => -1|false=>k.max)) i)))
    | _, _ => .fail "a unary operator"
  | .convert src dst x=>(evC P ctx src x).bind fun c=>qL P src dst c
  | .extract x i=>(ev P ctx ty x).bind fun
    | .tup vs=>match vs[i]? with
      |some v=>okP [] (.val v)
      | none => .fail "extract"
    | .val _ => .fail "extract"
  | .field T x f=>(evV P ctx T x).bind fun v=>match Ue P T f with
    | none => .fail "field"
    |some fd=>match v.agg,G4 v.cs fd.offset (P.cellsOf fd.type)with
      | true, some cs => (RM.guard (Ro P fd.type cs.length) "field size").bind fun _ => okP [] (.val { agg := Ag P fd.type, cs })
      | _, _ => .fail "field"
  | .fieldAddr T x f=>(evC P ctx T x).bind fun p=>match Ue P T f with
    | none => .fail "fieldAddr"
    | some fd => let (as, p) := O9 P p; (RM.guard (!Nat.beq (P.cellsOf fd.type) 0) "a field of no size").bind fun _ => match V2 fd.offset p with
      |some p=>okP as (one p)
      | none => .fail "fieldAddr no address"
  | .indexAddr T x ix=>(evC P ctx T x).bind fun p=>(evI ctx ix).bind fun i=>Xv P T p ix i
  | .index T x ix=>(evV P ctx T x).bind fun v=>(evI ctx ix).bind fun i=>oc P T v ix i
  | .slice T x lo hi mx=>(evC P ctx T x).bind fun c=>o9 P ctx T c lo hi mx
  | .makeFunc (.func f) first caps=>match first.toList with
    | []=>(sF P ctx caps.toList).bind fun l=>okP [] (one (.fn f l))
    | _ => .fail "makeFunc"
  | .call c=>match c.callee with
    | .builtin .len=>match c.args.toList,c.argTypes.toList with
      | [x],[T]=>match P.underlying T with
        |some (.array n _)=>okP [] (one (.int .i64 (O.lit .i64 n)))
        |some .string=>(evC P ctx T x).bind fun
          | .str s=>okP [] (one (.int .i64 (O.y s)))
          | _ => .fail "len"
        |some (.slice _)=>(evC P ctx T x).bind fun v=>(eF v).bind fun(_,l,_)=>okP [] (one (.int .i64 (O.l l)))
        | _ => .fail "len"
      | _, _ => .fail "len"
    | .builtin .min=>(yX P ctx ty c.args.toList).bind fun
      |v::u::r=>match jN O.n v (u::r)with
        |some m=>okP [] (one m)
        | none => .fail "min"
      | _ => .fail "min"
    | .builtin .max=>(yX P ctx ty c.args.toList).bind fun
      |v::u::r=>match jN (fun a b=>O.n b a) v (u::r)with
        |some m=>okP [] (one m)
        | none => .fail "max"
      | _ => .fail "max"
    | _ => .fail "call"
  | _ => .fail "an operation"
def iu(T:TypeId):Option TypeId:=match P.underlying T with
 |some (.slice e)=>(match Eh P e&&(Nat.beq (P.cellsOf e) 1&&(AY P e).isSome)with|true=>some e|false=>none)
 |_=>none
abbrev AEi(O:Alg):=List O.B×AC O×Wr O
def KS(ctx:List (Nat×Bool))(id:Nat):Op→RM O (AEi O)
  | .alloc T=>match JK P T with
    | some v => (RM.guard (Nat.beq v.cs.length (P.cellsOf T) && UO v.cs) "alloc size").bind fun _ => .ret ([], .ptr id 0, { bs := [(id, some { cs := mN T v.cs, dirty := true })] })
    | none => .fail "alloc"
  | .box T x => (evV P ctx T x).bind fun v => (RM.guard (UO v.cs) "a variable").bind fun _ => .ret ([], .ptr id 0, { bs := [(id, some { cs := v.cs, dirty := true })] })
  | .buildSlice T len parts=>match O3 P T with
    |none=>match iu P T with
      | none => .fail "buildSlice"
      |some e=>match JK P e with
        | none => .fail "buildSlice zero"
        | some z => (RM.guard (Nat.ble len 100000 && (Nat.blt 0 len && Nat.beq z.cs.length 1)) "buildSlice size").bind fun _ =>
          (Wy P (fun i => some (i * P.cellsOf e, e)) ctx parts.toList (EU len z.cs)).bind fun cs => (RM.guard (cs.all Rb) "a literal").bind fun _ =>
          .ret ([],.qlit id len,{ bs:=[(id,some { cs,dirty:=true })] })
    |some e=>match JK P e,AY P e with
      | some z, some ts => (RM.guard (Nat.ble (len * P.cellsOf e) 100000 && Nat.beq z.cs.length (P.cellsOf e)) "buildSlice size").bind fun _ =>
        (Wy P (fun i=>some (i*P.cellsOf e,e)) ctx parts.toList (EU len z.cs)).bind fun cs=>
        (tI (J1 (P.cellsOf e) len cs)).bind fun (rows, fr, nw) => (RM.guard (Lc P ts (J1 (P.cellsOf e) len cs)) "buildSlice kinds").bind fun _ =>
        .ret ([],.own e id,{ hs:=fr++[(id,some { e,frozen:=false,nw,l:=O.z rows,dirty:=true })] })
      | _, _ => .fail "buildSlice zero"
  | .makeSlice T len cap=>match O3 P T with
    | none => .fail "makeSlice"
    |some e=>match JK P e,P.info? e,AY P e with
      | some z, some ti, some ts => (evI ctx len).bind fun n => (RM.guard (jI len cap && Lc P ts [z.cs] && z.cs.all Rb) "makeSlice cap").bind fun _ =>
        (L9 z.cs).bind fun(ls,_,_)=>
        .ret ([O.s n ti.bytes],.own e id,{ hs:=[(id,some { e,frozen:=false,nw:=true,l:=O.am n ls,dirty:=true })] })
      | _, _, _ => .fail "makeSlice zero"
  | .call c=>match c.callee,c.args.toList,c.argTypes.toList with
    | .builtin .append,[x,y],[T,U]=>match O3 P T,O3 P U with
      | some e, some e' => (RM.guard (Nat.beq T U) "append types").bind fun _ => (evC P ctx T x).bind fun a => (evC P ctx U y).bind fun b =>
        (eF b).bind fun(eb,lb,nb')=>
        let nb:=nb'||kL P e
        match P.info? e,AY P e,JK (O:=O) P e with
        | some ti, some _, some z => (RM.guard (Nat.beq e eb && Nat.beq z.cs.length (P.cellsOf e)) "append elements").bind fun _ => match a with
          | .nil ea => (RM.guard (Nat.beq e ea) "append elements").bind fun _ =>
            .ret ([O.s (O.l lb) ti.bytes],.own e id,{ hs:=[(id,some { e,frozen:=false,nw:=nb,l:=lb,dirty:=true })] })
          | .own ea i=>.h i fun
            | some h => (RM.guard (!h.frozen && Nat.beq e ea && Nat.beq e h.e) "append to a shared slice").bind fun _ =>
              .ret ([O.s (O.l (O.ac h.l lb)) ti.bytes],.own e id,
                { hs:=[(i,none),(id,some { e,frozen:=false,nw:=h.nw&&nb,l:=O.ac h.l lb,dirty:=true })] })
            | none => .fail "append a slice that is gone"
          | _ => .fail "append to a slice that came in"
        | _, _, _ => .fail "append type"
      | _, _ => .fail "append types"
    | _, _, _ => .fail "call"
  | .convert src dst x=>(evC P ctx src x).bind fun c=>match AL P src,AL P dst,c with
    | .str,.sl e,.str s=>match AL P e,AY P e with
      | .int .u8,some [t]=>match AL P t,Nat.blt e ptB with
        | .int .u8,true=>.ret ([],.imm e true (O.bd s),{})
        | _, _ => .fail "convert"
      | _, _ => .fail "convert"
    | _, _, _ => .fail "convert"
  | _ => .fail "an operation"
def ym:Op→Bool
 | .alloc _ | .box _ _ | .buildSlice _ _ _ | .makeSlice _ _ _=>true
 | .convert _ dst _=>match AL P dst with
  | .sl _=>true
  |_=>false
 | .call c=>match c.callee with
  | .builtin .append=>true
  |_=>false
 |_=>false
def ik:List (Nat×Option (HEnt O))→RM O (List (Nat×Option (HEnt O)))
 | []=>.ret []
 |(n,_)::r=>.h n fun
  |some h=>(ik r).bind fun l=>.ret ((n,some { h with frozen:=true,dirty:=true })::l)
  | none => .fail "a slice that is gone"
def ACt(ctx:List (Nat×Bool))(id:Nat):Op→RM O (AC O)
 | .buildSlice T len parts=>(KS P ctx id (.buildSlice T len parts)).bind fun(as,c,w)=>match as,c,w.hs,w.bs with
  | [],.own e q,[(j,some h)],[]=>match Nat.beq q id&&(Nat.beq j id&&Nat.beq e h.e)with
   |true=>.ret (.imm e h.nw h.l)
   | false => .fail "a literal under a guard"
  | _, _, _, _ => .fail "a literal under a guard"
 | _ => .fail "an operation under a guard"
inductive Spec where
 |take (T:TypeId) (x hi:Operand)
 |tail (T:TypeId) (x lo:Operand)
 |clr (T:TypeId) (x:Operand)
 |mkMap (T:TypeId)
 |mapUpd (T:TypeId) (m k v:Operand)
 |mapGet (T:TypeId) (m k:Operand)
 |mapEnt (T:TypeId) (m k:Operand)
 |mapSto (T:TypeId) (m x v:Operand)
 |qapp (T U:TypeId) (x y:Operand)
def rR:List (AC O)→Option (List O.I)
 | []=>some []
 | .int .i64 i::r=>match rR r with
  |some l=>some (i::l)
  |none=>none
 |_=>none
def Zx(c:Bool)(v:Val O):Option (List O.I):=match v.agg == !c with
 |true=>rR v.cs
 |false=>none
def iX(O:Alg)(l:O.L)(ks:List O.I)(z:O.Lf):O.L:=O.av ks.length l ks z
def iU(O:Alg)(l:O.L)(ks:List O.I):O.I:=O.aq ks.length l ks
def AF1(O:Alg)(l:O.L)(ks:List O.I):O.L:=O.ap ks.length l ks
def PB(cfg:Cfg):Op→Option Spec
 | .slice T x lo (some hi) none=>match DG 60001 cfg.ie&&Vh lo with
  |true=>some (.take T x hi)
  |false=>none
 | .slice T x (some lo) none none=>match DG 60001 cfg.ie with
  |true=>some (.tail T x lo)
  |false=>none
 | .call ⟨.builtin .clear,args,tys⟩=>match args.toList,tys.toList with
  | [x],[T]=>some (.clr T x)
  |_,_=>none
 | .call ⟨.builtin .append,args,tys⟩=>match args.toList,tys.toList with
  | [x,y],[T,U]=>some (.qapp T U x y)
  |_,_=>none
 | .makeMap T none=>some (.mkMap T)
 | .mapUpdate T m k v=>some (.mapUpd T m k v)
 | .lookup T m k false=>some (.mapGet T m k)
 | .mapEntry T m k=>some (.mapEnt T m k)
 | .entryStore T m x v=>some (.mapSto T m x v)
 |_=>none
def fC(ctx:List (Nat×Bool))(id:Nat)(d:Option Nat)(T:TypeId)(hi:Operand)(c:AC O):RM O (Option (StepRes O)):=match c,O3 P T,d with
  | .own e q,some e',some d=>.h q fun
    |some en=>match !en.frozen&&(Nat.beq e en.e&&Nat.beq e e')with
      |true=>(evI ctx hi).bind fun b=>.ret (some (.plain [O.al (O.lit .i64 0) b (O.l en.l)]
          { ts:=[(d,some ⟨ctx,one (.own e id)⟩)],hs:=[(q,none),(id,some { en with l:=O.ai en.l (O.lit .i64 0) b,dirty:=true })] }))
      |false=>.ret none
    | none => .fail "a slice that is gone"
  |_,_,_=>.ret none
def dA(ctx:List (Nat×Bool))(d:Option Nat)(T:TypeId)(lo:Operand)(c:AC O):RM O (Option (StepRes O)):=match c,O3 P T,d with
 | .own e q,some e',some d=>.h q fun
  |some en=>match !en.frozen&&(Nat.beq e en.e&&Nat.beq e e')with
   |true=>(evI ctx lo).bind fun i=>.ret (some (.plain [O.al i (O.l en.l) (O.l en.l)] { ts:=[(d,some ⟨ctx,one (.tail e q i)⟩)] }))
   |false=>.ret none
  | none => .fail "a slice that is gone"
 |_,_,_=>.ret none
def rO(d:Option Nat)(T:TypeId)(c:AC O):RM O (Option (StepRes O)):=match c,O3 P T,d with
 | .tail e q i,some e',none=>.h q fun
  |some en=>match JK P e,AY P e with
   | some z, some ts => (RM.guard (!en.frozen && (Nat.beq e en.e && Nat.beq e e') && (Lc P ts [z.cs] && z.cs.all Rb)) "clear").bind fun _ => (L9 z.cs).bind fun (ls, _, _) =>
    .ret (some (.plain [] { hs:=[(q,some { en with l:=O.ac (O.ai en.l (O.lit .i64 0) i) (O.am (O.l (O.ai en.l i (O.l en.l))) ls),dirty:=true })] }))
   | _, _ => .fail "clear"
  | none => .fail "a slice that is gone"
 | _, _, _ => .fail "clear"
def Vv(T:TypeId)(m:Nat)(c:AC O):RM O (Nat×HEnt O):=match c with
 | .mp e q=>.h q fun
  |some en=>match !en.frozen&&((Nat.beq e (DP P m)&&Nat.beq en.e e)&&Mc P T m)with
   |true=>.ret (q,en)
   | false => .fail "another map"
  | none => .fail "a map that is gone"
 | _ => .fail "no map"
def UN(ctx:List (Nat×Bool))(T:TypeId)(m:Nat)(k:Operand):RM O (List O.I):=
  (evV P ctx T k).bind fun kv => (RM.ofOpt "a key" (Zx (m.testBit 4) kv)).bind fun ks => (RM.guard (Nat.beq ks.length (m % 16)) "a key").bind fun _ => .ret ks
def kF:AC O→RM O O.I
 | .int .i64 z=>.ret z
 | _ => .fail "no int"
def AB5(V:TypeId)(c:AC O):RM O (List O.B×O.L×Bool):=match AL P V,c with
 | .sl e, .imm e' nw l => (RM.guard (Nat.beq e e') "a pointer").bind fun _ => .ret ([], l, nw)
 | .sl e, .iptr e' nw l i off => (RM.guard (Nat.beq e (e' + ptB) && Nat.beq off 0) "a pointer").bind fun _ => .ret ([O.s i 1], O.ai l i (O.p .i64 i (O.lit .i64 1)), nw)
 | _, _ => .fail "no pointer"
def yM(d:Option Nat)(T:TypeId)(c:AC O)(ks:List O.I)(x:AC O):RM O (Option (StepRes O)):=match d,(mapM P T).testBit 5 with
 |none,false=>(kF x).bind fun z=>(Vv P T (mapM P T) c).bind fun(q,en)=>.ret (some (.plain [] { hs:=[(q,some { en with l:=iX O en.l ks (.int z),dirty:=true })] }))
 | none, true => (AB5 P (Kl P T).2 x).bind fun (as, l, nw) => (Vv P T (mapM P T) c).bind fun (q, en) => (RM.guard (nw || !en.nw) "a map").bind fun _ =>
  .ret (some (.plain as { hs:=[(q,some { en with l:=iX O en.l ks (.rows l),dirty:=true })] }))
 | some _, _ => .fail "a map"
def vg(T:TypeId)(en:HEnt O)(ks:List O.I):Option (AC O):=match(mapM P T).testBit 5,AL P (Kl P T).2 with
 |false,_=>some (.int .i64 (iU O en.l ks))
 |true,.sl e=>some (.imm e en.nw (AF1 O en.l ks))
 |_,_=>none
def aH(ctx:List (Nat×Bool))(d:Option Nat)(T:TypeId)(c:AC O)(ks:List O.I):RM O (Option (StepRes O)):=match d with
 | some d => (Vv P T (mapM P T) c).bind fun (q, en) => (RM.ofOpt "a map" (vg P T en ks)).bind fun v => .ret (some (.plain [] { ts := [(d, some ⟨ctx, one v⟩)] }))
 | none => .fail "a map"
def lM(ctx:List (Nat×Bool))(d:Option Nat)(T:TypeId)(c:AC O)(ks:List O.I):RM O (Option (StepRes O)):=match d,(mapM P T).testBit 5 with
 |some d,false=>(Vv P T (mapM P T) c).bind fun(q,en)=>.ret (some (.plain [] { ts:=[(d,some ⟨ctx,.tup [{ agg:=false,cs:=[.int .i64 (iU O en.l ks)] },{ agg:=false,cs:=[.int .i64 (O.ba ks.length en.l ks)] }]⟩)],hs:=[(q,some { en with l:=iX O en.l ks (.int (iU O en.l ks)),dirty:=true })] }))
 | _, _ => .fail "a map"
def xz(d:Option Nat)(T:TypeId)(c:AC O)(i z:O.I):RM O (Option (StepRes O)):=match d,(mapM P T).testBit 5 with
 |none,false=>(Vv P T (mapM P T) c).bind fun(q,en)=>.ret (some (.plain [O.q i (O.l en.l)] { hs:=[(q,some { en with l:=O.w en.l i (mapM P T%16) [.int z],dirty:=true })] }))
 | _, _ => .fail "a map"
def sI(ctx:List (Nat×Bool))(id:Nat)(d:Option Nat)(T:TypeId)(m:Nat):RM O (Option (StepRes O)):=
 match d,Mc P T m&&(noSl P (DP P m)&&(Nat.blt m 200&&Nat.blt (DP P m) ptB))with
 |some d,true=>.ret (some (.plain [] { ts:=[(d,some ⟨ctx,one (.mp (DP P m) id)⟩)],hs:=[(id,some { e:=DP P m,frozen:=false,nw := !m.testBit 5,l:=O.u,dirty:=true })] }))
 | _, _ => .fail "a map"
def un(ctx:List (Nat×Bool))(d:Option Nat)(T U:TypeId)(a b:AC O):RM O (Option (StepRes O)):=match iu P T,d,a,b with
 |some e,some d,.opq true n,.qlit q m=>match P.info? e,JK (O:=O) P e with
  |some ti,some z=>.b q fun
   | some en => (RM.guard (Nat.beq T U && Nat.beq z.cs.length 1 && (Nat.ble m en.cs.length && (Nat.blt 0 m && Nat.ble m 100000))) "append types").bind fun _ =>
    .ret (some (.plain [O.s n 1,O.s (O.p .i64 n (O.lit .i64 m)) ti.bytes] { ts:=[(d,some ⟨ctx,one (.opq true (O.p .i64 n (O.lit .i64 m)))⟩)] }))
   | none => .fail "no such variable"
  | _, _ => .fail "append type"
 |_,_,_,_=>.ret none
def PC(ctx:List (Nat×Bool))(id:Nat)(d:Option Nat):Spec→RM O (Option (StepRes O))
 | .mkMap T=>sI P ctx id d T (mapM P T)
 | .mapUpd T m k v=>(evC P ctx T m).bind fun c=>(UN P ctx (Kl P T).1 (mapM P T) k).bind fun ks=>(evC P ctx (Kl P T).2 v).bind fun x=>yM P d T c ks x
 | .mapGet T m k=>(evC P ctx T m).bind fun c=>(UN P ctx (Kl P T).1 (mapM P T) k).bind fun ks=>aH P ctx d T c ks
 | .mapEnt T m k=>(evC P ctx T m).bind fun c=>(UN P ctx (Kl P T).1 (mapM P T) k).bind fun ks=>lM P ctx d T c ks
 | .mapSto T m x v=>(evC P ctx T m).bind fun c=>(evC P ctx 0 x).bind fun x=>(kF x).bind fun i=>(evC P ctx (Kl P T).2 v).bind fun y=>(kF y).bind fun z=>xz P d T c i z
 | .take T x hi=>(evC P ctx T x).bind fun c=>fC P ctx id d T hi c
 | .tail T x lo=>(evC P ctx T x).bind fun c=>dA P ctx d T lo c
 | .clr T x=>(evC P ctx T x).bind fun c=>rO P d T c
 | .qapp T U x y=>match iu P T with
  |some _=>(evC P ctx T x).bind fun c=>(evC P ctx U y).bind fun b=>un P ctx d T U c b
  |none=>.ret none
def XC(ctx:List (Nat×Bool))(g:Option O.B)(o:Oper)(id:Nat):RM O (StepRes O):=match o.op,ym P o.op with
 | .store T a x,_=>match g with
  | some _ => .fail "a store under a guard"
  |none=>(evC P ctx T a).bind fun p=>(evV P ctx T x).bind fun v=>(xh P T v.cs p).bind fun w=>match o.dst with
   |none=>.ret (.plain [] w)
   | some _ => .fail "a store with a value"
 | .call ⟨.value f,args,_⟩,_=>(ev P ctx 0 f).bind fun
  | .val ⟨false,[.fn f caps]⟩=>match P.funcs[f]? with
   | none => .fail "no such function"
   | some fn => (RM.guard (fn.body.isSome && !(fn.name == "runtime.NumGoroutine")) "a callee without a body").bind fun _ => (Zi P ctx (fn.params.toList.take args.size) args.toList).bind fun args => js P cfg ctx g id o.dst f caps args
  | _ => .fail "call no function"
 |op,true=>match g,o.dst with
  |none,some d=>(KS P ctx id op).bind fun(as,c,w)=>.ret (.plain as { w with ts:=[(d,some ⟨ctx,one c⟩)] })
  |some _,some d=>(ACt P ctx id op).bind fun c=>.ret (.plain [] { ts:=[(d,some ⟨ctx,one c⟩)] })
  | _, none => .fail "an operation under a guard"
 |op,false=>match o.dst with
  |some d=>(dg P ctx o.type op).bind fun(as,v,fr)=>(ik fr).bind fun fr=>.ret (.plain (as.map (oJ g)) { ts:=[(d,some ⟨ctx,v⟩)],hs:=fr })
  | none => .fail "an operation without a value"
def rh(ctx:List (Nat×Bool))(g:Option O.B)(o:Oper)(id:Nat):RM O (StepRes O):=match g,PB cfg o.op with
 |none,some sp=>(PC P ctx id o.dst sp).bind fun
  |some r=>.ret r
  |none=>XC P cfg ctx g o id
 |_,_=>XC P cfg ctx g o id
def FY(ops:List Oper)(o:Oper)(id:Nat):RM O (StepRes O):=
  (Wf ops o).bind fun ctx=>(Yy ctx).bind fun g=>rh P cfg ctx g o id
end
structure Ms where
 t:Nat
 r:Nat
def Ms.or(a b:Ms):Ms:=⟨a.t ||| b.t,a.r ||| b.r⟩
def Zl:Option Ms→Option Ms→Option Ms
 |some a,some b=>some (a.or b)
 |some a,none=>some a
 |none,b=>b
def km(a:Ms):Option Ms→Option Ms
 |some b=>some (a.or b)
 |none=>none
structure An where
 nrm:Option Ms
 ret:Option Ms
 exts:List (Nat×Ms)
def Bd:List (Nat×Ms)→Nat→Option Ms
 | [],_=>none
 |(j,m)::l,k=>match Nat.beq j k with
  |true=>some m
  |false=>Bd l k
def OQ:List (Nat×Ms)→Nat→List (Nat×Ms)
 | [],_=>[]
 |(j,m)::l,k=>match Nat.beq j k with
  |true=>OQ l k
  |false=>(j,m)::OQ l k
def ZH(l:List (Nat×Ms))(k:Nat)(m:Ms):List (Nat×Ms):=match Bd l k with
 |some m'=>(k,m'.or m)::OQ l k
 |none=>(k,m)::l
def UV:List (Nat×Ms)→List (Nat×Ms)→List (Nat×Ms)
 | [],r=>r
 |(k,m)::l,r=>UV l (ZH r k m)
def R1(ops:List Oper):Nat→Nat→Nat
 |0,t=>t
 |n+1,t=>match ops.find? (fun o=>match o.dst with|some d=>Nat.beq d t|none=>false)with
  |some o=>match o.op with
   | .fieldAddr _ (.tmp x) _ | .indexAddr _ (.tmp x) _ | .nilCheck (.tmp x) | .move (.tmp x) | .load _ (.tmp x) | .assign (.tmp x)=>R1 ops n x
   |_=>t
  |none=>t
def w8(P:Program)(all:List Oper):Operand→Nat
 | .tmp a=>match all.find? (fun o=>match o.dst with|some d=>Nat.beq d a|none=>false)with
  |some o=>match AL P o.type with
   | .ptr | .fn=>C3 (R1 all 40 a)
   |_=>0
  |none=>0
 |_=>0
def AB4(P:Program)(all:List Oper):Operand→List Operand→Nat
 | .func f,.tmp a::_=>match P.funcs[f]? with
  |some fn=>match fn.params[0]? with
   |some t=>match AL P t with
    | .ptr=>C3 (R1 all 40 a)
    |_=>0
   |none=>0
  |none=>0
 |_,_=>0
def AEs(P:Program)(all:List Oper):Operand→List Operand→Nat
 | .func f,args=>match P.funcs[f]? with
  |some fn=>match fn.resultTypes.toList with
   | []=>args.foldl (fun m x=>m ||| (match x with
    | .tmp a=>match all.find? (fun o=>match o.dst with|some d=>Nat.beq d a|none=>false)with
     |some o=>match AL P o.type with
      | .sl _=>C3 (R1 all 40 a)
      |_=>0
     |none=>0
    |_=>0)) 0
   |_=>0
  |none=>0
 |_,_=>0
def uA(P:Program)(all:List Oper):List Oper→Nat
 | []=>0
 |o::r=>(match o.op with
  | .store _ (.tmp a) _=>C3 (R1 all 40 a)
  | .makeFunc _ _ caps=>caps.toList.foldl (fun m x=>m ||| (match x with | .tmp a=>C3 (R1 all 40 a)|_=>0)) 0
  | .mapUpdate _ (.tmp a) _ _ | .mapEntry _ (.tmp a) _ | .entryStore _ (.tmp a) _ _=>C3 (R1 all 40 a)
  | .call c=>match c.callee with
   | .value f=>c.args.toList.foldl (fun m x=>m ||| w8 P all x) (w8 P all f) ||| AB4 P all f c.args.toList ||| AEs P all f c.args.toList
   | .builtin .append=>match c.args.toList with
    | .tmp a::_=>C3 (R1 all 40 a)
    |_=>0
   |_=>0
  |_=>0) ||| uA P all r
def fe:List Oper→Nat
 | []=>0
 |o::r=>(match o.dst with|some d=>C3 d|none=>0) ||| fe r
def an(P:Program):Code→An
 | .skip=>⟨some ⟨0,0⟩,none,[]⟩
 | .region _ ops _=>⟨some ⟨fe ops.toList,uA P ops.toList ops.toList⟩,none,[]⟩
 | .seq a b=>match an P a with
  |⟨none,r,e⟩=>⟨none,r,e⟩
  |⟨some m,r,e⟩=>match an P b with
   |⟨n',r',e'⟩=>⟨km m n',Zl r (km m r'),UV (e'.map fun(k,x)=>(k,m.or x)) e⟩
 | .cond _ a b=>match an P a,an P b with
  |⟨n,r,e⟩,⟨n',r',e'⟩=>⟨Zl n n',Zl r r',UV e e'⟩
 | .block id b=>match an P b with
  |⟨n,r,e⟩=>⟨Zl n (Bd e id),r,OQ e id⟩
 | .loop b=>match an P b with
  |⟨n,r,e⟩=>⟨none,match n with|some m=>km m r|none=>r,match n with|some m=>e.map (fun(k,x)=>(k,m.or x))|none=>e⟩
 | .exit id=>⟨none,none,[(id,⟨0,0⟩)]⟩
 | .ret=>⟨none,some ⟨0,0⟩,[]⟩
 |_=>⟨none,none,[]⟩
structure Cn where
 nrm:Nat
 ret:Nat
 exts:List (Nat×Nat)
def zE:List (Nat×Nat)→Nat→Nat
 | [],_=>0
 |(j,m)::l,k=>match Nat.beq j k with
  |true=>m+zE l k
  |false=>zE l k
def cnt:Code→Cn
 | .skip | .region ..=>⟨1,0,[]⟩
 | .seq a b=>match cnt a,cnt b with
  |⟨0,r,e⟩,_=>⟨0,r,e⟩
  |⟨n,r,e⟩,⟨n',r',e'⟩=>⟨n',r+r',e++e'⟩
 | .cond _ a b=>match cnt a,cnt b with
  |⟨n,r,e⟩,⟨n',r',e'⟩=>⟨n+n',r+r',e++e'⟩
 | .block id b=>match cnt b with
  |⟨n,r,e⟩=>⟨n+zE e id,r,e.filter fun(k,_) => !Nat.beq k id⟩
 | .loop b=>match cnt b with
  |⟨n,r,e⟩=>⟨0,(match r with|0=>0|_=>1),e.map fun(k,_)=>(k,1)⟩
 | .exit id=>⟨0,0,[(id,1)]⟩
 | .ret=>⟨0,1,[]⟩
 |_=>⟨0,0,[]⟩
def vW:Operand→Nat
 | .tmp t=>C3 t
 |_=>0
def M8(nt:Nat):List Oper→Bool
 | []=>true
 |o::r=>(match o.dst with|some d=>Nat.blt d nt|none=>true)&&M8 nt r
def DY(nt:Nat):Code→Bool
 | .region _ ops _=>M8 nt ops.toList
 | .seq a b=>DY nt a&&DY nt b
 | .cond _ a b=>DY nt a&&DY nt b
 | .block _ b=>DY nt b
 | .loop b=>DY nt b
 |_=>true
def tR:List Oper→Nat
 | []=>0
 |o::r=>o.op.operands.toList.foldl (fun m x=>m ||| vW x) 0 ||| tR r
def We:Code→Nat
 | .region _ ops _=>tR ops.toList
 | .seq a b=>We a ||| We b
 | .cond c a b=>vW c ||| We a ||| We b
 | .block _ b | .loop b | .scope b=>We b
 |_=>0
def Yg:Code→Nat
 | .region _ ops _=>ops.size
 | .seq a b=>Yg a+Yg b
 | .cond _ a b=>4+Yg a+Yg b
 | .block _ b=>Yg b
 | .loop _=>1000
 |_=>0
inductive Ex where
 |nrm
 |ext (id:Nat)
 |ret
structure Lv where
 nrm:Nat
 ret:Nat
 exts:List (Nat×Nat)
def ACv:List (Nat×Nat)→Nat→Nat
 | [],_=>0
 |(j,m)::l,k=>match Nat.beq j k with
  |true=>m
  |false=>ACv l k
def Lv.of(lv:Lv):Ex→Nat
 | .nrm=>lv.nrm
 | .ret=>lv.ret
 | .ext id=>ACv lv.exts id
def Lv.all(lv:Lv):Nat:=lv.exts.foldl (fun m (_,x)=>m ||| x) (lv.nrm ||| lv.ret)
inductive SlotC where
 |int (k:IntKind)|bool|str|own (e:TypeId) (nw:Bool)|imm (e:TypeId) (nw:Bool)|any (T:TypeId)|opq (nw:Bool)
inductive Slot where
 |t (n:Nat) (agg:Bool) (cs:List SlotC)
 |b (id:Nat) (cs:List SlotC)
def yn(cfg:Cfg)(e:Nat):Bool:=cfg.imm||(DG e cfg.ie||Nat.ble ptB e)
def AFT{O:Alg}(s:State O)(cfg:Cfg):AC O→Option SlotC
 | .int k _=>some (.int k)
 | .bool _=>some .bool
 | .str _=>some .str
 | .any T=>some (.any T)
 | .opq nw _=>some (.opq (nw && !cfg.old))
 | .nil e=>some (match yn cfg e with|true=>.imm e (!cfg.old)|false=>.own e (!cfg.old))
 | .imm e nw _=>some (.imm e (nw && !cfg.old))
 | .own e id=>match s.getH id with
  |some h=>some (match h.frozen||yn cfg e with|true=>.imm e (h.nw && !cfg.old)|false=>.own e (h.nw && !cfg.old))
  |none=>none
 |_=>none
def uy{O:Alg}(s:State O)(cfg:Cfg):List (AC O)→Option (List SlotC)
 | []=>some []
 |c::r=>match AFT s cfg c,uy s cfg r with
  |some a,some l=>some (a::l)
  |_,_=>none
section
variable {O:Alg} (P:Program) (cfg:Cfg)
def oV(s:State O)(n:Nat):List Nat:=match s.getT n with
 |some ⟨_,.val ⟨false,[.ptr b _]⟩⟩=>[b]
 |some ⟨_,.val ⟨false,[.aptr b _ _ _ _ _]⟩⟩=>[b]
 |some ⟨_,.val ⟨false,[.fn _ caps]⟩⟩=>JI caps
 |_=>[]
def AFV(s:State O)(n:Nat):Bool:=match s.getT n with
 |some ⟨_,.val ⟨false,[.fn _ _]⟩⟩=>true
 |_=>false
def AAL(s:State O)(n:Nat):List Nat:=match s.getT n with
 |some ⟨_,.val ⟨false,[.eptr id _ _]⟩⟩=>[id]
 |some ⟨_,.val ⟨false,[.mp _ id]⟩⟩=>[id]
 |_=>[]
def AE9(s:State O)(hid:List Nat)(n:Nat):Bool:=match s.getT n with
 |some ⟨_,.val ⟨false,[.own _ id]⟩⟩ => !DG id hid
 |_=>false
def M9(s:State O):List Nat→List Nat→List (Nat×TypeId×Bool)
 | [],_=>[]
 |n::r,seen=>match DG n seen with
  |true=>M9 s r seen
  |false=>match s.getH n with
   |none=>M9 s r seen
   |some h=>match h.frozen with
    |true=>M9 s r seen
    |false=>(n,h.e,h.nw)::M9 s r (n::seen)
def P6(m:Nat):Nat→List Nat→List Nat
 |0,acc=>match m.testBit 0 with|true=>0::acc|false=>acc
 |n+1,acc=>P6 m n (match m.testBit (n+1)with|true=>(n+1)::acc|false=>acc)
def Yz(m:Nat):Nat:=m.log2
def LA(s:State O):List Nat→List Nat→Option (List Slot)
 | [],_=>some []
 |b::r,seen=>match DG b seen with
  |true=>LA s r seen
  |false=>match s.getB b with
   |none=>LA s r seen
   |some e=>match uy s cfg e.cs,LA s r (b::seen)with
    |some cs,some l=>some (.b b cs::l)
    |_,_=>none
def RV(s:State O):List Nat→List Slot
 | []=>[]
 |n::r=>match s.getT n with
  |some ⟨[],.val v⟩=>match uy s cfg v.cs with
   |some cs=>.t n v.agg cs::RV s r
   |none=>RV s r
  |_=>RV s r
def UZ(s:State O)(m:Nat):List Nat:=P6 m (Yz m) []
def hOf(s:State O)(m:Ms):List (Nat×TypeId×Bool):=M9 s (((UZ s m.r).map (AAL s)).flatten) []
def pD(s:State O)(n:Nat):List Nat:=match s.getT n with
 |some ⟨_,.val ⟨false,[.own _ id]⟩⟩=>[id]
 |_=>[]
def ACp(s:State O)(m:Ms):List Nat:=match DG 60002 cfg.ie with
 |true=>(((UZ s m.r).filter fun n => !m.t.testBit n).map (pD s)).flatten
 |false=>[]
def sR(s:State O)(m:Ms):List (Nat×TypeId×Bool):=M9 s (((UZ s m.r).map (AAL s)).flatten++ACp cfg s m) []
def AAO(s:State O)(m:Ms)(live:Nat):Option (List Slot):=
 let rs:=UZ s m.r
 let tmps:=(m.t ||| rs.foldl (fun a n=>match AE9 s ((sR cfg s m).map (·.1)) n with|true=>a ||| C3 n|false=>a) 0) &&& live
 match LA cfg s (((rs.filter fun n=>live.testBit n||(DG 60000 cfg.ie&&AFV s n)).map (oV s)).flatten) []with
 |some l=>some (RV cfg s (P6 tmps (Yz tmps) [])++l)
 |none=>none
def DV(s:State O)(m:Ms):List Nat:=((UZ s m.r).map (oV s)).flatten
def rY:List (AC O)→List Nat
 | []=>[]
 | .own _ id::r=>id::rY r
 |_::r=>rY r
def rV(s:State O):List Nat→List Nat
 | []=>[]
 |n::r=>(match s.getT n with|some ⟨_,.val v⟩=>rY v.cs|_=>[])++rV s r
def ACo(s:State O):List Nat→List Nat
 | []=>[]
 |b::r=>(match s.getB b with|some e=>rY e.cs|none=>[])++ACo s r
def fR(s:State O)(m:Ms):List Nat:=rV s (P6 (m.t ||| m.r) (Yz (m.t ||| m.r)) [])++ACo s (DV s m)
def Zy(s:State O)(m:Ms):List Nat:=fR s m++(hOf s m).map (·.1)
def Rw(s:State O)(ids:List Nat):List (Nat×HEnt O):=s.hp.filter fun(n,_) => !DG n ids
def O8(s:State O)(bs:List Nat):List (Nat×BEnt O):=s.bx.filter fun(n,_) => !DG n bs
def cleanB(l:List (Nat×BEnt O)):List (Nat×BEnt O):=l.map fun(n,e)=>(n,{ e with dirty:=false })
def cleanH(l:List (Nat×HEnt O)):List (Nat×HEnt O):=l.map fun(n,e)=>(n,{ e with dirty:=false })
def JU(s:State O)(keep:List Nat)(used:List Nat):SlotC→AC O→Except String (O.Lf×List Nat)
 | .int k, .int k' i => match Vw k k' with | true => .ok (.int i, used) | false => .error "a slot of another kind"
 | .bool,.bool b=>.ok (.bool b,used)
 | .str,.str x=>.ok (.str x,used)
 | .any T, .any T' => match Nat.beq T T' with | true => .ok (.bool O.o, used) | false => .error "a slot of another type"
 | .opq nw, .opq nw' n => match nw' || !nw with | true => .ok (.int n, used) | false => .error "another slot"
 | .own e _, .nil e' => match Nat.beq e e' with | true => .ok (.rows O.u, used) | false => .error "a slot of another element"
 | .imm e _, .nil e' => match Nat.beq e e' with | true => .ok (.rows O.u, used) | false => .error "a slot of another element"
 | .own e nw,.own e' id=>match s.getH id with
  |some h=>match Nat.beq e e'&&Nat.beq e h.e && !h.frozen&&(h.nw || !nw) && !DG id used && !DG id keep with
   |true=>.ok (.rows h.l,id::used)
   | false => .error "an owned slot that is shared"
  | none => .error "a slot whose slice is gone"
 | .own _ _, .imm _ _ _ => .error "an owned slot that is not owned"
 | .imm e nw, .imm e' nw' l => match Nat.beq e e' && (nw' || !nw) with | true => .ok (.rows l, used) | false => .error "a shared slot"
 | .imm e nw,.own e' id=>match s.getH id with
  |some h=>match Nat.beq e e'&&Nat.beq e h.e&&(h.nw || !nw)&&(h.frozen || !DG id keep) && !DG id used with
   |true=>.ok (.rows h.l,match h.frozen with|true=>used|false=>id::used)
   | false => .error "a shared slot of an owned slice"
  | none => .error "a slot whose slice is gone"
 | _, _ => .error "a slot"
def ID(s:State O)(keep used:List Nat):List SlotC→List (AC O)→Except String (List O.Lf×List Nat)
 | [],[]=>.ok ([],used)
 |a::as,c::cs=>match JU s keep used a c with
  | .error e=>.error e
  | .ok (l,u)=>match ID s keep u as cs with
   | .error e=>.error e
   | .ok (ls,u)=>.ok (l::ls,u)
 | _, _ => .error "slots"
def JF(s:State O)(keep:List Nat):List Nat→List Slot→Except String (List O.Lf)
 |_,[]=>.ok []
 |used,.t n agg cs::r=>match s.getT n with
  |some ⟨[],.val v⟩=>match v.agg==agg,ID s keep used cs v.cs with
   |true,.ok (ls,u)=>match JF s keep u r with
    | .ok more=>.ok (ls++more)
    | .error e=>.error e
   |true,.error e=>.error e
   | false, _ => .error "a slot s form"
  | _ => .error "a slot that is not there"
 |used,.b b cs::r=>match s.getB b with
  |some e=>match ID s keep used cs e.cs with
   | .ok (ls,u)=>match JF s keep u r with
    | .ok more=>.ok (ls++more)
    | .error e=>.error e
   | .error e=>.error e
  | none => .error "a slot s variable is gone"
def SU(s:State O):List (Nat×BEnt O)→Bool
 | []=>true
 |(n,_)::r=>match s.getB n with
  |some e=>match e.dirty with
   |true=>false
   |false=>SU s r
  |none=>false
def R6(s:State O):List (Nat×HEnt O)→Bool
 | []=>true
 |(n,_)::r=>match s.getH n with
  |some e=>match e.dirty with
   |true=>false
   |false=>R6 s r
  |none=>false
def VF(c:O.C)(j q:Nat):SlotC→AC O×List (Nat×HEnt O)
 | .int k=>(.int k (O.d c j),[])
 | .bool=>(.bool (O.r c j),[])
 | .str=>(.str (O.cS c j),[])
 | .own e nw=>(.own e q,[(q,{ e,frozen:=false,nw,l:=O.j c j,dirty:=true })])
 | .imm e nw=>(.imm e nw (O.j c j),[])
 | .any T=>(.any T,[])
 | .opq nw=>(.opq nw (O.d c j),[])
def MB(c:O.C):Nat→Nat→List SlotC→List (AC O)×List (Nat×HEnt O)
 |_,_,[]=>([],[])
 |j,q,a::as=>match VF c j q a with
  |(x,h)=>match MB c (j+1) (q+h.length) as with
   |(xs,hs)=>(x::xs,h++hs)
def B1(c:O.C):Nat→Nat→List Slot→State O→State O
 |_,q,[],s=>{ s with st:=q }
 |j,q,.t n agg cs::r,s=>match MB c j q cs with
  |(xs,hs)=>B1 c (j+cs.length) (q+hs.length) r { s with tm:=Gl s.tm n (some ⟨[],.val { agg,cs:=xs }⟩),hp:=hs++s.hp }
 |j,q,.b b cs::r,s=>match MB c j q cs with
  |(xs,hs)=>B1 c (j+cs.length) (q+hs.length) r { s with bx:=P4 s.bx b (some { cs:=xs,dirty:=true }),hp:=hs++s.hp }
def rQ(t:TM (TV O)):List Nat→TM (TV O)
 | []=>t
 |n::r=>rQ (Gl t n none) r
structure Way(O:Alg) where
 e:Ex
 slots:List Slot
 base:State O
 hs:List (Nat×TypeId×Bool)
def dR(s:State O):List (Nat×TypeId×Bool)→Except String (List O.Lf)
 | []=>.ok []
 |(n,e,nw)::r=>match s.getH n with
  | none => .error "a kept slice is gone"
  |some h=>match Nat.beq h.e e&&(!h.frozen&&h.nw==nw)with
   | false => .error "a kept slice"
   |true=>match dR s r with
    | .ok ls=>.ok (.rows h.l::ls)
    | .error e=>.error e
def Ra(c:O.C):Nat→List (Nat×TypeId×Bool)→List (Nat×HEnt O)
 |_,[]=>[]
 |j,(n,e,nw)::r=>(n,{ e,frozen:=false,nw,l:=O.j c j,dirty:=true })::Ra c (j+1) r
def Way.keep(w:Way O):List Nat:=w.hs.map (·.1)++w.base.hp.map (·.1)
def Way.baseC(w:Way O)(c:O.C)(j:Nat):State O:={ w.base with hp:=Ra c j w.hs++w.base.hp }
def Way.encL(w:Way O)(s':State O):Except String (List O.Lf):=match dR s' w.hs with
 | .error e=>.error e
 | .ok a=>match JF s' w.keep [] w.slots with
  | .error e=>.error e
  | .ok b=>.ok (a++b)
def NT(s:State O)(e:Ex)(m:Ms)(live:Nat):Except String (Way O):=match AAO cfg s m live with
  | none => .error "a layout"
  |some sl=>.ok { e,slots:=sl,base:=
      { tm:=rQ s.tm (P6 m.t (Yz m.t) []),bx:=O8 s (DV s m),hp:=Rw s (Zy s m),st:=s.st },hs:=sR cfg s m }
def Way.enc(w:Way O)(tag:Option Nat)(s':State O):O.M:=
 match SU s' w.base.bx,R6 s' w.base.hp with
 |true,true=>match w.encL s' with
  | .ok ls=>O.a (match tag with|some t=>.int (O.lit .i64 t)::ls|none=>ls)
  | .error e=>O.ae e
 | _, _ => O.ae "memory that a join does not know"
def Way.dec(w:Way O)(tagged:Bool)(c:O.C):State O:=B1 c ((match tagged with|true=>1|false=>0)+w.hs.length) w.base.st w.slots (w.baseC c (match tagged with|true=>1|false=>0))
def dr(s:State O)(lv:Lv)(e:Ex):Option Ms→Except String (List (Way O))
 |none=>.ok []
 |some m=>match NT cfg s e m (lv.of e)with
  | .ok w=>.ok [w]
  | .error e=>.error e
def ZR(s:State O)(lv:Lv):List (Nat×Ms)→Except String (List (Way O))
 | []=>.ok []
 |(id,m)::r=>match dr cfg s lv (.ext id) (some m),ZR s lv r with
  | .ok a,.ok b=>.ok (a++b)
  | .error e,_=>.error e
  |_,.error e=>.error e
def Yu(s:State O)(a:An)(lv:Lv):Except String (List (Way O)):=
 match dr cfg s lv .nrm a.nrm,dr cfg s lv .ret a.ret,ZR cfg s lv a.exts with
 | .ok x,.ok y,.ok z=>.ok (x++y++z)
 | .error e,_,_=>.error e
 |_,.error e,_=>.error e
 |_,_,.error e=>.error e
def ABW:Ex→Ex→Bool
 | .nrm,.nrm=>true
 | .ret,.ret=>true
 | .ext a,.ext b=>Nat.beq a b
 |_,_=>false
def L2(tagged:Bool)(e:Ex)(s':State O):Nat→List (Way O)→O.M
 | _, [] => O.ae "a way out that was not seen"
 |i,w::r=>match ABW e w.e with
  |true=>w.enc (match tagged with|true=>some i|false=>none) s'
  |false=>L2 tagged e s' (i+1) r
def Nl(c:O.C)(k:Ex→State O→O.M)(tagged:Bool):Nat→List (Way O)→O.M
 | _, [] => O.ae "no way out"
 |_,[w]=>k w.e (w.dec tagged c)
 |i,w::r=>O.b (O.ad c i) (k w.e (w.dec tagged c)) (Nl c k tagged (i+1) r)
def cleaned(s:State O):State O:={ s with bx:=cleanB s.bx,hp:=cleanH s.hp }
def scope(a:An)(lv:Lv)(s:State O)(run:State O→(Ex→State O→O.M)→O.M)(k:Ex→State O→O.M):O.M:=
 match Yu cfg s a lv with
 | .error e=>O.ae e
 | .ok ws=>
  let tagged:=Nat.blt 1 ws.length
  O.c (run (cleaned s) fun e s'=>L2 tagged e s' 0 ws) fun c=>Nl c k tagged 0 ws
def B3:List Oper→List Nat→List Nat
 | [],acc=>acc
 |o::r,acc=>B3 r (acc++[o.after.toList.foldl (fun s e=>match e.ground with
  | .textOnly _ | .gcOnly _=>s
  |_=>s ||| C3 e.on ||| acc.getD e.on 0) 0])
def kK(o:Oper):Bool:=match o.op,o.guard with
 | .lookup _ _ _ false,none=>true
 |_,_=>false
def kV(o:Oper):Bool:=match o.op,o.guard with
 | .mapEntry _ _ _,none=>true
 |_,_=>false
def ZE(ops:List Oper)(i j:Nat):Bool:=match ops[i]?,ops[j]? with
 |some a,some b=>kK a&&kV b
 |_,_=>false
def yf(x:Nat):Bool:=Nat.beq x (C3 x.log2)&&Nat.beq (x.log2%3) 2
def OW(ex:Nat→Nat→Bool)(bs:List Nat)(ms:List (Nat×Nat)):Bool:=
 let rec inner (j bj rj wj:Nat):Nat→List (Nat×Nat)→Bool
  |_,[]=>true
  |i,(r,w)::l=>match Nat.ble j i with
   |true=>true
   |false=>match bj.testBit i||(Nat.beq (w &&& (rj ||| wj)) 0&&(Nat.beq (wj &&& r) 0||(ex i j&&yf (wj &&& r))))with
    |true=>inner j bj rj wj (i+1) l
    |false=>false
 let rec outer:Nat→List Nat→List (Nat×Nat)→Bool
  |j,b::bs,(r,w)::l=>match inner j b r w 0 ms with
   |true=>outer (j+1) bs l
   |false=>false
  |_,_,_=>true
 outer 0 bs ms
def mW:List Nat→Bool
 | []=>true
 |n::l => !DG n l&&mW l
def Xo:List O.B→O.M→O.M
 | [],m=>m
 |a::r,m=>O.i a (Xo r m)
def Fp:TM (TV O)→TM (TV O)
 | .e=>.e
 | .leaf a=>match a.gs with
  | []=>.leaf a
  |_=>.e
 | .node l r=>.node (Fp l) (Fp r)
def GM(ops:List Oper):Nat→List Nat→List Oper→Bool
 |i,b::bs,o::r=>match o.guard with
  |none=>GM ops (i+1) bs r
  |some (j,_)=>Nat.blt j i&&b.testBit j&&(match(ops[j]?).bind (·.dst)with|some _=>true|none=>false)&&GM ops (i+1) bs r
 |_,_,[]=>true
 |_,[],_::_=>false
def ek:Nat→List Oper→Bool
 |_,[]=>true
 |i,o::r=>(o.after.toList.all fun e=>match e.ground with
  | .textOnly _ | .gcOnly _=>true
  |_=>Nat.blt e.on i)&&ek (i+1) r
def Eb (inl : FuncId → List (AV O) → State O → (AV O → State O → O.M) → O.M) (all : List Oper) (draw : Bool) :
    List Oper→Nat→State O→List (Nat×Nat)→(State O→List (Nat×Nat)→O.M)→O.M
  | [],id,s,ms,k=>k { s with st:=id } ms
  |o::r,id,s,ms,k=>match RM.run s (FY P cfg all o id) 0 with
    | .error e=>O.ae e
    | .ok (.plain as w,rd)=>Xo as (Eb inl all draw r (id+Bn P o) (s.apply w) (ms++[(rd,w.mask)]) k)
    | .ok (.call g f fns args dm next,rd)=>
      let m:=O.f f fns args
      O.c (match g with|none=>m|some g=>O.b g m (O.a dm)) fun c=>match next c with
        | none => O.ae "a result"
        |some w=>Eb inl all draw r (id+Bn P o) (s.apply w) (ms++[(rd,w.mask)]) k
    | .ok (.inl f args,rd)=>match draw with
      | true => O.ae "a call that has no contract in a region that draws"
      |false=>inl f args { s with st:=id+Bn P o } fun v s'=>
        Eb inl all draw r s'.st (match o.dst with|some d=>{ s' with tm:=Gl s'.tm d (some ⟨[],v⟩) } | none=>s') (ms++[(0,0)]) k
    | .ok (.inlg g f args w,rd)=>match draw with
      | true => O.ae "a call that has no contract in a region that draws"
      |false=>O.b g (inl f args { s with st:=id+Bn P o } fun v s'=>
        Eb inl all draw r s'.st (match o.dst with|some d=>{ s' with tm:=Gl s'.tm d (some ⟨[],v⟩) } | none=>s') (ms++[(0,0)]) k)
        (Eb inl all draw r (id+Bn P o) (s.apply w) (ms++[(rd,w.mask)]) k)
def Ar:List Oper→List Nat
 | []=>[]
 |o::r=>match o.dst with|some d=>d::Ar r|none=>Ar r
def ADT(o:Oper):Bool:=match o.op,o.guard with
 | .call ⟨.value _,_,_⟩,none=>true
 |_,_=>false
def da(ops:List Oper):Bool:=match ops.drop (ops.length-1)with
 | [o]=>ADT o&&Nat.beq ((B3 ops []).getD (ops.length-1) 0 &&& (C3 (ops.length-1)-1)) (C3 (ops.length-1)-1)
 |_=>false
def Le(inl:FuncId→List (AV O)→State O→(AV O→State O→O.M)→O.M)(ops:List Oper)(draw:Bool)(s:State O)(k:State O→O.M):O.M:=
 match mW (Ar ops)&&(GM ops 0 (B3 ops []) ops&&ek 0 ops)with
 | false => O.ae "a temporary that is written twice"
 |true=>match draw&&da ops with
  |true=>Eb P cfg inl ops true (ops.take (ops.length-1)) s.st s [] fun s' ms=>
   match OW (ZE ops) (B3 ops []) ms with
   | false => O.ae "an order that is open"
   |true=>Eb P cfg inl ops false (ops.drop (ops.length-1)) s'.st s' [] fun s' _=>k { s' with tm:=Fp s'.tm }
  |false=>Eb P cfg inl ops draw ops s.st s [] fun s' ms=>
   match !draw||OW (ZE ops) (B3 ops []) ms with
   | false => O.ae "an order that is open"
   |true=>k { s' with tm:=Fp s'.tm }
def yu(s:State O):Operand→Option O.B
 | .tmp n=>match s.getT n with
  |some ⟨[],.val ⟨false,[.bool b]⟩⟩=>some b
  |_=>none
 | .const (.bool b)=>some (match b with|true=>O.o|false=>O.g)
 |_=>none
def yD(head:Way O)(ws:List (Way O))(tagged:Bool)(self:List O.Lf→O.M):Ex→State O→O.M:=fun e s'=>match e with
 | .nrm=>match SU s' head.base.bx,R6 s' head.base.hp with
  |true,true=>match head.encL s' with
   | .ok ls=>self ls
   | .error e=>O.ae e
  | _, _ => O.ae "memory that a loop does not know"
 |e=>L2 tagged e s' 0 ws
def oo(o:Oper):Bool:=match o.op,o.guard with
 | .panic _,none=>true
 |_,_=>false
def X(inl:FuncId→List (AV O)→State O→(AV O→State O→O.M)→O.M):Code→Bool→Lv→State O→(Ex→State O→O.M)→O.M
 | .skip,_,_,s,k=>k .nrm s
 | .region _ ops draw,_,_,s,k=>match ops.toList.any oo with
  |true=>O.i O.g (O.a [])
  |false=>Le P cfg inl ops.toList draw s fun s'=>k .nrm s'
 | .seq a b,light,lv,s,k=>X inl a (light&&Nat.ble (Yg b) 6) { lv with nrm:=We b ||| lv.all } s fun e s'=>match e with
  | .nrm=>X inl b light lv s' k
  |e=>k e s'
 | .cond c a b,light,lv,s,k=>match yu s c with
  | none => O.ae "a condition"
  |some x=>match light||Nat.blt ((cnt a).nrm+(cnt b).nrm) 2 with
   |true=>O.b x (X inl a light lv s k) (X inl b light lv s k)
   |false=>scope cfg (an P (.cond c a b)) lv s (fun s k=>O.b x (X inl a true lv s k) (X inl b true lv s k)) k
 | .block id b,light,lv,s,k=>
  let lv':Lv:={ lv with exts:=(id,lv.nrm)::lv.exts }
  let k':Ex→State O→O.M:=fun e s'=>match e with
   | .ext i=>match Nat.beq i id with
    |true=>k .nrm s'
    |false=>k e s'
   |e=>k e s'
  match light||Nat.blt ((cnt b).nrm+zE (cnt b).exts id) 2 with
  |true=>X inl b light lv' s k'
  |false=>scope cfg (an P b) lv' s (fun s k=>X inl b true lv' s k) k'
 | .loop b,_,lv,s,k=>
  let a:=an P b
  let lvb:Lv:={ lv with nrm:=We b ||| lv.all }
  match a.nrm with
  | none => O.ae "a loop of one round"
  |some m=>match NT cfg s .nrm m lvb.nrm,Yu cfg s (an P (.loop b)) lv with
   | .ok head,.ok ws=>
    let tagged:=Nat.blt 1 ws.length
    match head.encL s with
    | .error e=>O.ae e
    | .ok ls=>O.c (O.v (fun self c=>X inl b true lvb (cleaned (head.dec false c)) (yD head ws tagged self)) ls) fun c=>Nl c k tagged 0 ws
   | .error e,_=>O.ae e
   |_,.error e=>O.ae e
 | .exit id,_,_,s,k=>k (.ext id) s
 | .ret,_,_,s,k=>k .ret s
 | _, _, _, _, _ => O.ae "code"
def ta(s:State O):ResultVar→Option (Val O)
 | .tmp t=>match s.getT t with
  |some ⟨[],.val v⟩=>some v
  |_=>none
 | .cell a T=>match s.getT a with
  |some ⟨[],.val ⟨false,[.ptr b off]⟩⟩=>match s.getB b with
   |some e=>match G4 e.cs off (P.cellsOf T)with
    |some cs=>match Ro P T cs.length with
     |true=>some { agg:=Ag P T,cs }
     |false=>none
    |none=>none
   |none=>none
  |_=>none
def OS(s:State O):List ResultVar→Option (List (Val O))
 | []=>some []
 |r::rs=>match ta P s r,OS s rs with
  |some v,some l=>some (v::l)
  |_,_=>none
def RL:List ResultVar→Nat
 | []=>0
 | .tmp t::r=>C3 t ||| RL r
 | .cell t _::r=>C3 t ||| RL r
def CT:Nat→List (AV O)→TM (TV O)→TM (TV O)
 |_,[],t=>t
 |i,v::r,t=>CT (i+1) r (Gl t i (some ⟨[],v⟩))
def vZ(cfg:Cfg):List TypeId→Option (List SlotC)
 | []=>some []
 |t::ts=>match vZ cfg ts with
  |none=>none
  |some r=>match AL P t with
   | .int k=>some (.int k::r)
   | .bool=>some (.bool::r)
   | .str=>some (.str::r)
   | .sl e=>some ((match yn cfg e with|false=>.own e false|true=>.imm e false)::r)
   |_=>none
def I9:List TypeId→List (AC O)→Option (List (Val O))
 | [],_=>some []
 |t::ts,cs=>match AY P t with
  |none=>none
  |some l=>match I9 ts (cs.drop l.length)with
   |none=>none
   |some r=>some ({ agg:=Ag P t,cs:=cs.take l.length }::r)
def Pi:List TypeId→List (Val O)→Bool
 | [],[]=>true
 |t::ts,v::vs=>(match AY P t with
  |some l=>v.agg==Ag P t&&Ai P l v.cs
  |none=>false)&&Pi ts vs
 |_,_=>false
def Ww:Ex→Bool
 | .ext _=>true
 |_=>false
def mo(a:An):Ms:=match Zl a.nrm a.ret with
 |some m=>m
 |none=>⟨0,0⟩
def nK(rec':Code→Bool→Lv→State O→(Ex→State O→O.M)→O.M)(f:FuncId)(args:List (AV O))(s:State O)(k:AV O→State O→O.M):O.M:=
  match P.funcs[f]? with
  | none => O.ae "no such function"
  |some fn=>match fn.body with
    | none => O.ae "a function without a body"
    |some body=>match DY fn.ntmps body with
     | false => O.ae "temporaries"
     |true=>
      let s1:State O:={ s with tm:=CT 0 args .e }
      let live:=RL fn.results.toList ||| (C3 args.length-1)
      let lv:Lv:={ nrm:=live,ret:=live,exts:=[] }
      let c:=cnt body
      match Nat.blt (c.nrm+c.ret) 2 || !(sR cfg s1 (mo (an P body))).isEmpty with
      |true=>rec' body false lv s1 fun e s'=>match Ww e,OS P s' fn.results.toList with
        |false,some vs=>k (LY vs) { s' with tm:=s.tm }
        | _, _ => O.ae "results"
      |false=>
        let a:=an P body
        let m:Ms:=mo a
        match LA cfg s1 (DV s1 m) [],(Lk P fn.resultTypes.toList).bind (vZ P cfg)with
        |some sl,some rs=>
          let base:State O:={ s with bx:=O8 s (DV s1 m),hp:=Rw s (fR s1 m) }
          let keep:=base.hp.map (·.1)
          O.c (rec' body true lv (cleaned s1) fun e s'=>match Ww e,OS P s' fn.results.toList with
            | true, _ | _, none => O.ae "results"
            |false,some vs=>match Pi P fn.resultTypes.toList vs&&SU s' base.bx,R6 s' base.hp,ID s' keep [] rs ((vs.map (·.cs)).flatten)with
              |true,true,.ok (ls,used)=>match JF s' keep used sl with
                | .ok more=>O.a (ls++more)
                | .error e=>O.ae e
              |true,true,.error e=>O.ae e
              | _, _, _ => O.ae "memory that a call does not know") fun c =>
            match MB c 0 base.st rs with
            |(xs,hs)=>match I9 P fn.resultTypes.toList xs with
              | none => O.ae "results"
              |some vs=>k (LY vs) (B1 c rs.length (base.st+hs.length) sl { base with hp:=hs++base.hp })
        | _, _ => O.ae "a layout of a call"
def XL:Nat→Code→Bool→Lv→State O→(Ex→State O→O.M)→O.M
 | 0 => fun _ _ _ _ _ => O.ae "too deep"
 |n+1=>X P cfg (nK P cfg (XL n))
def A2(give:Bool):Nat→List TypeId→List O.Lf→Option (List (AC O)×List (Nat×HEnt O)×List O.Lf)
 |_,[],ls=>some ([],[],ls)
 |q,t::ts,l::ls=>match AL P t,l with
  | .int k,.int i=>(A2 give q ts ls).map fun(cs,h,r)=>(.int k i::cs,h,r)
  | .bool,.bool b=>(A2 give q ts ls).map fun(cs,h,r)=>(.bool b::cs,h,r)
  | .str,.str s=>(A2 give q ts ls).map fun(cs,h,r)=>(.str s::cs,h,r)
  | .opq,.int n=>(A2 give q ts ls).map fun(cs,h,r)=>(.opq false n::cs,h,r)
  | .sl e,.rows l=>match give with
   |false=>(A2 give q ts ls).map fun(cs,h,r)=>(.imm e false l::cs,h,r)
   |true=>(A2 give (q+1) ts ls).map fun(cs,h,r)=>(.own e q::cs,(q,{ e,frozen:=false,nw:=false,l,dirty:=true })::h,r)
  |_,_=>none
 |_,_::_,[]=>none
def Ba:List Bool→Nat→List TypeId→List Nat→List O.Lf→Option (List (AV O)×List (Nat×HEnt O))
 |_,_,[],[],[]=>some ([],[])
 |gv,q,t::ts,fns,ls=>match AL P t with
  | .fn=>match fns with
   |f::fns=>match yk P f with
    |some cts=>match F7 cts ls with
     |some (caps,ls)=>(Ba gv.tail q ts fns ls).map fun(r,h)=>(one (.fn f caps)::r,h)
     |none=>none
    |none=>none
   | []=>none
  |_=>match AY P t with
   |none=>none
   |some l=>match A2 P (gv.headD false) q l ls with
    |none=>none
    |some (cs,h,ls)=>(Ba gv.tail (q+h.length) ts fns ls).map fun(r,hs)=>(.val { agg:=Ag P t,cs }::r,h++hs)
 |_,_,[],_,_=>none
def Rg{α:Type}(l:α):Except String (List α)→Except String (List α)
 | .ok ls=>.ok (l::ls)
 | .error e=>.error e
def EV(s:State O)(own:Nat→Bool)(nw:Bool)(used:List Nat):List (AC O)→Except String (List O.Lf)
 | []=>.ok []
 |c::r=>match c with
  | .int _ i=>Rg (.int i) (EV s own nw used r)
  | .bool b=>Rg (.bool b) (EV s own nw used r)
  | .str x=>Rg (.str x) (EV s own nw used r)
  | .nil _=>Rg (.rows O.u) (EV s own nw used r)
  | .opq n i=>match n || !nw with
   |true=>Rg (.int i) (EV s own nw used r)
   | false => .error "a result that is not fresh"
  | .imm e n l=>match !own e&&(n || !nw)with
   |true=>Rg (.rows l) (EV s own nw used r)
   | false => .error "a result that is not fresh"
  | .own e id=>match s.getH id with
   |some h=>match(!own e || !h.frozen)&&(h.frozen || !DG id used)&&(h.nw || !nw)with
    |true=>Rg (.rows h.l) (EV s own nw (id::used) r)
    | false => .error "a result that is shared"
   | none => .error "a result that is gone"
  | _ => .error "a result that is no data"
def y3(own:Nat→Bool)(s:State O):State O:={ s with hp:=s.hp.map fun(n,h)=>(n,{ h with frozen:=h.frozen || !own h.e }) }
def yv(own:Nat→Bool)(nw:Bool)(fn:Func)(e:Ex)(s':State O):O.M:=match Ww e,OS P s' fn.results.toList with
 | true, _ | _, none => O.ae "results"
 |false,some rs=>match Pi P fn.resultTypes.toList rs,EV s' own nw [] ((rs.map (·.cs)).flatten)with
  |true,.ok ls=>O.a ls
  |true,.error e=>O.ae e
  | false, _ => O.ae "results of other kinds"
def my(own:Nat→Bool)(nw:Bool)(fn:Func):Ex→State O→O.M:=fun e s0=>yv P own nw fn e (y3 own s0)
def XF(own:Nat→Bool)(nw:Bool)(gives:List Bool)(f:FuncId)(fns:List Nat)(args:List O.Lf):O.M:=match P.funcs[f]? with
  | none => O.ae "no such function"
  |some fn=>match fn.body,Ba P gives 1 fn.params.toList fns args with
    |some body,some (vs,hs)=>match DY fn.ntmps body with
     | false => O.ae "temporaries"
     |true=>
      let lv:Lv:={ nrm:=RL fn.results.toList,ret:=RL fn.results.toList,exts:=[] }
      XL P cfg 6 body true lv { tm:=CT 0 vs .e,bx:=[],hp:=hs,st:=1+hs.length } (my P own nw fn)
    | none, _ => O.ae "no body"
    | _, none => O.ae "parameters"
end
end Go.Px
