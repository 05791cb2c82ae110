/- Part 2. -/
import Derived.Test.YtlephafgekoeaaaGreatPart01
import Derived.WalkKit
import Derived.Lib.LaidTab
import Derived.ChangeKeysEq
set_option linter.unusedVariables false
set_option linter.unusedSimpArgs false
section
namespace Go.Px
inductive PV where
 |int (n:Int)
 |bool (b:Bool)
 |str (s:ByteArray)
 |rows (l:List (List PV))
 deriving Inhabited
abbrev Rows:=List (List PV)
abbrev AQ:=Leaf Int Bool ByteArray Rows
def Leaf.pv:AQ→PV
 | .int i=>.int i
 | .bool b=>.bool b
 | .str s=>.str s
 | .rows l=>.rows l
def PV.leaf:PV→AQ
 | .int i=>.int i
 | .bool b=>.bool b
 | .str s=>.str s
 | .rows l=>.rows l
@[simp] theorem PV.pv_leaf (p:PV):p.leaf.pv=p:=by cases p<;>rfl
@[simp] theorem Leaf.leaf_pv (p:AQ):p.pv.leaf=p:=by cases p<;>rfl
def pvI:PV→Int
 | .int n=>n
 |_=>0
def pvB:PV→Bool
 | .bool b=>b
 |_=>false
def pvS:PV→ByteArray
 | .str s=>s
 |_=>ByteArray.empty
def pvL:PV→Rows
 | .rows l=>l
 |_=>[]
@[simp] theorem AAf (n:Int):pvI (.int n)=n:=rfl
@[simp] theorem ADT (b:Bool):pvB (.bool b)=b:=rfl
@[simp] theorem ADa (s:ByteArray):pvS (.str s)=s:=rfl
@[simp] theorem ADX (l:Rows):pvL (.rows l)=l:=rfl
def AA (r:List PV) (j:Nat):PV:=r.getD j (.int 0)
def AB (l:Rows) (i:Nat):List PV:=l.getD i []
def AD (l:Rows) (i j:Nat):PV:=AA (AB l i) j
def putRow (r:List PV):Nat→List PV→List PV
 |_,[]=>r
 |off,p::ps=>putRow (r.set off p) (off+1) ps
def Qm (s:ByteArray) (i:Int):Int:=((s.data.toList.getD i.toNat 0).toNat:Int)
def HP (s:ByteArray):Rows:=s.data.toList.map fun b=>[PV.int b.toNat]
abbrev Env:=Nat→List Nat→List PV→Option (List PV)
def C1 (F:(List AQ→Option (List PV))→List PV→Option (List PV)):Nat→List PV→Option (List PV)
 |0,_=>none
 |n+1,c=>F (fun ls=>C1 F n (ls.map Leaf.pv)) c
def iLe (a b:Int):Bool:=decide (a≤b)
def iLt (a b:Int):Bool:=decide (a<b)
def iIn (i n:Int):Bool:=decide (0≤i∧i<n)
def iRg (a b n:Int):Bool:=decide (0≤a∧a≤b∧b≤n)
def iSm (n:Int) (b:Nat):Bool:=decide (0≤n∧n≤17592186044416∧n*b≤17592186044416∧b≤1048576)
def Rm (r:List PV):Int:=pvI (AA r 0)
def MM (k:Int):Rows→Bool
 | []=>false
 |r::L=>cond (k==Rm r) (pvB (AA r 1)) (MM k L)
def O9 (k:Int) (v:Bool):Rows→Rows
 | []=>[[.int k,.bool v]]
 |r::L=>cond (k==Rm r) ([.int k,.bool v]::L) (r::O9 k v L)
def Ay (r:List PV):List UInt8:=(pvS (AA r 0)).data.toList
def Fc (l:Rows):Rows:=l.mergeSort fun a b=>decide (Ay a≤Ay b)
def D7:Rows→Rows
 | []=>[]
 |r::l=>r::go (Ay r) l
where go (x:List UInt8):Rows→Rows
 | []=>[]
 |r::l=>cond (x==Ay r) (go x l) (r::go (Ay r) l)
def ADF (l:Rows):ByteArray:=⟨(l.map fun r=>(pvI (AA r 0)).toNat.toUInt8).toArray⟩
def zQ (l:Rows):Bool:=l.all fun r=>decide (0≤pvI (AA r 0)∧pvI (AA r 0)<256)
def fW (c:Nat) (k:IntKind) (x y:Int):Int:=match c with
 |0=>k.wrap ((BitVec.ofInt k.bits x &&& BitVec.ofInt k.bits y).toNat:Int)
 |1=>k.wrap ((BitVec.ofInt k.bits x ||| BitVec.ofInt k.bits y).toNat:Int)
 |2=>k.wrap ((BitVec.ofInt k.bits x ^^^ BitVec.ofInt k.bits y).toNat:Int)
 |_=>k.wrap ((BitVec.ofInt k.bits x &&& ~~~(BitVec.ofInt k.bits y)).toNat:Int)
def rK (l:Bool) (k:IntKind) (x y:Int):Int:=cond l (k.wrap (x*2 ^ min y.toNat k.bits)) (x.fdiv (2 ^ min y.toNat k.bits))
@[reducible] def std (E:Env) (N:Nat):Alg where
 I:=Int
 B:=Bool
 S:=ByteArray
 L:=Rows
 C:=List PV
 M:=Option (List PV)
 lit _ n:=n
 o k a b:=k.wrap (a+b)
 v k a b:=k.wrap (a-b)
 al k a b:=k.wrap (a*b)
 bd k a b:=k.wrap (a.tdiv b)
 as _ a b:=a.tmod b
 am k a:=k.wrap a
 ba c k a b:=fW c k a b
 au l k a b:=rK l k a b
 be i:=Utf8.encode i
 w a b:=iLe a b
 n a b:=iLt a b
 e a b:=a==b
 m:=true
 h:=false
 g b := !b
 aa a b:=a&&b
 aq a b:=a==b
 af b x y:=cond b x y
 i b x y:=cond b x y
 av b x y:=cond b x y
 ar b x y:=cond b x y
 u s:=s
 ao a b:=a.toList==b.toList
 bf a b:=Op.bytesLess a.toList b.toList
 aj s:=s.size
 bg s i:=Qm s i
 bh s l h:=s.extract l.toNat h.toNat
 aw a b:=a++b
 bb s:=HP s
 s:=[]
 y rows:=rows.map (·.map Leaf.pv)
 ad a b:=a++b
 j l:=l.length
 x l i off r:=l.set i.toNat (putRow (AB l i.toNat) off (r.map Leaf.pv))
 ag l a b:=(l.take b.toNat).drop a.toNat
 ap n r:=List.replicate n.toNat (r.map Leaf.pv)
 r l i j:=pvI (AD l i.toNat j)
 rB l i j:=pvB (AD l i.toNat j)
 rS l i j:=pvS (AD l i.toNat j)
 rL l i j:=pvL (AD l i.toNat j)
 ax l k:=MM k l
 ay l k v:=O9 k v l
 az l:=Fc l
 bc l:=D7 l
 bi l:=ADF l
 bj l:=zQ l
 c c j:=pvI (AA c j)
 p c j:=pvB (AA c j)
 cS c j:=pvS (AA c j)
 k c j:=pvL (AA c j)
 z c j:=pvI (AA c 0)==(j:Int)
 q i n:=iIn i n
 ai a b n:=iRg a b n
 ab n b:=iSm n b
 a ls:=some (ls.map Leaf.pv)
 ac _:=none
 l b m:=cond b m none
 b b x y:=cond b x y
 d m k:=m.bind k
 f f fns ls:=E f fns (ls.map Leaf.pv)
 t F ls:=C1 F N (ls.map Leaf.pv)
structure Blk where
 b:Nat
 c:Bool
def Clean (P:Program) (w:World) (b off n:Nat):Prop :=
  (∀k,off≤k→k<off+n→w.frozen? ⟨b,k,none⟩=false)∧∀cells el,w.heap[b]?=some (.cells cells el (0,0))→Hl P el=false
theorem Clean.of {P:Program} {w:World} {b off n:Nat} {cells:Array Value} {el:TypeId} (h:w.heap[b]?=some (.cells cells el (0,0))) (hq:Hl P el=false):Clean P w b off n :=
 ⟨fun k _ _=>by simp[World.frozen?,h],fun c e he=>by simp_all⟩
theorem Clean.same {P:Program} {w w':World} {b off n:Nat} (h:Clean P w b off n) (e:w'.heap[b]?=w.heap[b]?):Clean P w' b off n :=
 ⟨fun k h1 h2=>by
  have:=h.1 k h1 h2;unfold World.frozen? at this⊢
  simp_all,fun c el he=>h.2 c el (by simp_all)⟩
theorem Clean.part {P:Program} {w:World} {b off n off' n':Nat} (h:Clean P w b off n) (h1:off≤off') (h2:off'+n'≤off+n):Clean P w b off' n':=⟨fun k a c=>h.1 k (by omega) (by omega),h.2⟩
def TCh (P:Program) (n:Nat) (w w':World) (b:Nat):Prop:=n≤b∧∃cells cells' el,w.heap[b]?=some (.cells cells el (0,0))∧w'.heap[b]?=some (.cells cells' el (0,0)) ∧
 cells'.size=cells.size∧Hl P el=true∧∀v∈cells'.toList,v.oneCell'=true
theorem TCh.not {P:Program} {n:Nat} {w w':World} {b:Nat} (h:TCh P n w w' b) {cells:Array Value} {el:TypeId} (hb:w.heap[b]?=some (.cells cells el (0,0))) (hq:Hl P el=false):False:=by
 obtain⟨_,c,c',e,h1,_,_,h2,_⟩:=h
 simp_all
inductive Rep (P:Program) (w:World) (St:Blk→Prop):TypeId→Value→PV→Prop
  |int {t:TypeId} {k:IntKind} {n:Int} (h:AK P t=.int k):Rep P w St t (.int k n) (.int n)
  |bool {t:TypeId} {b:Bool} (h:AK P t=.bool):Rep P w St t (.bool b) (.bool b)
  |str {t:TypeId} {s:ByteArray} (h:AK P t=.str):Rep P w St t (.string s) (.str s)
  | sl {t e:TypeId} {ts:List TypeId} {a:Option Addr} {len cap:Nat} {l:Rows} (v:Nat→Nat→Value)
      (h:AK P t=.sl e) (hts:AW P e=some ts) (hl:l.length=len) (hr:∀r∈l,r.length=ts.length) (hc:len≤cap)
      (hm:len=0∨∃b off,a=some ⟨b.b,off,none⟩∧St b∧(b.b<w.heap.size∧(b.c=true→Clean P w b.b off (len*ts.length))) ∧
        ∀i j,i<len→j<ts.length→w.cell? ⟨b.b,off+(i*ts.length+j),none⟩=some (v i j))
      (hv:∀i j t',i<len→ts[j]?=some t'→Rep P w St t' (v i j) (AD l i j)) :
      Rep P w St t (.slice a len cap) (.rows l)
  | opq {t:TypeId} {a:Option Addr} {len cap:Nat} (h:AK P t=.opq) (hc:len≤cap)
      (hm:cap=0∨∃(b:Blk) (off:Nat),a=some ⟨b.b,off,none⟩∧St b∧(b.b<w.heap.size∧(b.c=true→off=0∧∃cells el,w.heap[b.b]?=some (.cells cells el (0,0))∧Hl P el=true∧cap≤cells.size∧∀v∈cells.toList,v.oneCell'=true))) :
      Rep P w St t (.slice a len cap) (.int len)
  |ptN {t e:TypeId} (h:AK P t=.sl e) (hb:ptB≤e):Rep P w St t (.pointer none) (.rows [])
  |pt {t t' e:TypeId} {a:Addr} {cap:Nat} {l:Rows} (h:AK P t=.sl (e+ptB)) (h':AK P t'=.sl e) (hr:Rep P w St t' (.slice (some a) 1 cap) (.rows l)):Rep P w St t (.pointer (some a)) (.rows l)
theorem Rep.mono {P:Program} {w w':World} {St St':Blk→Prop} {t:TypeId} {v:Value} {p:PV} (h:Rep P w St t v p)
    (hw:∀b,St b→b.b<w.heap.size→(w'.heap[b.b]?=w.heap[b.b]?∨(b.c=true∧∃n,TCh P n w w' b.b))∧b.b<w'.heap.size) (hs:∀b,St b→b.b<w.heap.size→St' b):Rep P w' St' t v p:=by
  induction h with
  |int h=>exact .int h
  |bool h=>exact .bool h
  |str h=>exact .str h
  |ptN h hb=>exact .ptN h hb
  |pt h h' hr ih=>exact .pt h h' ih
  |opq h hc hm =>
    refine .opq h hc ?_
    rcases hm with hm|⟨b,off,ha,hb,hlt,hk⟩
    · omega
    refine .inr ⟨b,off,ha,hs b hb hlt,(hw b hb hlt).2,fun hc=>?_⟩;obtain⟨h0,cells,el,h1,h2,h3,h4⟩:=hk hc
    rcases(hw b hb hlt).1 with h5|⟨_,n,_,c,c',e,h6,h7,h8,h9,h10⟩
    · simp_all
    grind
  |sl v h hts hl hr hc hm hv ih =>
    refine .sl v h hts hl hr hc ?_ (fun i j t' hi hj=>ih i j t' hi hj)
    rcases hm with hm|⟨b,off,ha,hb,hlt,hcell⟩
    · omega
    have he:w'.heap[b.b]?=w.heap[b.b]?:=by
      rcases(hw b hb hlt.1).1 with h5|⟨h5,n,_,c,c',e,h6,_,_,h7,_⟩
      · exact h5
      rw[(hlt.2 h5).2 c e h6]at h7;cases h7
    refine .inr ⟨b,off,ha,hs b hb hlt.1,⟨(hw b hb hlt.1).2,fun hc=>(hlt.2 hc).same he⟩,fun i j hi hj=>?_⟩;rw[World.cell?_of_block (w:=w) he]
    simp_all
section
variable {E:Env} {N:Nat}
abbrev St0 (E:Env) (N:Nat):=State (std E N)
abbrev AC0 (E:Env) (N:Nat):=AC (std E N)
def InM (β:Nat→Option Nat) (σ:Nat→Option (Nat×Nat)) (s:St0 E N) (blk:Nat):Prop :=
  (∃b e,s.getB b=some e∧β b=some blk)∨(∃id h cap,s.getH id=some h∧h.frozen=false∧σ id=some (blk,cap))
structure Nz where
 n:Nat
 U:Blk→Prop
def Old (n0:Nz) (nw:Bool) (blk:Blk):Prop:=(nw=true→n0.n≤blk.b)∧((n0.n≤blk.b∧blk.c=true)∨(blk.b<n0.n∧n0.U blk))
theorem Old.mono {n0:Nz} {nw nw':Bool} {blk:Blk} (h:Old n0 nw blk) (hh:nw'=true→nw=true):Old n0 nw' blk:=⟨fun e=>h.1 (hh e),h.2⟩
theorem Old.new {n0:Nz} {nw:Bool} {blk:Nat} (h:n0.n≤blk):Old n0 nw ⟨blk,true⟩:=⟨fun _=>h,.inl ⟨h,rfl⟩⟩
def StB (n0:Nz) (β:Nat→Option Nat) (σ:Nat→Option (Nat×Nat)) (s:St0 E N) (nw:Bool) (blk:Blk):Prop :=
 ¬InM β σ s blk.b∧Old n0 nw blk
def Q1 (β:Nat→Option Nat) (s:St0 E N) (b off:Nat) (v:Value):Prop :=
 ∃blk,v=.pointer (some ⟨blk,off,none⟩)∧∀e,s.getB b=some e→β b=some blk
def ABs (P:Program) (n0:Nz) (β:Nat→Option Nat) (σ:Nat→Option (Nat×Nat)) (s:St0 E N) (w:World) (e:TypeId) (l:Rows) (v:Value):Prop :=
 0<l.length∧∃t ts blk boff len cap,AK P t=.sl e∧AW P e=some ts∧Rep P w (StB n0 β σ s false) t (.slice (some ⟨blk,boff,none⟩) len cap) (.rows l)∧v=.pointer (some ⟨blk,boff,none⟩)
def T8 (P:Program) (n0:Nz) (β:Nat→Option Nat) (σ:Nat→Option (Nat×Nat)) (s:St0 E N) (w:World):Cap (std E N)→Value→Prop
 | .box b off,v=>Q1 β s b off v
 | .row e l,v=>ABs P n0 β σ s w e l v
def qT (σ:Nat→Option (Nat×Nat)) (id:Nat) (n:Nat) (v:Value):Prop :=
  (∃blk cap,σ id=some (blk,cap)∧v=.slice (some ⟨blk,0,none⟩) n cap)∨(σ id=none∧n=0∧∃a,v=.slice a 0 0)
def RelC (P:Program) (n0:Nz) (β:Nat→Option Nat) (σ:Nat→Option (Nat×Nat)) (s:St0 E N) (w:World):AC0 E N→Value→Prop
  | .int k i,v=>v=.int k i
  | .bool b,v=>v=.bool b
  | .str x,v=>v=.string x
  | .nil e,v=>∃t ts,AK P t=.sl e∧AW P e=some ts∧∃a,v=.slice a 0 0
  | .imm e nw l,v=>∃t,AK P t=.sl e∧Rep P w (StB n0 β σ s nw) t v (.rows l)
  | .own e id,v=>(∃t,AK P t=.sl e∧∃a len cap,v=.slice a len cap)∧∀h,s.getH id=some h→h.e=e∧qT σ id h.l.length v
  | .ptr b off,v=>Q1 β s b off v
  | .aptr b off n sz i inner,v=>0≤i∧i<(n:Int)∧Q1 β s b (off+i.toNat*sz+inner) v
  | .eptr id i off,v=>0≤i∧∃ blk o,v=.pointer (some ⟨blk,o,none⟩)∧∀ h,s.getH id=some h→i<(h.l.length:Int) ∧
      ∃ts cap,AW P h.e=some ts∧σ id=some (blk,cap)∧(0<cap∧∃t,AK P t=.sl h.e)∧o=i.toNat*ts.length+off
  | .iptr e nw l i off,v=>0≤i∧i<(l.length:Int)∧∃ t ts blk boff len cap,AK P t=.sl e∧AW P e=some ts ∧
      Rep P w (StB n0 β σ s nw) t (.slice (some ⟨blk,boff,none⟩) len cap) (.rows l)∧v=.pointer (some ⟨blk,boff+(i.toNat*ts.length+off),none⟩)
  | .fn f caps,v=>∃ vs:List Value,v=.func (.func f) #[] vs.toArray∧vs.length=caps.length ∧
      ∀(i:Nat) (c:Cap (std E N)),caps[i]?=some c→∃x:Value,vs[i]?=some x∧T8 P n0 β σ s w c x
  | .nilptr,v=>v=.pointer none
  | .tail e id i,v=>0≤i∧(∃ t,AK P t=.sl e∧∃ a len cap,v=.slice a len cap)∧∀ h,s.getH id=some h→h.e=e∧i≤(h.l.length:Int)∧∃ a cap,v=.slice a (h.l.length - i.toNat) cap ∧
      (h.l.length=i.toNat∨∃blk cap2 ts,AW P e=some ts∧σ id=some (blk,cap2)∧a=some ⟨blk,i.toNat*ts.length,none⟩)
  | .any T,v=>v.oneCell'=true
  | .opq nw n,v=>∃t,AK P t=.opq∧Rep P w (StB n0 β σ s nw) t v (.int n)
  | .mp e id,v=>((∀t,AK P t≠.sl e)∧∃r,v=.map (some r))∧∀h,s.getH id=some h→h.e=e∧∃r,σ id=some (r,0)∧v=.map (some r)
def RelCs (P:Program) (n0:Nz) (β:Nat→Option Nat) (σ:Nat→Option (Nat×Nat)) (s:St0 E N) (w:World):List (AC0 E N)→List Value→Prop
 | [],[]=>True
 |c::cs,v::vs=>RelC P n0 β σ s w c v∧RelCs P n0 β σ s w cs vs
 |_,_=>False
def RelVal (P:Program) (n0:Nz) (β:Nat→Option Nat) (σ:Nat→Option (Nat×Nat)) (s:St0 E N) (w:World) (x:Val (std E N)) (v:Value):Prop :=
 RelCs P n0 β σ s w x.cs v.cells.toList∧match x.agg with
  |true=>∃cs,v=.agg cs
  |false=>v.oneCell'=true
def RelVals (P:Program) (n0:Nz) (β:Nat→Option Nat) (σ:Nat→Option (Nat×Nat)) (s:St0 E N) (w:World):List (Val (std E N))→List Value→Prop
 | [],[]=>True
 |c::cs,v::vs=>RelVal P n0 β σ s w c v∧RelVals P n0 β σ s w cs vs
 |_,_=>False
def RelAV (P:Program) (n0:Nz) (β:Nat→Option Nat) (σ:Nat→Option (Nat×Nat)) (s:St0 E N) (w:World):AV (std E N)→Value→Prop
 | .val x,v=>RelVal P n0 β σ s w x v
 | .tup xs,v=>∃vs,v=.tuple vs∧RelVals P n0 β σ s w xs vs.toList
def Facts (a:Act) (gs:List (Nat×Bool)):Prop:=∀n b,(n,b)∈gs→a.tmps.getD n undef=.bool b
def ADN (P:Program) (n0:Nz) (β:Nat→Option Nat) (σ:Nat→Option (Nat×Nat)) (s:St0 E N) (a:Act) (w:World) (tv:TV (std E N)) (v:Value):Prop :=
  (Facts a tv.gs∧RelAV P n0 β σ s w tv.v v)∨(¬Facts a tv.gs∧v=undef)
def BH (blk:Nat) (cells:Array Value) (el:TypeId):List (AC0 E N)→Prop
 | .any T::_=>el=T∧∃p v,cells=#[p,v]∧(p=.pointer none∨p=.pointer (some ⟨blk,0,none⟩))∧(v=.slice none 0 0∨∃a n c,v=.slice a n c∧0<c)
 |_=>True
theorem BH.of_noAny {blk:Nat} {cells:Array Value} {el:TypeId} {cs:List (AC0 E N)} (h:Vv cs=true):BH blk cells el cs:=by
 cases cs with
 |nil=>trivial
 |cons c r=>cases c<;>first|trivial|(simp[Vv]at h)
def yd (P:Program) (n0:Nz) (β:Nat→Option Nat) (σ:Nat→Option (Nat×Nat)) (s:St0 E N) (w:World) (b:Nat) (e:BEnt (std E N)):Prop :=
 ∃blk cells el,β b=some blk∧w.heap[blk]?=some (.cells cells el (0,0))∧RelCs P n0 β σ s w e.cs cells.toList∧BH blk cells el e.cs
def OK (L:Rows):List (Value×Value):=L.map fun r=>(.int .i64 (Rm r),.bool (pvB (AA r 1)))
def X2 (w:World) (r:Nat) (L:Rows):Prop:=∃es clock,w.heap[r]?=some (.map es clock)∧es.toList.map (fun e=>(e.key,e.val))=OK L
def RelM (P:Program) (n0:Nz) (σ:Nat→Option (Nat×Nat)) (w:World) (id:Nat) (h:HEnt (std E N)):Prop :=
 ∃r,h.e=GN P∧(∀t,AK P t≠.sl h.e)∧σ id=some (r,0)∧X2 w r h.l∧Old n0 h.nw ⟨r,true⟩
def ADW (P:Program) (n0:Nz) (β:Nat→Option Nat) (σ:Nat→Option (Nat×Nat)) (s:St0 E N) (w:World) (id:Nat) (h:HEnt (std E N)):Prop :=
  ∃t ts,AK P t=.sl h.e∧AW P h.e=some ts∧(∀r∈h.l,r.length=ts.length) ∧
    ((σ id=none∧h.l=[]) ∨
      ∃blk cap cells el,σ id=some (blk,cap)∧w.heap[blk]?=some (.cells cells el (0,0))∧el=h.e∧cells.size=cap*ts.length∧h.l.length≤cap ∧
        Old n0 h.nw ⟨blk,true⟩ ∧
        ∃v:Nat→Nat→Value,(∀i j,i<h.l.length→j<ts.length→cells[i*ts.length+j]?=some (v i j)) ∧
          ∀i j t',i<h.l.length→ts[j]?=some t'→Rep P w (StB n0 β σ s h.nw) t' (v i j) (AD h.l i j))
def RelH (P:Program) (n0:Nz) (β:Nat→Option Nat) (σ:Nat→Option (Nat×Nat)) (s:St0 E N) (w:World) (id:Nat) (h:HEnt (std E N)):Prop :=
 ADW P n0 β σ s w id h∨RelM P n0 σ w id h
theorem RelM.view {P:Program} {n0 n0':Nz} {σ σ':Nat→Option (Nat×Nat)} {E':Env} {N':Nat} {w w':World} {id q:Nat} {h0:HEnt (std E N)} {h1:HEnt (std E' N')} (h:RelM P n0 σ w id h0) (he:h1.e=h0.e) (hl:h1.l=h0.l)
    (hs:σ' q=σ id) (hw:∀blk cap,σ id=some (blk,cap)→w'.heap[blk]?=w.heap[blk]?) (ho:∀blk cap,σ id=some (blk,cap)→Old n0 h0.nw ⟨blk,true⟩→Old n0' h1.nw ⟨blk,true⟩):RelM P n0' σ' w' q h1:=by
  obtain⟨r,a1,a3,a4,⟨es,cl,a5,a6⟩,a7⟩:=h;exact⟨r,he.trans a1,by simp_all,hs.trans a4,⟨es,cl,by rw[hw r 0 a4];exact a5,by rw[hl];exact a6⟩,ho r 0 a4 a7⟩
theorem RelM.noCap {P:Program} {n0:Nz} {σ:Nat→Option (Nat×Nat)} {w:World} {id blk cap:Nat} {h:HEnt (std E N)} (m:RelM P n0 σ w id h) (hs:σ id=some (blk,cap)) (hc:0<cap):False:=by
 obtain⟨r,a1,a3,a4,a5,a7⟩:=m
 simp_all
theorem RelM.noSl {P:Program} {n0:Nz} {σ:Nat→Option (Nat×Nat)} {w:World} {id:Nat} {h:HEnt (std E N)} (m:RelM P n0 σ w id h) {t:TypeId} (ht:AK P t=.sl h.e):False:=by
 obtain⟨r,a1,a3,a4,a5,a7⟩:=m
 grind
theorem RelM.blk {P:Program} {n0:Nz} {σ:Nat→Option (Nat×Nat)} {w:World} {id:Nat} {h:HEnt (std E N)} (m:RelM P n0 σ w id h) {blk cap:Nat} (hs:σ id=some (blk,cap)):(∃o,w.heap[blk]?=some o)∧Old n0 h.nw ⟨blk,true⟩:=by
 obtain⟨r,a1,a3,a4,⟨es,cl,a5,_⟩,a7⟩:=m;rw[hs]at a4;cases a4;exact⟨⟨_,a5⟩,a7⟩
structure Mem (P:Program) (n0:Nz) (β:Nat→Option Nat) (σ:Nat→Option (Nat×Nat)) (s:St0 E N) (w:World):Prop where
 B:∀b e,s.getB b=some e→yd P n0 β σ s w b e
 H:∀id h,s.getH id=some h→RelH P n0 β σ s w id h
 uB:∀b b' e e' blk,s.getB b=some e→s.getB b'=some e'→β b=some blk→β b'=some blk→b=b'
 uH:∀id id' h h' blk cap cap',s.getH id=some h→s.getH id'=some h'→σ id=some (blk,cap)→σ id'=some (blk,cap')→id=id'
 uX:∀b e id h blk cap,s.getB b=some e→s.getH id=some h→β b=some blk→σ id=some (blk,cap)→False
def lO : String := "internal/strconv.uint64pow10"
def AAj:List Int:=(List.range 20).map fun i=>((10 ^ i:Nat):Int)
def Kept (P:Program) (n0:Nz) (β:Nat→Option Nat) (σ:Nat→Option (Nat×Nat)) (s:St0 E N) (w:World):Prop :=
 ∀g,P.globalNamed lO=some g→Lib.TabIs P w lO .u64 AAj∧¬InM β σ s g∧g<n0.n
structure Sim (P:Program) (n0:Nz) (nt:Nat) (β:Nat→Option Nat) (σ:Nat→Option (Nat×Nat)) (s:St0 E N) (a:Act) (w:World):Prop where
 n0le:n0.n≤w.heap.size
 size:a.tmps.size=nt
 T:∀n tv,s.getT n=some tv→ADN P n0 β σ s a w tv (a.tmps.getD n undef)
 M:Mem P n0 β σ s w
 kept:Kept P n0 β σ s w
def AC.names:AC0 E N→List Nat
 | .own _ id=>[id]
 | .ptr b _=>[b]
 | .aptr b _ _ _ _ _=>[b]
 | .eptr id _ _=>[id]
 | .fn _ caps=>Iu caps
 | .tail _ id _=>[id]
 | .mp _ id=>[id]
 |_=>[]
def AH:List (AC0 E N)→List Nat
 | []=>[]
 |c::r=>c.names++AH r
def B0:List (Val (std E N))→List Nat
 | []=>[]
 |v::r=>AH v.cs++B0 r
def AV.names:AV (std E N)→List Nat
 | .val v=>AH v.cs
 | .tup vs=>B0 vs
theorem Tp {b o:Nat}:∀{caps:List (Cap (std E N))} {i:Nat},caps[i]?=some (.box b o)→b∈Iu caps
 | [],i,h=>by simp at h
 |c::r,0,h=>by simp at h;subst h;exact List.mem_append_left _ zzl
 |c::r,i+1,h=>List.mem_append_right _ (Tp (i:=i) (by trivial))
structure Fresh (a:Act) (s:St0 E N) (n:Nat):Prop where
 t:∀k tv,s.getT k=some tv→Facts a tv.gs→n∉tv.v.names
 b:∀k e,s.getB k=some e→n≠k∧n∉AH e.cs
 h:∀k e,s.getH k=some e→n≠k
structure Ext (P:Program) (n0:Nz) (new:Nat→Prop) (β:Nat→Option Nat) (σ:Nat→Option (Nat×Nat)) (s:St0 E N) (w:World)
    (β':Nat→Option Nat) (σ':Nat→Option (Nat×Nat)) (s':St0 E N) (w':World):Prop where
  os:w'.os=w.os
  tape:w'.tape=w.tape
  output:w'.output=w.output
  size:w.heap.size≤w'.heap.size
  frame:∀b,b<w.heap.size→¬InM β σ s b→w'.heap[b]?=w.heap[b]?∨TCh P n0.n w w' b
  mem:∀b,InM β' σ' s' b→InM β σ s b∨w.heap.size≤b
  kB:∀b e',s'.getB b=some e'→¬new b→(∃e,s.getB b=some e)∧β' b=β b
  kH:∀id h',s'.getH id=some h'→¬new id→∃h,s.getH id=some h∧σ' id=σ id∧h'.e=h.e∧((∃t,AK P t=.sl h.e)→h'.l.length=h.l.length)
section
variable {P:Program} {n0:Nz} {nt:Nat} {new:Nat→Prop} {β β':Nat→Option Nat} {σ σ':Nat→Option (Nat×Nat)} {s s':St0 E N} {w w':World} {a:Act}
theorem Ff {w:World} {b:Nat} {o:Obj} (h:w.heap[b]?=some o):b<w.heap.size:=by
 grind
theorem Kept.ext (k:Kept P n0 β σ s w) (x:Ext P n0 new β σ s w β' σ' s' w'):Kept P n0 β' σ' s' w':=fun g hg=>by
 obtain⟨h1,h2,h3⟩:=k g hg;unfold Lib.TabIs World.var? at h1⊢;rw[hg]at h1⊢;simp only[Option.bind_some]at h1⊢;have hlt:g<w.heap.size:=by
  grind
 have hf:w'.heap[g]?=w.heap[g]?:=(x.frame g hlt h2).elim id (fun h=>by have:=h.1;omega);refine⟨by simp_all,fun hm=>(x.mem g hm).elim h2 (fun h=>by omega),h3⟩
theorem Ext.rep (x:Ext P n0 new β σ s w β' σ' s' w') {nw:Bool} {t:TypeId} {v:Value} {p:PV} (h:Rep P w (StB n0 β σ s nw) t v p) :
    Rep P w' (StB n0 β' σ' s' nw) t v p :=
  h.mono (fun b hb hlt=>⟨(x.frame _ hlt hb.1).imp id (fun h=>⟨by
      rcases hb.2.2 with h1|h1
      · exact h1.2
      have:=h.1;omega,n0.n,h⟩),Nat.lt_of_lt_of_le hlt x.size⟩)
    (fun b hb hlt=>⟨fun hm=>(x.mem _ hm).elim hb.1 (fun h=>by omega),hb.2⟩)
theorem Ext.ptr (x:Ext P n0 new β σ s w β' σ' s' w') {b off:Nat} {v:Value} (hn:¬new b) (h:Q1 β s b off v):Q1 β' s' b off v:=by
 obtain⟨blk,rfl,hb⟩:=h;refine⟨blk,rfl,fun e he=>?_⟩;obtain⟨⟨e0,h0⟩,h1⟩:=x.kB b e he hn
 simp_all
theorem Ext.relC (x:Ext P n0 new β σ s w β' σ' s' w') {c:AC0 E N} {v:Value} (hn:∀ n∈c.names,¬ new n) (h:RelC P n0 β σ s w c v) :
    RelC P n0 β' σ' s' w' c v:=by
  cases c with
  |int k i=>exact h
  |bool b=>exact h
  |str x=>exact h
  |nil e=>exact h
  |nilptr=>exact h
  |any T=>exact h
  |opq nw n=>obtain⟨t,ht,hr⟩:=h;exact⟨t,ht,x.rep hr⟩
  |imm e nw l=>obtain⟨t,ht,hr⟩:=h;exact⟨t,ht,x.rep hr⟩
  |own e id =>
    obtain⟨h1,h2⟩:=h;refine⟨h1,fun h' hh=>?_⟩;obtain⟨h0,hh0,hs,he,hl⟩:=x.kH id h' hh (hn id (by simp[AC.names]));obtain⟨e1,o1⟩:=h2 h0 hh0;refine⟨he.trans e1,?_⟩;have hl:=hl (by simp_all);unfold qT at o1⊢
    simp_all
  |ptr b off=>exact x.ptr (hn b (by simp[AC.names])) h
  |aptr b off n sz i inner=>exact⟨h.1,h.2.1,x.ptr (hn b (by simp[AC.names])) h.2.2⟩
  |eptr id i off =>
    obtain⟨h0,blk,o,hv,hk⟩:=h;refine⟨h0,blk,o,hv,fun h' hh=>?_⟩;obtain⟨e0,hh0,hs,he,hl⟩:=x.kH id h' hh (hn id (by simp[AC.names]));obtain⟨hi,ts,cap,hts,hsg,hcp,ho⟩:=hk e0 hh0
    simp_all
  |iptr e nw l i off =>
    obtain⟨h0,h1,t,ts,blk,boff,len,cap,ht,hts,hr,hv⟩:=h;exact⟨h0,h1,t,ts,blk,boff,len,cap,ht,hts,x.rep hr,hv⟩
  |fn f caps =>
    obtain⟨vs,hv,hl,hp⟩:=h;refine⟨vs,hv,hl,fun i c hc=>?_⟩;obtain⟨y,hy,hr⟩:=hp i c hc;cases c with
    |box b o=>exact⟨y,hy,x.ptr (hn b (Tp hc)) hr⟩
    |row e l =>
      obtain⟨h1,t,ts,blk,boff,len,cap,ht,hts,hr,hv⟩:=hr;exact⟨y,hy,h1,t,ts,blk,boff,len,cap,ht,hts,x.rep hr,hv⟩
  |tail e id i =>
    obtain⟨h0,hv,hk⟩:=h;refine⟨h0,hv,fun h' hh=>?_⟩;obtain⟨e0,hh0,hs,he,hl⟩:=x.kH id h' hh (hn id (by simp[AC.names]))
    simp_all
  |mp e id =>
    obtain⟨hv,hk⟩:=h;refine⟨hv,fun h' hh=>?_⟩;obtain⟨e0,hh0,hs,he,_⟩:=x.kH id h' hh (hn id (by simp[AC.names]))
    simp_all
theorem Ext.relCs (x:Ext P n0 new β σ s w β' σ' s' w'):∀ {cs:List (AC0 E N)} {vs:List Value},(∀ n∈AH cs,¬ new n)→RelCs P n0 β σ s w cs vs →
    RelCs P n0 β' σ' s' w' cs vs
  | [],[],_,h=>h
  |c::cs,v::vs,hn,h=>⟨x.relC (fun n hm=>hn n (by simp[AH,hm])) h.1,x.relCs (fun n hm=>hn n (by simp[AH,hm])) h.2⟩
  | [],_::_,_,h=>h.elim
  |_::_,[],_,h=>h.elim
theorem Ext.relVal (x:Ext P n0 new β σ s w β' σ' s' w') {y:Val (std E N)} {v:Value} (hn:∀ n∈AH y.cs,¬ new n) (h:RelVal P n0 β σ s w y v) :
    RelVal P n0 β' σ' s' w' y v:=⟨x.relCs hn h.1,h.2⟩
theorem Ext.relVals (x:Ext P n0 new β σ s w β' σ' s' w'):∀ {cs:List (Val (std E N))} {vs:List Value},(∀ n∈B0 cs,¬ new n)→RelVals P n0 β σ s w cs vs →
    RelVals P n0 β' σ' s' w' cs vs
  | [],[],_,h=>h
  |c::cs,v::vs,hn,h=>⟨x.relVal (fun n hm=>hn n (by simp[B0,hm])) h.1,x.relVals (fun n hm=>hn n (by simp[B0,hm])) h.2⟩
  | [],_::_,_,h=>h.elim
  |_::_,[],_,h=>h.elim
theorem Ext.relAV (x:Ext P n0 new β σ s w β' σ' s' w') {y:AV (std E N)} {v:Value} (hn:∀ n∈y.names,¬ new n) (h:RelAV P n0 β σ s w y v) :
    RelAV P n0 β' σ' s' w' y v:=by
  cases y with
  |val y=>exact x.relVal hn h
  |tup ys=>obtain⟨vs,hv,hr⟩:=h;exact⟨vs,hv,x.relVals hn hr⟩
theorem Ext.refl (P:Program) (n0:Nz) (new:Nat→Prop) (β:Nat→Option Nat) (σ:Nat→Option (Nat×Nat)) (s:St0 E N) (w:World):Ext P n0 new β σ s w β σ s w :=
 ⟨rfl,rfl,rfl,Nat.le_refl _,fun _ _ _=>.inl rfl,fun _ h=>.inl h,fun b e h _=>⟨⟨e,h⟩,rfl⟩,fun id h hh _=>⟨h,hh,rfl,rfl,fun _=>rfl⟩⟩
theorem Ext.trans {new2:Nat→Prop} {β'':Nat→Option Nat} {σ'':Nat→Option (Nat×Nat)} {s'':St0 E N} {w'':World}
    (x:Ext P n0 new β σ s w β' σ' s' w') (y:Ext P n0 new2 β' σ' s' w' β'' σ'' s'' w''):Ext P n0 (fun n=>new n∨new2 n) β σ s w β'' σ'' s'' w'' where
  os:=y.os.trans x.os
  tape:=y.tape.trans x.tape
  output:=y.output.trans x.output
  size:=Nat.le_trans x.size y.size
  frame b hb hm:=by
    rcases y.frame b (Nat.lt_of_lt_of_le hb x.size) (fun h=>(x.mem b h).elim hm (fun h=>by omega))with h1|h1
    · rcases x.frame b hb hm with h2|⟨h0,c,c',e,h2,h3,h4⟩
      · simp_all
      exact .inr ⟨h0,c,c',e,h2,h1.trans h3,h4⟩
    rcases x.frame b hb hm with h2|⟨h0,c,c',e,h2,h3,h4,_⟩
    · obtain⟨h0,c,c',e,h3,h4⟩:=h1;exact .inr ⟨h0,c,c',e,h2.symm.trans h3,h4⟩
    obtain⟨_,d,d',e',h5,h6,h7,h8⟩:=h1;rw[h3]at h5;cases h5;exact .inr ⟨h0,c,d',e,h2,h6,h7.trans h4,h8⟩
  mem b h:=(y.mem b h).elim (fun h=>x.mem b h) (fun h=>.inr (Nat.le_trans x.size h))
  kB b e h hn:=by
    obtain⟨⟨e1,h1⟩,e2⟩:=y.kB b e h (fun h=>hn (.inr h));obtain⟨⟨e3,h3⟩,e4⟩:=x.kB b e1 h1 (fun h=>hn (.inl h))
    simp_all
  kH id h hh hn:=by
    obtain⟨h1,hh1,a1,a2,a3⟩:=y.kH id h hh (fun h=>hn (.inr h));obtain⟨h2,hh2,b1,b2,b3⟩:=x.kH id h1 hh1 (fun h=>hn (.inl h))
    grind
theorem Ext.weaken {new2:Nat→Prop} (x:Ext P n0 new β σ s w β' σ' s' w') (h:∀n,new n→new2 n):Ext P n0 new2 β σ s w β' σ' s' w' :=
 { x with kB:=fun b e hb hn=>x.kB b e hb (fun k=>hn (h _ k)),kH:=fun id e hb hn=>x.kH id e hb (fun k=>hn (h _ k)) }
structure Sub (s s':St0 E N):Prop where
 b:∀n e',s'.getB n=some e'→∃e,s.getB n=some e∧e'.cs=e.cs
 h:∀n h',s'.getH n=some h'→∃h,s.getH n=some h∧h'.e=h.e∧h'.l=h.l∧h'.nw=h.nw∧(h'.frozen=false→h.frozen=false)
theorem Sub.inM (x:Sub s s') {b:Nat} (h:InM β σ s' b):InM β σ s b:=by
 rcases h with⟨n,e,he,hb⟩|⟨id,h,cap,hh,hf,hs⟩
 ·obtain⟨e0,h0,_⟩:=x.b n e he;exact .inl ⟨n,e0,h0,hb⟩
 obtain⟨h0,hh0,_,_,_,hf0⟩:=x.h id h hh;exact .inr ⟨id,h0,cap,hh0,hf0 hf,hs⟩
theorem Sub.ext (x:Sub s s') (P:Program) (n0:Nz) (new:Nat→Prop) (β:Nat→Option Nat) (σ:Nat→Option (Nat×Nat)) (w:World):Ext P n0 new β σ s w β σ s' w where
 os:=rfl
 tape:=rfl
 output:=rfl
 size:=Nat.le_refl _
 frame _ _ _:=.inl rfl
 mem b h:=.inl (x.inM h)
 kB n e h _:=by obtain⟨e0,h0,_⟩:=x.b n e h;simp_all
 kH n e h _:=by obtain⟨h0,hh0,h1,h2,_⟩:=x.h n e h;simp_all
theorem Sub.mem (x:Sub s s') (m:Mem P n0 β σ s w):Mem P n0 β σ s' w where
 B n e h:=by
  obtain⟨e0,h0,hc⟩:=x.b n e h;obtain⟨blk,cells,el,hb,hh,hr,hbh⟩:=m.B n e0 h0;exact⟨blk,cells,el,hb,hh,(x.ext P n0 (fun _=>False) β σ w).relCs (fun _ _=>id) (by simp_all),by simp_all⟩
 H n e h:=by
  obtain⟨h0,hh0,h1,h2,h3,h4⟩:=x.h n e h
  rcases m.H n h0 hh0 with⟨t,ts,ht,hts,hr,hm⟩|hM
  case inr=>exact .inr (hM.view h1 h2 rfl (fun _ _ _=>rfl) (fun _ _ _ ho=>by rw[h3];exact ho))
  refine .inl ⟨t,ts,by simp_all,by simp_all,by simp_all,?_⟩
  rcases hm with⟨ha,hb⟩|⟨blk,cap,cells,el,ha,hb,hel,hc,hd,he,v,hv,hrep⟩
  ·simp_all
  refine .inr ⟨blk,cap,cells,el,ha,hb,by simp_all,hc,by simp_all,by simp_all,v,by simp_all,fun i j t' hi hj=>?_⟩;rw[h2]at hi⊢;rw[h3];exact(x.ext P n0 (fun _=>False) β σ w).rep (hrep i j t' hi hj)
 uB b b' e e' blk h h' hb hb':=by
  obtain⟨e0,h0,_⟩:=x.b b e h;obtain⟨e1,h1,_⟩:=x.b b' e' h';exact m.uB b b' e0 e1 blk h0 h1 hb hb'
 uH b b' e e' blk cap cap' h h' hb hb':=by
  obtain⟨e0,h0,_⟩:=x.h b e h;obtain⟨e1,h1,_⟩:=x.h b' e' h';exact m.uH b b' e0 e1 blk cap cap' h0 h1 hb hb'
 uX b e id h blk cap hb hh h1 h2:=by
  obtain⟨e0,h0,_⟩:=x.b b e hb;obtain⟨h3,hh3,_⟩:=x.h id h hh;exact m.uX b e0 id h3 blk cap h0 hh3 h1 h2
theorem Sub.of_same (hb:∀n,s'.getB n=s.getB n) (hh:∀n,s'.getH n=s.getH n):Sub s s' :=
 ⟨fun n e h=>⟨e,by simp_all,rfl⟩,fun n e h=>⟨e,by simp_all,rfl,rfl,rfl,id⟩⟩
end
end
theorem AG {a b:Nat}:Nat.beq a b=true↔a=b:=by
 simp_all
theorem Bd {a b:Nat}:Nat.beq a b=false↔a≠b:=by
 rw[←Bool.not_eq_true,AG]
theorem A7 {a b:Nat}:Nat.blt a b=true↔a<b:=by
 simp_all
theorem TM.get_set {α:Type}:∀ (d:Nat) (t:TM α) (k j:Nat) (v:Option α),k<2 ^ d→j<2 ^ d →
    TM.get d (TM.set d t k v) j=if j=k then v else TM.get d t j
  |0,t,k,j,v,hk,hj=>by
    have h1:k=0:=by omega
    have h2:j=0:=by omega
    subst h1;subst h2;cases v<;>simp[TM.set,TM.get]
  |d+1,t,k,j,v,hk,hj=>by
    have hk2:k / 2<2 ^ d:=by omega
    have hj2:j / 2<2 ^ d:=by omega
    have ih:=fun t=>TM.get_set d t (k / 2) (j / 2) v hk2 hj2
    have hget:TM.get (d+1) t j=match Nat.beq (j % 2) 0 with
        |true=>TM.get d t.kids.1 (j / 2)
        |false=>TM.get d t.kids.2 (j / 2):=by
      cases t with
      |node l r=>rfl
      |e=>cases d<;>simp[TM.get,TM.kids]<;>split<;>rfl
      |leaf a=>cases d<;>simp[TM.get,TM.kids]<;>split<;>rfl
    rw[hget];simp only[TM.set]
    rcases hb:Nat.beq (k%2) 0 with _|_<;>rcases hc:Nat.beq (j%2) 0 with _|_
    all_goals simp only[TM.get,hc,ih]
    all_goals first
      | (have e1 := AG.1 hb; have e2 := Bd.1 hc; have : j ≠ k := by intro h; subst h; omega
         rw[if_neg this])
      | (have e1 := Bd.1 hb; have e2 := AG.1 hc; have : j ≠ k := by intro h; subst h; omega
         rw[if_neg this])
      | (by_cases hjk : j = k
         · simp_all
         have e1:j / 2≠k / 2:=by
           intro h;have x1:=hb;have x2:=hc
           first
             |(have:=AG.1 x1;have:=AG.1 x2;omega)
             |(have:=Bd.1 x1;have:=Bd.1 x2;omega)
         simp_all)
theorem ER {α:Type} (t:TM α) (k j:Nat) (v:Option α) :
    DR (GT t k v) j=if j=k∧k<Fg then v else DR t j:=by
  unfold GT DR
  rcases h1:Nat.blt j Fg with _|_
  · have:¬ (j=k∧k<Fg):=by
      rintro⟨rfl,h⟩;rw[←A7,h1]at h;trivial
    grind
  rcases h2:Nat.blt k Fg with _|_
  · grind
  have hk:=A7.1 h2;have hj:=A7.1 h1;simp only[];rw[TM.get_set cV t k j v (by trivial) (by trivial)];simp[hk]
theorem Wf {α:Type} (k:Nat):DR (TM.e:TM α) k=none:=by
 unfold DR;split
 ·rfl
 rfl
theorem V8 {α:Type}:∀(l:List (Nat×α)) (k j:Nat),AL (YD l k) j=if j=k then none else AL l j
 | [],k,j=>by simp[YD,AL]
 |(i,a)::l,k,j=>by
  have ih:=V8 l k j;simp only[YD]
  rcases h:Nat.beq i k with _|_
  ·have hik:=Bd.1 h;simp only[AL]
   grind
  have hik:=AG.1 h;simp only[AL,ih]
  by_cases hjk:j=k
  ·simp_all
  rw[if_neg hjk,if_neg hjk,Bd.2 (by omega)]
theorem BQ {α:Type} (l:List (Nat×α)) (k j:Nat) (v:Option α):AL (OE l k v) j=if j=k then v else AL l j:=by
 cases v with
 |none=>simp only[OE];exact V8 l k j
 |some a =>
  simp only[OE,AL]
  rcases h:Nat.beq k j with _|_
  ·have:=Bd.1 h;rw[V8,if_neg (by omega),if_neg (by omega)]
  simp_all
theorem Tb {α:Type} (p:Nat→Bool):∀(l:List (Nat×α)) (k:Nat),AL (l.filter fun x=>p x.1) k=if p k then AL l k else none
 | [],k=>by simp[AL]
 |(i,a)::l,k=>by
  have ih:=Tb p l k;simp only[List.filter_cons]
  rcases hp:p i with _|_
  ·simp only[Bool.false_eq_true,if_false,ih,AL]
   rcases h:Nat.beq i k with _|_
   ·rfl
   simp_all
  simp only[if_true,AL]
  rcases h:Nat.beq i k with _|_
  ·exact ih
  simp_all
theorem VP {α β:Type} (f:α→β):∀(l:List (Nat×α)) (k:Nat),AL (l.map fun (n,a)=>(n,f a)) k=(AL l k).map f
 | [],k=>rfl
 |(i,a)::l,k=>by
  have ih:=VP f l k;simp only[List.map_cons,AL]
  grind
theorem IJ {α:Type}:∀ (l r:List (Nat×α)) (k:Nat),AL (l++r) k=match AL l k with
    |some a=>some a
    |none=>AL r k
  | [],r,k=>rfl
  |(i,a)::l,r,k=>by
    have ih:=IJ l r k;simp only[List.cons_append,AL]
    grind
theorem aP {α:Type}:∀{l:List (Nat×α)} {k:Nat} {a:α},AL l k=some a→(k,a)∈l
 |(i,b)::l,k,a,h=>by
  simp only[AL]at h
  rcases hb:Nat.beq i k with _|_
  ·rw[hb]at h;exact zzm _ (aP h)
  simp_all
 | [],k,a,h=>by trivial
theorem Cd {n:Nat}:∀{l:List Nat},CT n l=true↔n∈l
 | []=>by simp[CT]
 |m::l=>by
  simp only[CT]
  rcases h:Nat.beq n m with _|_
  ·rw[Cd,List.mem_cons];have:=Bd.1 h;simp[this]
  simp_all
theorem JP:∀{a b:List Nat},AR a b=true↔a=b
 | [],[]=>by trivial
 |a::l,b::r=>by
  simp only[AR]
  rcases h:Nat.beq a b with _|_
  ·have:=Bd.1 h;simp[this]
  have:=AG.1 h;simp[this,JP]
 | [],_::_=>by simp[AR]
 |_::_,[]=>by simp[AR]
theorem He {a b:IntKind}:V7 a b=true↔a=b:=by cases a<;>cases b<;>simp[V7]
theorem bQ {α:Type}:∀(ws:List (Nat×Option α)) (l:List (Nat×α)) (k:Nat),(∀x∈ws,x.1≠k)→AL (BO l ws) k=AL l k
 | [],l,k,h=>rfl
 |(n,v)::r,l,k,h=>by
  simp only[BO];rw[bQ r _ k (fun x hx=>h x (zzm _ hx)),BQ,if_neg];have:=h (n,v) zzl;omega
theorem FC {α:Type}:∀(a b:List (Nat×Option α)) (l:List (Nat×α)),BO l (a++b)=BO (BO l a) b
 | [],b,l=>rfl
 |(n,v)::r,b,l=>by simp only[List.cons_append,BO];exact FC r b _
section
variable {O:Alg} {α β:Type} {s:State O}
theorem zzi (x:RM O α) (f:α→RM O β):∀ (m:Nat),RM.run s (x.bind f) m=match RM.run s x m with
    | .ok (a,m')=>RM.run s (f a) m'
    | .error e=>.error e:=by
  induction x with
  |ret a=>intro m;rfl
  |fail w=>intro m;rfl
  |t n g ih=>intro m;simp only[RM.bind,RM.run];grind
  |b n g ih=>intro m;simp only[RM.bind,RM.run];grind
  |h n g ih=>intro m;simp only[RM.bind,RM.run];grind
theorem zza {x:RM O α} {f:α→RM O β} {m m':Nat} {b:β} (h:RM.run s (x.bind f) m=.ok (b,m')) :
    ∃a m1,RM.run s x m=.ok (a,m1)∧RM.run s (f a) m1=.ok (b,m'):=by
  rw[zzi]at h
  grind
theorem zzc {a b:α} {m m':Nat} (h:RM.run s (RM.ret a:RM O α) m=.ok (b,m')):a=b:=by
 simp only[RM.run,Except.ok.injEq,Prod.mk.injEq]at h;exact h.1
theorem zzb {w:String} {b:α} {m m':Nat} (h:RM.run s (RM.fail w:RM O α) m=.ok (b,m')):False:=by
 trivial
theorem zzd {b:Bool} {w:String} {u:Unit} {m m':Nat} (h:RM.run s (RM.guard b w) m=.ok (u,m')):b=true:=by
 cases b
 ·trivial
 rfl
theorem zzh {x:Option α} {w:String} {a:α} {m m':Nat} (h:RM.run s (RM.ofOpt w x) m=.ok (a,m')):x=some a:=by
 cases x with
 |none=>trivial
 |some b=>exact congrArg some (zzc h)
theorem zze {n:Nat} {f:Option (TV O)→RM O α} {a:α} {m m':Nat} (h:RM.run s (RM.t n f) m=.ok (a,m')):∃m1,RM.run s (f (s.getT n)) m1=.ok (a,m') :=
 ⟨_,h⟩
theorem zzg {n:Nat} {f:Option (BEnt O)→RM O α} {a:α} {m m':Nat} (h:RM.run s (RM.b n f) m=.ok (a,m')):∃m1,RM.run s (f (s.getB n)) m1=.ok (a,m') :=
 ⟨_,h⟩
theorem zzf {n:Nat} {f:Option (HEnt O)→RM O α} {a:α} {m m':Nat} (h:RM.run s (RM.h n f) m=.ok (a,m')):∃m1,RM.run s (f (s.getH n)) m1=.ok (a,m') :=
 ⟨_,h⟩
end
section
variable {O:Alg} (s:State O)
theorem State.getT_apply1 (d:Nat) (v:Option (TV O)) (w:Wr O) (hw:w.ts=[(d,v)]) (n:Nat) :
    (s.apply w).getT n=if n=d∧d<Fg then v else s.getT n:=by
  unfold State.apply State.getT;rw[hw];simp only[State.applyT];exact ER _ _ _ _
theorem State.getT_apply0 (w:Wr O) (hw:w.ts=[]) (n:Nat):(s.apply w).getT n=s.getT n:=by
 unfold State.apply State.getT;rw[hw];rfl
theorem State.getB_apply0 (w:Wr O) (hw:w.bs=[]) (n:Nat):(s.apply w).getB n=s.getB n:=by
 unfold State.apply State.getB;rw[hw];rfl
theorem State.getB_apply1 (b:Nat) (v:Option (BEnt O)) (w:Wr O) (hw:w.bs=[(b,v)]) (n:Nat) :
    (s.apply w).getB n=if n=b then v else s.getB n:=by
  unfold State.apply State.getB;rw[hw];exact BQ _ _ _ _
theorem State.getH_apply0 (w:Wr O) (hw:w.hs=[]) (n:Nat):(s.apply w).getH n=s.getH n:=by
 unfold State.apply State.getH;rw[hw];rfl
end
section
variable {E:Env} {N:Nat} {P:Program} {n0:Nz} {nt:Nat} {β:Nat→Option Nat} {σ:Nat→Option (Nat×Nat)} {s:St0 E N} {a:Act} {w:World}
theorem rA:∀{gs ctx:List (Nat×Bool)},eW gs ctx=true→∀x∈gs,x∈ctx
 | [],_,_,x,hx=>by simp at hx
 |(n,b)::r,ctx,h,x,hx=>by
  simp only[eW]at h
  split at h
  ·rename_i hany
   rcases List.mem_cons.1 hx with rfl|hx
   ·simp_all
   exact rA h x hx
  cases h
theorem Facts.of_in {gs ctx:List (Nat×Bool)} (h:eW gs ctx=true) (hf:Facts a ctx):Facts a gs :=
 fun n b hm=>hf n b (rA h _ hm)
theorem gU {t:TypeId} {v:Value} {c:AC0 E N} (h:XR P t v=some c):RelC P n0 β σ s w c v∧c.names=[]∧v.oneCell'=true:=by
 unfold XR at h
 split at h
 ·rename_i k k' n hk
  split at h
  ·rename_i hkk;cases h;exact⟨by simp only[RelC];rw[He.1 hkk],rfl,rfl⟩
  cases h
 ·rename_i b hk;cases h;cases b<;>exact⟨rfl,rfl,rfl⟩
 ·rename_i x hk;cases h;trivial
 ·rename_i e hk
  split at h
  ·rename_i ts hts;cases h;exact⟨⟨t,ts,hk,hts,none,rfl⟩,rfl,rfl⟩
  cases h
 ·cases h;trivial
 ·rename_i e hk
  split at h
  ·cases h
  rename_i hb;cases h;exact⟨⟨t,hk,.ptN hk (Nat.le_of_not_lt fun hc=>by rw[A7.2 hc]at hb;cases hb)⟩,rfl,rfl⟩
 ·rename_i hk;cases h;exact⟨⟨t,hk,.opq (len:=0) hk (Nat.le_refl _) (.inl rfl)⟩,rfl,rfl⟩
 cases h
theorem dx:∀{ts:List TypeId} {vs:List Value} {cs:List (AC0 E N)},TA P ts vs=some cs→RelCs P n0 β σ s w cs vs∧AH cs=[]∧cs.length=ts.length∧∀v∈vs,v.oneCell'=true
 | [],[],cs,h=>by cases h;trivial
 |t::ts,v::vs,cs,h=>by
  simp only[TA]at h
  split at h
  ·rename_i c r hc hr;cases h;obtain⟨r1,n1,o1⟩:=gU (n0:=n0) (β:=β) (σ:=σ) (s:=s) (w:=w) hc;obtain⟨r2,n2,l2,o2⟩:=dx hr;exact⟨⟨r1,r2⟩,by simp[AH,n1,n2],by simp[l2],fun x hx=>(List.mem_cons.1 hx).elim (fun e=>e▸o1) (o2 x)⟩
  cases h
 | [],_::_,_,h=>by trivial
 |_::_,[],_,h=>by trivial
theorem iZ {t:TypeId} {v:Value} {x:Val (std E N)} (h:RC P t v=some x) :
    RelVal P n0 β σ s w x v∧AH x.cs=[]∧∀u∈v.cells.toList,u.oneCell'=true:=by
  unfold RC at h
  split at h
  · rename_i cs
    split at h
    · rename_i ts hts
      split at h
      · rename_i l hl;cases h;obtain⟨r,n,_,o⟩:=dx (n0:=n0) (β:=β) (σ:=σ) (s:=s) (w:=w) hl;exact⟨⟨r,cs,rfl⟩,n,o⟩
      cases h
    cases h
  rename_i hna
  split at h
  · rename_i c hc;cases h;obtain⟨r,n,o⟩:=gU (n0:=n0) (β:=β) (σ:=σ) (s:=s) (w:=w) hc;have hcells:v.cells=#[v]:=by cases v<;>first|rfl|trivial
    exact⟨⟨by rw[hcells];trivial,o⟩,by simp[AH,n],by simp_all⟩
  cases h
theorem Fresh.av {n:Nat} (hf:Fresh a s n) {k:Nat} {tv:TV (std E N)} (h:s.getT k=some tv) (hg:Facts a tv.gs):n∉tv.v.names:=hf.t k tv h hg
theorem Ve {ctx:List (Nat×Bool)} {T:TypeId} {x:Operand} {v:AV (std E N)} {m m':Nat} (hs:Sim P n0 nt β σ s a w) (hf:Facts a ctx)
    (h:RM.run s (ev P ctx T x) m=.ok (v,m')):RelAV P n0 β σ s w v (a.eval x)∧∀n,Fresh a s n→n∉v.names:=by
  cases x with
  |tmp k =>
    obtain⟨m1,h⟩:=zze h;cases hg:s.getT k with
    |none=>rw[hg]at h;trivial
    |some tv =>
      rw[hg]at h;simp only at h
      split at h
      · rename_i hin;cases zzc h;refine⟨?_,fun n hn=>hn.t k tv hg (hf.of_in hin)⟩
        rcases hs.T k tv hg with⟨_,hr⟩|⟨hnf,_⟩
        · exact hr
        exact(hnf (hf.of_in hin)).elim
      trivial
  |const c =>
    simp only[ev]at h;cases hx:RC (O:=std E N) P T c with
    |some x =>
      rw[hx]at h;cases zzc h;obtain⟨r,n,_⟩:=iZ (n0:=n0) (β:=β) (σ:=σ) (s:=s) (w:=w) hx;exact⟨r,fun k _=>by simp[AV.names,n]⟩
    |none=>rw[hx]at h;trivial
  |func f =>
    unfold ev at h;cases zzc h;exact⟨⟨⟨⟨[],rfl,rfl,by simp⟩,trivial⟩,rfl⟩,fun k _=>by simp[AV.names,one,AH,AC.names,Iu]⟩
  |global g=>trivial
theorem Mj {ctx:List (Nat×Bool)} {T:TypeId} {x:Operand} {v:Val (std E N)} {m m':Nat} (hs:Sim P n0 nt β σ s a w) (hf:Facts a ctx)
    (h:RM.run s (evV P ctx T x) m=.ok (v,m')):RelVal P n0 β σ s w v (a.eval x)∧∀n,Fresh a s n→n∉AH v.cs:=by
  obtain⟨y,m1,h1,h2⟩:=zza h;obtain⟨r,n⟩:=Ve hs hf h1;cases y with
  |val u=>cases zzc h2;trivial
  |tup us=>trivial
theorem Bp {v:Value} (h:v.oneCell'=true):v.cells=#[v]:=by cases v<;>first|rfl|trivial
theorem Ci {ctx:List (Nat×Bool)} {T:TypeId} {x:Operand} {c:AC0 E N} {m m':Nat} (hs:Sim P n0 nt β σ s a w) (hf:Facts a ctx)
    (h:RM.run s (evC P ctx T x) m=.ok (c,m')):RelC P n0 β σ s w c (a.eval x)∧(a.eval x).oneCell'=true∧∀n,Fresh a s n→n∉c.names:=by
  obtain⟨y,m1,h1,h2⟩:=zza h;obtain⟨r,n⟩:=Mj hs hf h1;obtain⟨ag,cs⟩:=y
  split at h2
  · rename_i c1 hag hcs;simp only at hag hcs;subst hag;subst hcs;cases zzc h2;obtain⟨r1,r2⟩:=r;simp only at r2;rw[Bp r2]at r1;exact⟨r1.1,r2,fun k hk=>by have:=n k hk;simpa[AH] using this⟩
  trivial
theorem RelC.one {c:AC0 E N} {v:Value} (h:RelC P n0 β σ s w c v):v.oneCell'=true:=by
 cases c with
 |int k i=>have h':v=_:=h;subst h';rfl
 |bool b=>have h':v=_:=h;subst h';rfl
 |str x=>have h':v=_:=h;subst h';rfl
 |nil e=>obtain⟨_,_,_,_,x,rfl⟩:=h;rfl
 |imm e nw l=>obtain⟨t,ht,hr⟩:=h;cases hr<;>rfl
 |own e id=>obtain⟨⟨_,_,x,y,z,rfl⟩,_⟩:=h;rfl
 |ptr b off=>obtain⟨blk,rfl,_⟩:=h;rfl
 |aptr b off n sz i inner=>obtain⟨_,_,blk,rfl,_⟩:=h;rfl
 |eptr id i off=>obtain⟨_,blk,o,rfl,_⟩:=h;rfl
 |iptr e nw l i off=>obtain⟨_,_,_,_,_,_,_,_,_,_,_,rfl⟩:=h;rfl
 |fn f caps=>obtain⟨vs,rfl,_⟩:=h;rfl
 |nilptr=>have h':v=_:=h;subst h';rfl
 |tail e id i=>obtain⟨_,⟨_,_,x,y,z,rfl⟩,_⟩:=h;rfl
 |mp e id=>obtain⟨⟨_,r,rfl⟩,_⟩:=h;rfl
 |any T=>exact h
 |opq nw n=>obtain⟨t,ht,hr⟩:=h;cases hr<;>rfl
theorem RelCs.one:∀{cs:List (AC0 E N)} {vs:List Value},RelCs P n0 β σ s w cs vs→∀v∈vs,v.oneCell'=true
 | [],[],_,v,hv=>by simp at hv
 |c::cs,x::vs,h,v,hv=>by
  rcases List.mem_cons.1 hv with rfl|hv
  ·exact RelC.one h.1
  exact RelCs.one h.2 v hv
 | [],_::_,h,_,_=>h.elim
 |_::_,[],h,_,_=>h.elim
theorem RelCs.length:∀{cs:List (AC0 E N)} {vs:List Value},RelCs P n0 β σ s w cs vs→cs.length=vs.length
 | [],[],_=>rfl
 |c::cs,x::vs,h=>by simp[RelCs.length h.2]
 | [],_::_,h=>h.elim
 |_::_,[],h=>h.elim
theorem RelCs.get:∀{cs:List (AC0 E N)} {vs:List Value},RelCs P n0 β σ s w cs vs→∀(i:Nat) (c:AC0 E N) (v:Value),cs[i]?=some c→vs[i]?=some v→RelC P n0 β σ s w c v
 |c::cs,x::vs,h,0,c',v,hc,hv=>by simp at hc hv;subst hc;subst hv;exact h.1
 |c::cs,x::vs,h,i+1,c',v,hc,hv=>RelCs.get h.2 i c' v (by trivial) (by trivial)
 | [],_,_,i,c',v,hc,_=>by simp at hc
 |_::_,[],h,_,_,_,_,_=>h.elim
theorem XN {ctx:List (Nat×Bool)} {x:Operand} {i:Int} {m m':Nat} (hs:Sim P n0 nt β σ s a w) (hf:Facts a ctx)
    (h:RM.run s (evI (O:=std E N) ctx x) m=.ok (i,m')):∃k,a.eval x=.int k i:=by
  cases x with
  |tmp k =>
    obtain⟨m1,h⟩:=zze h;cases hg:s.getT k with
    |none=>rw[hg]at h;trivial
    |some tv =>
      rw[hg]at h;simp only at h
      split at h
      · rename_i k' i' hin hv;cases zzc h
        rcases hs.T k tv hg with⟨_,hr⟩|⟨hnf,_⟩
        · rw[hv]at hr;obtain⟨r1,r2⟩:=hr;simp only at r2;rw[Bp r2]at r1;exact⟨k',r1.1⟩
        exact(hnf (hf.of_in hin)).elim
      trivial
  |const c =>
    unfold evI at h
    split at h
    · rename_i k n hc;cases hc;cases zzc h;exact⟨_,rfl⟩
    · trivial
    trivial
  |func f=>trivial
  |global g=>trivial
theorem Vn:∀ {gs:List (Nat×Bool)} {g:Option Bool} {m m':Nat},Sim P n0 nt β σ s a w→Facts a gs →
    RM.run s (Wg (O:=std E N) gs) m=.ok (g,m')→∀b,g=some b→b=true
  | [],g,m,m',hs,hf,h,b,hb=>by cases zzc h;cases hb
  |(n,want)::r,g,m,m',hs,hf,h,b,hb=>by
    obtain⟨m1,h⟩:=zze h;cases hg:s.getT n with
    |none=>rw[hg]at h;trivial
    |some tv =>
      rw[hg]at h;simp only at h
      split at h
      · rename_i gs' b' heq;cases heq;obtain ⟨g1,m2,h1,h2⟩:=zza h;have ih:=Vn hs (fun n b hm=>hf n b (zzm _ hm)) h1;have hn:a.tmps.getD n undef=.bool want:=hf n want zzl;have hb':b'=want:=by
          rcases hs.T n _ hg with⟨_,hr⟩|⟨_,hu⟩
          · obtain⟨r1,r2⟩:=hr;simp only at r2;rw[Bp r2]at r1;have e:a.tmps.getD n undef=.bool b':=r1.1
            simp_all
          rw[hu]at hn;cases hn
        have e2:=zzc h2
        grind
      trivial
end
section
variable {E:Env} {N:Nat} {P:Program} {n0:Nz} {nt:Nat} {β:Nat→Option Nat} {σ:Nat→Option (Nat×Nat)} {s:St0 E N} {a:Act} {w:World}
theorem RelCs.take:∀{cs:List (AC0 E N)} {vs:List Value} (n:Nat),RelCs P n0 β σ s w cs vs→RelCs P n0 β σ s w (cs.take n) (vs.take n)
 |cs,vs,0,h=>by simp[RelCs]
 | [],[],n+1,h=>by grind
 |c::cs,v::vs,n+1,h=>⟨h.1,RelCs.take n h.2⟩
 | [],_::_,_+1,h=>h.elim
 |_::_,[],_+1,h=>h.elim
theorem RelCs.drop:∀{cs:List (AC0 E N)} {vs:List Value} (n:Nat),RelCs P n0 β σ s w cs vs→RelCs P n0 β σ s w (cs.drop n) (vs.drop n)
 |cs,vs,0,h=>h
 | [],[],n+1,h=>by grind
 |c::cs,v::vs,n+1,h=>RelCs.drop n h.2
 | [],_::_,_+1,h=>h.elim
 |_::_,[],_+1,h=>h.elim
theorem RelCs.append:∀{cs cs':List (AC0 E N)} {vs vs':List Value},RelCs P n0 β σ s w cs vs→RelCs P n0 β σ s w cs' vs'→RelCs P n0 β σ s w (cs++cs') (vs++vs')
 | [],_,[],_,_,h=>h
 |c::cs,_,v::vs,_,h,h'=>⟨h.1,RelCs.append h.2 h'⟩
 | [],_,_::_,_,h,_=>h.elim
 |_::_,_,[],_,h,_=>h.elim
theorem DM {α:Type} {l r:List α} {off n:Nat} (h:Ft l off n=some r):r=(l.drop off).take n∧r.length=n:=by
 unfold Ft at h;simp only at h
 split at h
 ·rename_i hb;cases h;simp_all
 cases h
theorem BU:∀{cs:List (AC0 E N)} {n:Nat},n∈AH cs↔∃c∈cs,n∈c.names
 | [],n=>by simp[AH]
 |c::cs,n=>by simp[AH,BU]
theorem ro {cs:List (AC0 E N)} {n k:Nat} (h:n∈AH (cs.take k)):n∈AH cs:=by
 rw[BU]at *;grind
theorem qm {cs:List (AC0 E N)} {n k:Nat} (h:n∈AH (cs.drop k)):n∈AH cs:=by
 rw[BU]at *;grind
theorem Et {cs r:List (AC0 E N)} {off k n:Nat} (h:Ft cs off k=some r) (hn:n∈AH r):n∈AH cs:=by
 rw[(DM h).1]at hn;exact qm (ro hn)
theorem CL {t:TypeId} {ts:List TypeId} (h:AW P t=some ts):P.cellsOf t=ts.length∧0<ts.length:=by
 unfold AW at h
 split at h
 ·split at h
  ·rename_i hb;cases h;simp only[zzj]at hb;exact⟨(AG.1 hb.1).symm,A7.1 hb.2⟩
  cases h
 cases h
theorem FD {t:TypeId} (h:0<P.cellsOf t):∃i,P.info? t=some i:=by
 unfold Program.cellsOf at h;cases hi:P.info? t with
 |none=>simp_all
 |some i=>simp_all
theorem Cu {t:TypeId} {d:TypeDesc} (h:P.underlying t=some d):∃i,P.info? t=some i:=by
 unfold Program.underlying at h
 grind
theorem BX {t:TypeId} {i:TypeInfo} (h:P.info? t=some i):(sizeOf t).run P w=.ok (P.cellsOf t) w:=by
 simp[sizeOf,typeInfo,h,Program.cellsOf]
theorem HO {t:TypeId} {d:TypeDesc} (h:P.underlying t=some d):(isAgg t).run P w=.ok (Ag P t) w:=by
 unfold isAgg Ag;simp only[Sem.run_bind,run_underlying h,Result.andThen_ok,h];cases d<;>rfl
theorem ACR {b c:Bool} {e e2:TypeId} (h:slK b c e=.sl e2):e=e2∧c=true:=by
 cases b<;>cases c<;>cases h;trivial
theorem Va (b c:Bool) (e:TypeId):slK b c e=.opq∨slK b c e=.sl e∨slK b c e=.other:=by
 cases b<;>cases c
 ·exact .inr (.inr rfl)
 ·exact .inr (.inl rfl)
 ·exact .inl rfl
 exact .inl rfl
theorem Zf (b:Bool) (e:TypeId):ptK b e=.ptr∨ptK b e=.sl (e+ptB):=by cases b;exact .inl rfl;exact .inr rfl
theorem U2 (b c:Bool) (e:TypeId):vtK b c e=.other∨(vtK b c e=.sl e∧b=true):=by cases b<;>cases c<;>first|exact .inl rfl|exact .inr ⟨rfl,rfl⟩
theorem tO {t e:TypeId} (h:AK P t=.sl e):(P.underlying t=some (.slice e)∧e<ptB∧Hl P e=false)∨(∃e',e=e'+ptB∧P.underlying t=some (.pointer e')∧ptE P e'=true)∨(P.underlying t=none∧ptE P e=true):=by
 unfold AK at h;generalize t-ptB=u at h;generalize Nat.ble ptB t=c at h
 split at h<;>(try (cases h;done))
 ·rename_i e2 hu;obtain⟨rfl,hc⟩:=ACR h;refine .inl ⟨hu,A7.1 hc,?_⟩;cases hb:Hl P e2
  ·rfl
  rw[hb]at h;cases h
 ·rename_i e2 hu;cases hb:ptE P e2
  ·rw[hb]at h;cases h
  rw[hb]at h;cases h;exact .inr (.inl ⟨e2,rfl,hu,hb⟩)
 rename_i hu
 rcases U2 (ptE P u) c u with h2|⟨h2,h3⟩<;>rw[h2]at h<;>cases h
 exact .inr (.inr ⟨hu,h3⟩)
theorem AB1 {e:TypeId} (h:ptE P e=true):e<ptB:=by
 unfold ptE at h;simp only[zzj,Bool.or_eq_true]at h
 rcases h.1 with h|h<;>rw[AG.1 h]<;>decide
theorem tz {t e:TypeId} (h:AK P t=.sl e) (hlt:e<ptB) (hp:ptE P e=false):P.underlying t=some (.slice e):=by
 rcases tO h with h|⟨e',rfl,_⟩|⟨_,h⟩
 ·exact h.1
 ·grind
 rw[hp]at h;cases h
theorem uL {t e:TypeId} (h:AK P t=.sl e) (hge:ptB≤e):∃e',e=e'+ptB∧P.underlying t=some (.pointer e')∧ptE P e'=true:=by
 rcases tO h with h|h|⟨_,h⟩
 ·grind
 ·exact h
 exact(Nat.lt_irrefl _ (Nat.lt_of_lt_of_le (AB1 h) hge)).elim
theorem rI {t e:TypeId} (h:OQ P t=some e):P.underlying t=some (.slice e)∧e<ptB∧Hl P e=false:=by
 unfold OQ at h
 split at h
 ·rename_i hu
  split at h
  ·cases h
  simp_all
 cases h
theorem Py {t e:TypeId} (h:OQ P t=some e):P.underlying t=some (.slice e):=(rI h).1
theorem B6 {t e:TypeId} (h:OQ P t=some e):AK P t=.sl e:=by
 obtain⟨h1,h2,h3⟩:=rI h;unfold AK;rw[h1];show slK (Hl P e) (Nat.blt e ptB) e=_;rw[h3,A7.2 h2];rfl
theorem fC {t:TypeId} {k:IntKind} (h:AK P t=.int k):P.underlying t=some (.int k):=by
 unfold AK at h;generalize t-ptB=u at h;generalize Nat.ble ptB t=c at h;split at h<;>first|(rename_i e _;rcases Va (Hl P e) (Nat.blt e ptB) e with h2|h2|h2<;>rw[h2]at h<;>cases h;done)|(rename_i e _;rcases Zf (ptE P e) e with h2|h2<;>rw[h2]at h<;>cases h;done)|(rcases U2 (ptE P u) c u with h2|⟨h2,_⟩<;>rw[h2]at h<;>cases h;done)|simp_all
theorem xH {t:TypeId} (h:AK P t=.bool):P.underlying t=some .bool:=by
 unfold AK at h;generalize t-ptB=u at h;generalize Nat.ble ptB t=c at h;split at h<;>first|(rename_i e _;rcases Va (Hl P e) (Nat.blt e ptB) e with h2|h2|h2<;>rw[h2]at h<;>cases h;done)|(rename_i e _;rcases Zf (ptE P e) e with h2|h2<;>rw[h2]at h<;>cases h;done)|(rcases U2 (ptE P u) c u with h2|⟨h2,_⟩<;>rw[h2]at h<;>cases h;done)|simp_all
theorem Xw {t:TypeId} (h:AK P t=.str):P.underlying t=some .string:=by
 unfold AK at h;generalize t-ptB=u at h;generalize Nat.ble ptB t=c at h;split at h<;>first|(rename_i e _;rcases Va (Hl P e) (Nat.blt e ptB) e with h2|h2|h2<;>rw[h2]at h<;>cases h;done)|(rename_i e _;rcases Zf (ptE P e) e with h2|h2<;>rw[h2]at h<;>cases h;done)|(rcases U2 (ptE P u) c u with h2|⟨h2,_⟩<;>rw[h2]at h<;>cases h;done)|simp_all
theorem AAv {St:Blk→Prop} {t:TypeId} {v:Value} {p:PV} {k:IntKind} (h:Rep P w St t v p) (hk:AK P t=.int k):v=.int k (pvI p):=by
 cases h<;>simp_all
theorem zG {St:Blk→Prop} {t:TypeId} {v:Value} {p:PV} (h:Rep P w St t v p) (hk:AK P t=.bool):v=.bool (pvB p):=by
 cases h<;>simp_all
theorem ABj {St:Blk→Prop} {t:TypeId} {v:Value} {p:PV} (h:Rep P w St t v p) (hk:AK P t=.str):v=.string (pvS p):=by
 cases h<;>simp_all
theorem ACo {St:Blk→Prop} {t e:TypeId} {v:Value} {p:PV} (h:Rep P w St t v p) (hk:AK P t=.sl e):Rep P w St t v (.rows (pvL p)):=by
 cases h with
 |int h=>simp_all
 |bool h=>simp_all
 |str h=>simp_all
 |sl v h hts hl hr hc hm hv=>exact .sl v h hts hl hr hc hm hv
 |ptN h hb=>exact .ptN h hb
 |pt h h' hr=>exact .pt h h' hr
 |opq h=>simp_all
theorem zz {t e:TypeId} (h:P.underlying t=some (.slice e)) (hq:(Nat.blt e ptB && !Hl P e)=true):AK P t=.sl e:=by
 simp only[zzj,Bool.not_eq_true']at hq;simp[AK,h,hq.1,hq.2,slK]
theorem wZ {t e:TypeId} (h:AK P t=.sl e):Hl P e=false:=by
 rfl
theorem AAY {t e e':TypeId} (ht:AK P t=.sl e) (h:AK P t=.sl e') (hlt:e<ptB) (hb:ptB≤e'):False:=by
 grind
theorem ADR {t e e':TypeId} (ht:AK P t=.sl e) (h:AK P t=.sl (e'+ptB)) (hlt:e<ptB):False:=AAY ht h hlt (Nat.le_add_left _ _)
theorem AA2 {St:Blk→Prop} {t:TypeId} {v:Value} {p:PV} (h:Rep P w St t v p) (hk:AK P t=.opq):Rep P w St t v (.int (pvI p)):=by
 cases h with
 |int h=>simp_all
 |bool h=>simp_all
 |str h=>simp_all
 |sl v h hts hl hr hc hm hv=>simp_all
 |opq h hc hm=>exact .opq h hc hm
 |ptN h hb=>simp_all
 |pt h h' hr=>simp_all
theorem UZ {nw:Bool} {l:Rows} {i:Int} (vs:Nat→Value):∀ {j:Nat} {ts:List TypeId} {cs:List (AC0 E N)},QG P nw l i j ts=some cs →
    (∀q t',ts[q]?=some t'→Rep P w (StB n0 β σ s nw) t' (vs (j+q)) (AD l i.toNat (j+q))) →
    RelCs P n0 β σ s w cs ((List.range ts.length).map fun q=>vs (j+q))∧AH cs=[]
  |j,[],cs,h,_=>by simp only[QG]at h;cases h;trivial
  |j,t::ts,cs,h,hv=>by
    simp only[QG]at h
    split at h
    · cases h
    rename_i r hr;obtain⟨ih,ihn⟩:=UZ vs hr (fun q t' hq=>by
      have:=hv (q+1) t' (by trivial)
      grind)
    have h0:=hv 0 t (by simp);simp only[Nat.add_zero]at h0;have hl:((List.range (t::ts).length).map fun q=>vs (j+q))=vs j::(List.range ts.length).map fun q=>vs (j+1+q):=by
      simp only[List.length_cons,List.range_succ_eq_map,List.map_cons,Nat.add_zero,List.map_map];congr 1;apply List.map_congr_left;grind
    rw[hl]
    split at h
    · rename_i k hk;cases h;exact⟨⟨AAv h0 hk,ih⟩,by trivial⟩
    · rename_i hk;cases h;exact⟨⟨zG h0 hk,ih⟩,by trivial⟩
    · rename_i hk;cases h;exact⟨⟨ABj h0 hk,ih⟩,by trivial⟩
    · rename_i e hk;cases h;exact⟨⟨⟨t,hk,ACo h0 hk⟩,ih⟩,by trivial⟩
    · rename_i hk;cases h;exact⟨⟨⟨t,hk,AA2 h0 hk⟩,ih⟩,by trivial⟩
    cases h
theorem YZ {e t:TypeId} {off:Nat} {ts:List TypeId} (h:W9 P e off t=some ts):∃le,AW P e=some le∧AW P t=some ts∧(le.drop off).take ts.length=ts:=by
 unfold W9 at h
 split at h
 ·rename_i l r hl hr
  split at h
  ·rename_i hb;cases h;exact⟨l,hl,hr,JP.1 hb⟩
  cases h
 cases h
theorem getElem?_of_sub {α:Type} {le ts:List α} {off:Nat} (h:(le.drop off).take ts.length=ts) {q:Nat} {t:α} (hq:ts[q]?=some t):le[off+q]?=some t:=by
 grind
theorem Du {blk off:Nat} {cells:Array Value} {el:TypeId} {fr:Nat×Nat} (h:w.heap[blk]?=some (.cells cells el fr)):w.cell? ⟨blk,off,none⟩=cells[off]?:=by
 simp[World.cell?,h]
theorem Iw (blk off j:Nat):(⟨blk,off,none⟩:Addr).add j=⟨blk,off+j,none⟩:=by unfold Addr.add;simp_all
theorem O6 {T:TypeId} {n:Nat} (h:Qp P T n=true):(∃d,P.underlying T=some d)∧(Ag P T=true∨n=1):=by
 unfold Qp at h;simp only[zzj,Bool.or_eq_true]at h;exact⟨Option.isSome_iff_exists.1 h.1,h.2.imp id AG.1⟩
theorem SO {T:TypeId} {blk off:Nat} {cs:List (AC0 E N)} {vs:List Value} (hr:RelCs P n0 β σ s w cs vs) (hag:Qp P T cs.length=true)
    (hn:vs.length=P.cellsOf T) (h:∀j v,vs[j]?=some v→w.cell? ⟨blk,off+j,none⟩=some v) :
    ∃x,(loadVar T ⟨blk,off,none⟩).run P w=.ok x w∧RelVal P n0 β σ s w { agg:=Ag P T,cs } x:=by
  obtain⟨⟨d,hu⟩,hag⟩:=O6 hag;obtain⟨i,hi⟩:=Cu hu;cases hb:Ag P T
  · have h1:vs.length=1:=by
      rcases hag with h|h
      · simp_all
      rw[←RelCs.length hr];exact h
    match vs,h1 with
    | [v],_ =>
      have hc:=h 0 v rfl;simp only[Nat.add_zero]at hc;have ho:=RelCs.one hr v (by simp);exact⟨v,by simp[loadVar,HO hu,hb,run_load,hc],by rw[Bp ho];exact hr,ho⟩
  have hl:=run_loadCells_list (P:=P) w ⟨blk,off,none⟩ vs (fun j v hj=>by rw[Iw];simp_all);rw[hn]at hl;exact⟨.agg vs.toArray,by simp[loadVar,HO hu,hb,BX hi,hl],by trivial,_,rfl⟩
theorem ABd {nw nw':Bool} {b:Blk} (h:StB n0 β σ s nw b):StB n0 β σ s (nw&&nw') b :=
 ⟨h.1,h.2.mono (fun e=>by simp_all)⟩
theorem zd {nw nw':Bool} {b:Blk} (h:StB n0 β σ s nw' b):StB n0 β σ s (nw&&nw') b :=
 ⟨h.1,h.2.mono (fun e=>by simp_all)⟩
theorem Rep.st {St St':Blk→Prop} {t:TypeId} {v:Value} {p:PV} (h:Rep P w St t v p) (hs:∀b,St b→St' b):Rep P w St' t v p :=
 h.mono (fun b _ hlt=>⟨.inl rfl,hlt⟩) (fun b hb _=>hs b hb)
theorem Rep.stL {St St':Blk→Prop} {t:TypeId} {v:Value} {p:PV} (h:Rep P w St t v p) (hs:∀b,St b→b.b<w.heap.size→St' b):Rep P w St' t v p :=
 h.mono (fun b _ hlt=>⟨.inl rfl,hlt⟩) hs
theorem uu {b:Bool} {x y c:AC0 E N} {v:Value} (h:gQ (O:=std E N) b x y=some c) (ht:b=true→RelC P n0 β σ s w x v) (hf:b=false→RelC P n0 β σ s w y v) :
    RelC P n0 β σ s w c v∧c.names=[]:=by
  unfold gQ at h
  split at h
  · split at h
    · rename_i k i k' j hk;cases h;have:=He.1 hk;subst this;cases b
      · exact⟨hf rfl,rfl⟩
      exact⟨ht rfl,rfl⟩
    cases h
  · cases h;cases b
    · exact⟨hf rfl,rfl⟩
    exact⟨ht rfl,rfl⟩
  · cases h;cases b
    · exact⟨hf rfl,rfl⟩
    exact⟨ht rfl,rfl⟩
  · split at h
    · rename_i e nw l e' nw' l' he;cases h;have:=AG.1 he;subst this;refine⟨?_,rfl⟩;cases b
      · obtain⟨t,h1,h2⟩:=hf rfl;exact⟨t,h1,h2.st fun _=>zd⟩
      obtain⟨t,h1,h2⟩:=ht rfl;exact⟨t,h1,h2.st fun _=>ABd⟩
    cases h
  cases h
theorem Jk {b:Bool}:∀ {xs ys cs:List (AC0 E N)} {vs:List Value},Fw (O:=std E N) b xs ys=some cs→(b=true→RelCs P n0 β σ s w xs vs)→(b=false→RelCs P n0 β σ s w ys vs) →
    RelCs P n0 β σ s w cs vs∧AH cs=[]∧cs.length=xs.length
  | [],[],cs,vs,h,ht,hf=>by
    simp only[Fw]at h;cases h;cases b
    · exact⟨hf rfl,rfl,rfl⟩
    exact⟨ht rfl,rfl,rfl⟩
  |x::xs,y::ys,cs,vs,h,ht,hf=>by
    simp only[Fw]at h
    split at h
    · rename_i c r hc hr;cases h
      match vs with
      | [] => cases b
              · trivial
              trivial
      |v::vs =>
        obtain⟨r1,n1⟩:=uu (P:=P) (n0:=n0) (β:=β) (σ:=σ) (s:=s) (w:=w) (v:=v) hc (fun e=>(ht e).1) (fun e=>(hf e).1);obtain⟨r2,n2,l2⟩:=Jk hr (fun e=>(ht e).2) (fun e=>(hf e).2);exact⟨⟨r1,r2⟩,by simp[AH,n1,n2],by simp[l2]⟩
    cases h
  | [],_::_,cs,vs,h,_,_=>by trivial
  |_::_,[],cs,vs,h,_,_=>by trivial
theorem dp {b:Bool}:∀{xs ys cs:List (AC0 E N)},Fw (O:=std E N) b xs ys=some cs→cs.length=ys.length
 | [],[],cs,h=>by simp only[Fw]at h;grind
 |x::xs,y::ys,cs,h=>by
  simp only[Fw]at h
  split at h
  ·rename_i c r hc hr;cases h;simp[dp hr]
  cases h
 | [],_::_,cs,h=>by trivial
 |_::_,[],cs,h=>by trivial
theorem Zp {f:Nat→Option (List (AC0 E N))} {i:Int} (vs:Nat→List Value):∀ {n:Nat} {r:List (AC0 E N)},Sy (O:=std E N) f i n=some r→0≤i→i≤(n:Int) →
    (∀k c,k≤n→f k=some c→RelCs P n0 β σ s w c (vs k))→RelCs P n0 β σ s w r (vs i.toNat)
  |0,r,h,h0,hn,hv=>by
    have:i.toNat=0:=by omega
    rw[this];exact hv 0 r (Nat.le_refl _) h
  |k+1,r,h,h0,hn,hv=>by
    simp only[Sy]at h
    split at h
    · rename_i r1 c hr1 hc;have hcs:=hv (k+1) c (Nat.le_refl _) hc;have key:(i==((k+1:Nat):Int))=false→RelCs P n0 β σ s w r1 (vs i.toNat):=fun hb=>by
        have hne:i≠((k+1:Nat):Int):=by simp_all
        exact Zp vs hr1 h0 (by omega) (fun k' c' hk'=>hv k' c' (by omega))
      exact(Jk (P:=P) (n0:=n0) (β:=β) (σ:=σ) (s:=s) (w:=w) (vs:=vs i.toNat) h
        (fun hb=>by
          simp_all) key).1
    cases h
theorem Mk {b:Bool}:∀{xs ys cs:List (AC0 E N)},Fw (O:=std E N) b xs ys=some cs→AH cs=[]
 | [],[],cs,h=>by simp only[Fw]at h;cases h;rfl
 |x::xs,y::ys,cs,h=>by
  simp only[Fw]at h
  split at h
  ·rename_i c r hc hr;cases h;have h1:=Mk hr;have h2:c.names=[]:=by
    unfold gQ at hc
    split at hc
    ·split at hc
     ·cases hc;rfl
     cases hc
    ·cases hc;rfl
    ·cases hc;rfl
    ·split at hc
     ·cases hc;rfl
     cases hc
    cases hc
   simp[AH,h1,h2]
  cases h
 | [],_::_,cs,h=>by trivial
 |_::_,[],cs,h=>by trivial
theorem dN {f:Nat→Option (List (AC0 E N))} {i:Int} {n:Nat} {r:List (AC0 E N)} (h:Sy (O:=std E N) f i n=some r) :
    ∀m∈AH r,∃c,f 0=some c∧m∈AH c:=by
  cases n with
  |zero=>exact fun m hm=>⟨r,h,hm⟩
  |succ n =>
    simp only[Sy]at h
    split at h
    · rw[Mk h];simp
    cases h
theorem bN {f:Nat→Option (List (AC0 E N))} {i:Int} {k:Nat} (hf:∀n c,f n=some c→c.length=k):∀{n:Nat} {r:List (AC0 E N)},Sy (O:=std E N) f i n=some r→r.length=k
 |0,r,h=>hf 0 r h
 |n+1,r,h=>by
  simp only[Sy]at h
  split at h
  ·rename_i r1 c hr1 hc;rw[dp h];exact bN hf hr1
  cases h
def AAo (P:Program) (n0:Nz) (β:Nat→Option Nat) (σ:Nat→Option (Nat×Nat)) (s:St0 E N) (w:World) (T:TypeId) (v:Value) (cs:List (AC0 E N)):Prop :=
 ∃blk off vs,v=.pointer (some ⟨blk,off,none⟩)∧vs.length=P.cellsOf T∧RelCs P n0 β σ s w cs vs ∧
  ∀j x,vs[j]?=some x→w.cell? ⟨blk,off+j,none⟩=some x
theorem bn (m:Mem P n0 β σ s w) {b off:Nat} {e:BEnt (std E N)} {v:Value} (he:s.getB b=some e) (hp:Q1 β s b off v) :
    ∃blk cells el,v=.pointer (some ⟨blk,off,none⟩)∧β b=some blk∧w.heap[blk]?=some (.cells cells el (0,0))∧RelCs P n0 β σ s w e.cs cells.toList:=by
  obtain⟨blk,rfl,hb⟩:=hp;obtain⟨blk',cells,el,hb',hh,hr,_⟩:=m.B b e he
  simp_all
theorem QB {blk:Nat} {cells:Array Value} {el:TypeId} {fr:Nat×Nat} (h:w.heap[blk]?=some (.cells cells el fr)) (off n j:Nat) (x:Value)
    (hj:((cells.toList.drop off).take n)[j]?=some x):w.cell? ⟨blk,off+j,none⟩=some x:=by
  rw[Du h]
  grind
theorem yD (m:Mem P n0 β σ s w) {T:TypeId} {p:AC0 E N} {v:Value} {cs:List (AC0 E N)} {k k':Nat} (hp:RelC P n0 β σ s w p v)
    (h:RM.run s (qO P T p) k=.ok (cs,k')):AAo P n0 β σ s w T v cs∧∀n,Fresh a s n→n∉AH cs:=by
  cases p with
  |ptr b off =>
    obtain⟨k1,h⟩:=zzg h;cases he:s.getB b with
    |none=>rw[he]at h;trivial
    |some e =>
      rw[he]at h;have hs:=zzh h;obtain⟨blk,cells,el,rfl,hb,hh,hr⟩:=bn m he hp;obtain⟨e1,e2⟩:=DM hs;have hrr:=RelCs.take (P.cellsOf T) (RelCs.drop off hr);rw[←e1]at hrr;exact⟨⟨blk,off,_,rfl,(RelCs.length hrr).symm.trans e2,hrr,fun j x hj=>QB hh off _ j x hj⟩,
        fun n hn hm=>(hn.b b e he).2 (Et hs hm)⟩
  |aptr b off n sz i inner =>
    obtain⟨k1,h⟩:=zzg h;obtain⟨h0,hlt,hp⟩:=hp;cases he:s.getB b with
    |none=>rw[he]at h;trivial
    |some e =>
      rw[he]at h;obtain⟨blk,cells,el,rfl,hb,hh,hr⟩:=bn m he hp;cases n with
      |zero=>trivial
      |succ n =>
        have hs:=zzh h;obtain⟨i,rfl⟩:∃j:Int,j=i:=⟨i,rfl⟩;have h0':(0:Int)≤i:=h0;have hlt':i<((n+1:Nat):Int):=hlt;have key:=Zp (P:=P) (n0:=n0) (β:=β) (σ:=σ) (s:=s) (w:=w) (fun k=>(cells.toList.drop (off+k*sz+inner)).take (P.cellsOf T)) hs h0' (by omega)
          (fun k c hk hc=>by
            have:=RelCs.take (P.cellsOf T) (RelCs.drop (off+k*sz+inner) hr)
            rwa[←(DM hc).1]at this)
        have hlen:cs.length=P.cellsOf T:=bN (fun k c hc=>(DM hc).2) hs;refine⟨⟨blk,_,_,rfl,(RelCs.length key).symm.trans hlen,key,fun j x hj=>QB hh _ _ j x hj⟩,fun m hm hx=>?_⟩;obtain⟨c,hc,hmc⟩:=dN hs m hx;exact(hm.b b e he).2 (Et hc hmc)
  |eptr id i off =>
    obtain⟨k1,h⟩:=zzf h;obtain⟨h0,blk,o,rfl,hk⟩:=hp;cases he:s.getH id with
    |none=>rw[he]at h;trivial
    |some e =>
      rw[he]at h;simp only at h
      split at h
      · rename_i ts hf;have hs:=zzh h;obtain⟨hi,ts',cap,hts',hsg,hcp,rfl⟩:=hk e he
        rcases m.H id e he with⟨t,le,ht,hle,hrl,hm⟩|hM
        case inr=>exact(hM.noCap hsg hcp.1).elim
        rw[hle]at hts';cases hts';obtain⟨le',hle',hT,hsub⟩:=YZ hf;rw[hle]at hle';cases hle'
        rcases hm with⟨hn,_⟩|⟨blk',cap',cells,el,hsg',hh,hel,hsz,hcap,hnw,v,hv,hrep⟩
        · simp_all
        rw[hsg']at hsg;cases hsg;obtain⟨i,rfl⟩:∃j:Int,j=i:=⟨i,rfl⟩;have hin:i.toNat<List.length e.l:=by
          simp_all
        obtain⟨hr,hnm⟩:=UZ (P:=P) (n0:=n0) (β:=β) (σ:=σ) (s:=s) (w:=w) (fun q=>v i.toNat q) hs (fun q t' hq=>hrep i.toNat (off+q) t' hin (getElem?_of_sub hsub hq));have hlen:ts.length=P.cellsOf T:=(CL hT).1.symm;refine⟨⟨blk,_,_,rfl,by simp_all,hr,fun j x hj=>?_⟩,fun m _=>by simp_all⟩;simp only[List.getElem?_map,zzo]at hj;obtain⟨q,hq,rfl⟩:=hj;obtain⟨hqlt,rfl⟩:=List.getElem?_eq_some_iff.1 hq;simp only[List.length_range]at hqlt;simp only[List.getElem_range];rw[Du hh,Nat.add_assoc]
        grind
      trivial
  |iptr e nw l i off =>
    simp only[qO]at h
    split at h
    · rename_i ts hf;have hs:=zzh h;obtain⟨h0,hi,t,le,blk,boff,len,cap,ht,hle,hrep,rfl⟩:=hp;obtain⟨le',hle',hT,hsub⟩:=YZ hf;rw[hle]at hle';cases hle';obtain⟨i,rfl⟩:∃j:Int,j=i:=⟨i,rfl⟩;have h0':(0:Int)≤i:=h0;have hi':i<((List.length l:Nat):Int):=hi;have hin:i.toNat<List.length l:=by omega
      cases hrep with
      |sl v ht' hts hl hr hc hm hv =>
        rw[ht]at ht';cases ht';rw[hle]at hts;cases hts
        rcases hm with hm|⟨b,o,ha,hb,hlt,hcell⟩
        · omega
        obtain⟨b,bc⟩:=b;cases ha;have hin':i.toNat<len:=by omega
        obtain⟨hr,hnm⟩:=UZ (P:=P) (n0:=n0) (β:=β) (σ:=σ) (s:=s) (w:=w) (fun q=>v i.toNat q) hs (fun q t' hq=>hv i.toNat (off+q) t' hin' (getElem?_of_sub hsub hq));have hlen:ts.length=P.cellsOf T:=(CL hT).1.symm;refine⟨⟨_,_,_,rfl,by simp_all,hr,fun j x hj=>?_⟩,fun m _=>by simp_all⟩
        grind
    trivial
  |int k i=>trivial
  |bool b=>trivial
  |str x=>trivial
  |nil e=>trivial
  |imm e nw l=>trivial
  |own e id=>trivial
  |fn f caps=>trivial
  |nilptr=>trivial
  |tail e id i=>trivial
  |mp e id=>trivial
  |any T=>trivial
  |opq=>trivial
end
section
variable {E:Env} {N:Nat} {P:Program} {n0:Nz} {nt:Nat} {β:Nat→Option Nat} {σ:Nat→Option (Nat×Nat)} {s:St0 E N} {a:Act} {w:World}
theorem jA {c:AC0 E N} {v:Value} (h:RelC P n0 β σ s w c v):RelVal P n0 β σ s w { agg:=false,cs:=[c] } v :=
 ⟨by rw[Bp (RelC.one h)];trivial,RelC.one h⟩
theorem Ac {c:AC0 E N} {v:Value} (h:RelC P n0 β σ s w c v):RelAV P n0 β σ s w (one c) v:=jA h
theorem C0 {c:AC0 E N} {v:Value} (h:RelVal P n0 β σ s w { agg:=false,cs:=[c] } v):RelC P n0 β σ s w c v:=by
 obtain⟨h1,h2⟩:=h;rw[Bp h2]at h1;exact h1.1
theorem PU {cs:List (AC0 E N)} {v:Value} (h:RelVal P n0 β σ s w { agg:=true,cs } v):∃vs,v=.agg vs∧RelCs P n0 β σ s w cs vs.toList:=by
 obtain⟨h1,vs,rfl⟩:=h;exact⟨vs,rfl,h1⟩
theorem jY {n:Nat} {p p':AC0 E N} {v:Value} (h:UO n p=some p') (hp:RelC P n0 β σ s w p v) :
    ∃blk o,v=.pointer (some ⟨blk,o,none⟩)∧RelC P n0 β σ s w p' (.pointer (some ⟨blk,o+n,none⟩))∧p'.names=p.names:=by
  cases p with
  |ptr b off =>
    simp only[UO,Option.some.injEq]at h;subst h;obtain⟨blk,rfl,hb⟩:=hp;exact⟨blk,off,rfl,⟨blk,rfl,hb⟩,rfl⟩
  |aptr b off m sz i inner =>
    simp only[UO,Option.some.injEq]at h;subst h;obtain⟨h0,h1,blk,rfl,hb⟩:=hp;exact⟨blk,_,rfl,⟨h0,h1,blk,by simp_all,hb⟩,rfl⟩
  |eptr id i off =>
    simp only[UO,Option.some.injEq]at h;subst h;obtain⟨h0,blk,o,rfl,hk⟩:=hp;refine⟨blk,o,rfl,⟨h0,blk,o+n,rfl,fun e he=>?_⟩,rfl⟩
    grind
  |iptr e nw l i off =>
    simp only[UO,Option.some.injEq]at h;subst h;obtain⟨h0,h1,t,ts,blk,boff,len,cap,ht,hts,hr,rfl⟩:=hp;exact⟨blk,_,rfl,⟨h0,h1,t,ts,blk,boff,len,cap,ht,hts,hr,by simp_all⟩,rfl⟩
  |int k i=>trivial
  |bool b=>trivial
  |str x=>trivial
  |nil e=>trivial
  |imm e nw l=>trivial
  |own e id=>trivial
  |fn f caps=>trivial
  |nilptr=>trivial
  |tail e id i=>trivial
  |mp e id=>trivial
  |any T=>trivial
  |opq=>trivial
theorem Zh {T:TypeId} {f:Nat} {fd:Field} (h:S8 P T f=some fd):∃fs,P.underlying T=some (.struct fs)∧fs[f]?=some fd:=by
 unfold S8 at h
 grind
theorem tD {T:TypeId} {f:Nat} {fd:Field} {blk o:Nat} (h:S8 P T f=some fd) (hs:P.cellsOf fd.type≠0) :
    (Instr.fieldAt T (.pointer (some ⟨blk,o,none⟩)) f).run P w=.ok (.pointer (some ⟨blk,o+fd.offset,none⟩)) w:=by
  obtain⟨fs,hu,hf⟩:=Zh h;obtain⟨i,hi⟩:=FD (P:=P) (t:=fd.type) (by omega);simp[Instr.fieldAt,run_underlying hu,hf,Instr.sureAddr,fieldPlace,BX hi,hs,Iw]
theorem xG {T:TypeId} {f:Nat} {fd:Field} {vs:Array Value} {cs r:List (AC0 E N)} (h:S8 P T f=some fd) (hr:RelCs P n0 β σ s w cs vs.toList)
    (hsl:Ft cs fd.offset (P.cellsOf fd.type)=some r) (hag:Qp P fd.type r.length=true) :
    ∃x,(Instr.field T (.agg vs) f).run P w=.ok x w∧RelVal P n0 β σ s w { agg:=Ag P fd.type,cs:=r } x:=by
  obtain⟨fs,hu,hf⟩:=Zh h;obtain⟨e1,e2⟩:=DM hsl;obtain⟨⟨d,hud⟩,hag⟩:=O6 hag;obtain⟨i,hi⟩:=Cu hud;have hrr:=RelCs.take (P.cellsOf fd.type) (RelCs.drop fd.offset hr);rw[←e1]at hrr;cases hb:Ag P fd.type
  · have h1:r.length=1:=by
      simp_all
    have hlen:=RelCs.length hrr;rw[h1]at hlen
    match hx:(vs.toList.drop fd.offset).take (P.cellsOf fd.type),hlen with
    | [x],_ =>
      rw[hx]at hrr;have hc:vs[fd.offset]?=some x:=by
        have:((vs.toList.drop fd.offset).take (P.cellsOf fd.type))[0]?=some x:=by grind
        grind
      refine⟨x,by simp[Instr.field,run_underlying hu,hf,part,HO hud,hb,asAgg,hc],?_⟩;have ho:=RelCs.one hrr x (by simp);exact⟨by rw[Bp ho];exact hrr,ho⟩
  refine⟨.agg (vs.extract fd.offset (fd.offset+P.cellsOf fd.type)),by simp[Instr.field,run_underlying hu,hf,part,HO hud,hb,BX hi,asAgg],?_,_,rfl⟩;simp only[Value.cells,Array.toList_extract,List.extract_eq_take_drop,Nat.add_sub_cancel_left];exact hrr
theorem pK {T:TypeId} {off:Nat} {vs:Array Value} {r:List (AC0 E N)} (hr:RelCs P n0 β σ s w r ((vs.toList.drop off).take (P.cellsOf T)))
    (hl:r.length=P.cellsOf T) (hag:Qp P T r.length=true) :
    ∃x,(part T vs off).run P w=.ok x w∧RelVal P n0 β σ s w { agg:=Ag P T,cs:=r } x:=by
  obtain⟨⟨d,hud⟩,hag⟩:=O6 hag;obtain⟨i,hi⟩:=Cu hud;cases hb:Ag P T
  · have h1:r.length=1:=by
      simp_all
    have hlen:=RelCs.length hr;rw[h1]at hlen
    match hx:(vs.toList.drop off).take (P.cellsOf T),hlen with
    | [x],_ =>
      rw[hx]at hr;have hc:vs[off]?=some x:=by
        have:((vs.toList.drop off).take (P.cellsOf T))[0]?=some x:=by grind
        grind
      refine⟨x,by simp[part,HO hud,hb,hc],?_⟩;have ho:=RelCs.one hr x (by simp);exact⟨by rw[Bp ho];exact hr,ho⟩
  refine⟨.agg (vs.extract off (off+P.cellsOf T)),by simp[part,HO hud,hb,BX hi],?_,_,rfl⟩;simp only[Value.cells,Array.toList_extract,List.extract_eq_take_drop,Nat.add_sub_cancel_left];exact hr
theorem Wn {y:Operand} (h:Ip y=true):∃k n,y=.const (.int k n)∧n≠0:=by
 unfold Ip at h
 grind
theorem Cv (op:BinOp) (T:TypeId) (x y:Operand) (u v:Value) (h:u.oneCell'=true) (hi:u≠.nilIface):(eqGuard op T x y u v).run P w=.ok () w:=by
 unfold eqGuard;cases op<;>first|rfl|skip
 all_goals
  simp only[Bool.not_true,Bool.false_eq_true,if_false];cases u<;>first|rfl|trivial|trivial
theorem yV {op:BinOp} {i j:Int} {c:Bool} (h:ACB (O:=std E N) op i j=some c) (T:TypeId) (k:IntKind) :
    (binOp op T (.int k i) (.int k j)).run P w=.ok (.bool c) w:=by
  cases op<;>first|trivial|(have h':=Option.some.inj h;subst h';simp[binOp,Op.intCmp,bne,iLt,iLe])
theorem AAy {t:TypeId} {x y:AC0 E N} {u v:Value} {b:Bool} {d:Nat} (h:eqC (O:=std E N) x y=some b) (hx:RelC P n0 β σ s w x u) (hy:RelC P n0 β σ s w y v)
    (kx:Wd (AK P t) x=true) (ky:Wd (AK P t) y=true):(Op.equalIn (d+1) t u v).run P w=.ok b w:=by
  unfold eqC at h
  split at h
  · rename_i k i k' j
    split at h
    · rename_i hk;have:=He.1 hk;subst this;cases h;have hu:u=.int k i:=hx;have hv:v=.int k j:=hy;subst hu;subst hv;unfold Wd at kx
      split at kx
      · rename_i _ _ kk k2 i2 hlk hc;exact run_equalIn_int w d t k _ i j (fC hlk)
      all_goals trivial
    cases h
  · rename_i i j;cases h;have hu:u=.bool i:=hx;have hv:v=.bool j:=hy;subst hu;subst hv;unfold Wd at kx
    split at kx
    · trivial
    · rename_i hlk hc;exact run_equalIn_bool' w d t i j (xH hlk)
    · trivial
    cases kx
  · rename_i i j;cases h;have hu:u=.string i:=hx;have hv:v=.string j:=hy;subst hu;subst hv;unfold Wd at kx
    split at kx
    · trivial
    · trivial
    · rename_i hlk hc;exact run_equalIn_string w d t i j (Xw hlk)
    cases kx
  cases h
theorem CV {a b:Option (List Nat)} (h:RB a b=true):∃l,a=some l∧b=some l:=by
 unfold RB at h
 split at h
 ·rename_i x y;exact⟨x,rfl,by rw[JP.1 h]⟩
 cases h
theorem yI {x y:AC0 E N} {xs ys:List (AC0 E N)} {b:Bool} (h:Kb (O:=std E N) (x::xs) (y::ys)=some b) :
    ∃b1 b2,eqC x y=some b1∧Kb xs ys=some b2∧b=(b1&&b2):=by
  cases xs with
  |nil =>
    cases ys with
    |nil =>
      simp only[Kb]at h;have h2:eqC x y=some b:=h;exact⟨b,true,h2,rfl,by simp⟩
    |cons y2 ys =>
      simp only[Kb]at h
      simp_all
  |cons x2 xs =>
    cases ys with
    |nil =>
      simp only[Kb]at h
      simp_all
    |cons y2 ys =>
      simp only[Kb]at h
      grind
theorem WM:∀ {xs1 ys1 xs2 ys2:List (AC0 E N)} {b:Bool},xs1.length=ys1.length→Kb (O:=std E N) (xs1++xs2) (ys1++ys2)=some b →
    ∃b1 b2,Kb xs1 ys1=some b1∧Kb xs2 ys2=some b2∧b=(b1&&b2)
  | [],[],xs2,ys2,b,_,h=>⟨true,b,rfl,h,by simp⟩
  |x::xs1,y::ys1,xs2,ys2,b,hl,h=>by
    obtain⟨b1,b2,h1,h2,rfl⟩:=yI h;obtain⟨b3,b4,h3,h4,rfl⟩:=WM (by simp_all) h2;refine⟨b1&&b3,b4,?_,h4,by grind⟩;cases xs1 with
    |nil =>
      cases ys1 with
      |nil=>cases h3;show eqC x y=some (b1&&true);simp_all
      |cons=>simp at hl
    |cons x2 xs1 =>
      cases ys1 with
      |nil=>simp at hl
      |cons y2 ys1=>simp only[Kb,h1,h3]
  | [],_::_,_,_,_,hl,_=>by simp at hl
  |_::_,[],_,_,_,hl,_=>by simp at hl
theorem II:∀{ts1 ts2:List TypeId} {xs1 xs2:List (AC0 E N)},ts1.length=xs1.length→Co P (ts1++ts2) (xs1++xs2)=true→Co P ts1 xs1=true∧Co P ts2 xs2=true
 | [],ts2,[],xs2,_,h=>⟨rfl,h⟩
 |t::ts1,ts2,x::xs1,xs2,hl,h=>by
  simp only[List.cons_append,Co]at h
  split at h
  ·rename_i hk;obtain⟨h1,h2⟩:=II (by simp_all) h;exact⟨by simp only[Co,hk];exact h1,h2⟩
  cases h
 | [],_,_::_,_,hl,_=>by simp at hl
 |_::_,_,[],_,hl,_=>by simp at hl
theorem Cy:∀{ts:List TypeId} {xs:List (AC0 E N)},Co P ts xs=true→ts.length=xs.length
 | [],[],_=>rfl
 |t::ts,x::xs,h=>by
  simp only[Co]at h
  split at h
  ·simp[Cy h]
  cases h
 | [],_::_,h=>by trivial
 |_::_,[],h=>by trivial
def Jz (P:Program) (T:TypeId) (vs:List Value):Value:=match Ag P T,vs with
 |true,vs=>.agg vs.toArray
 |false,[v]=>v
 |_,_=>undef
theorem Ux {T:TypeId} {off:Nat} {vs:Array Value} {d:TypeDesc} (hu:P.underlying T=some d) {l:List Value} (hl:l=(vs.toList.drop off).take (P.cellsOf T))
    (hn:l.length=P.cellsOf T) (hag:Ag P T=true∨P.cellsOf T=1):(part T vs off).run P w=.ok (Jz P T l) w:=by
  obtain⟨i,hi⟩:=Cu hu;cases hb:Ag P T
  · have h1:P.cellsOf T=1:=by simp_all
    match l,hn.trans h1 with
    | [x],_ =>
      have hc:vs[off]?=some x:=by
        have:((vs.toList.drop off).take (P.cellsOf T))[0]?=some x:=by grind
        grind
      simp[part,HO hu,hb,hc,Jz]
  simp only[part,Sem.run_bind,HO hu,hb,Result.andThen_ok,if_true,BX hi,Sem.run_map,Sem.run_pure,Jz];congr 2
  grind
theorem ib {n:Nat} {t:TypeId} (h:X9 P n t=true):∃d ts,P.underlying t=some d∧AW P t=some ts∧(Ag P t=true∨ts.length=1):=by
 cases n with
 |zero=>cases h
 |succ n =>
  unfold X9 at h
  split at h
  ·rename_i hu;obtain⟨l,h1,h2⟩:=CV h;grind
  ·rename_i hu;obtain⟨l,h1,h2⟩:=CV h;grind
  ·rename_i hu;obtain⟨l,h1,h2⟩:=CV h;grind
  ·rename_i fs hu;simp only[zzj]at h;obtain⟨l,h1,h2⟩:=CV h.2;exact⟨_,_,hu,h1,.inl (by unfold Ag;rw[hu])⟩
  ·rename_i k e hu;simp only[zzj]at h;obtain⟨l,h1,h2⟩:=CV h.2;exact⟨_,_,hu,h1,.inl (by unfold Ag;rw[hu])⟩
  cases h
theorem RelCs.split {xs:List (AC0 E N)} {vs:List Value} (n:Nat) (h:RelCs P n0 β σ s w xs vs):RelCs P n0 β σ s w (xs.take n) (vs.take n)∧RelCs P n0 β σ s w (xs.drop n) (vs.drop n) :=
 ⟨RelCs.take n h,RelCs.drop n h⟩
theorem WN:∀ (n d:Nat) (T:TypeId) (ts:List TypeId) (xs ys:List (AC0 E N)) (vs us:List Value) (b:Bool),n≤d→X9 P n T=true→AW P T=some ts →
    RelCs P n0 β σ s w xs vs→RelCs P n0 β σ s w ys us→Co P ts xs=true→Co P ts ys=true→Kb (O:=std E N) xs ys=some b →
    (Op.equalIn d T (Jz P T vs) (Jz P T us)).run P w=.ok b w
  |0,d,T,ts,xs,ys,vs,us,b,hd,h,_,_,_,_,_,_=>by cases h
  |n+1,d,T,ts,xs,ys,vs,us,b,hd,h,hts,hx,hy,kx,ky,he=>by
    obtain⟨d,rfl⟩:∃d',d=d'+1:=⟨d-1,by omega⟩;have lx:=(Cy kx).trans (RelCs.length hx);have ly:=(Cy ky).trans (RelCs.length hy);have base:∀(hb:Ag P T=false) (h1:AW P T=some [T]),(Op.equalIn (d+1) T (Jz P T vs) (Jz P T us)).run P w=.ok b w:=by
      intro hb h1;rw[hts]at h1;cases h1
      match xs,ys,vs,us,lx,ly,Cy kx,Cy ky with
      | [x],[y],[v],[u],_,_,_,_ =>
        simp only[Jz,hb];simp only[Kb]at he;refine AAy he hx.1 hy.1 (t:=T) ?_ ?_
        · simp only[Co]at kx;grind
        simp only[Co]at ky;grind
    unfold X9 at h
    split at h
    · rename_i hu;obtain⟨l,h1,h2⟩:=CV h;cases h2;exact base (by unfold Ag;rw[hu]) h1
    · rename_i hu;obtain⟨l,h1,h2⟩:=CV h;cases h2;exact base (by unfold Ag;rw[hu]) h1
    · rename_i hu;obtain⟨l,h1,h2⟩:=CV h;cases h2;exact base (by unfold Ag;rw[hu]) h1
    · rename_i fs hu;simp only[zzj,Bool.not_eq_true']at h;obtain⟨⟨⟨hst,hfa⟩,hall⟩,hcat⟩:=h;obtain⟨l,h1,h2⟩:=CV hcat;rw[hts]at h1;cases h1;have hag:Ag P T=true:=by unfold Ag;rw[hu]
      have hfo:P.fieldsOf T=fs:=by unfold Program.fieldsOf;rw[hu]
      simp only [Jz,hag];rw [run_equalIn_struct w d T _ _ (by simp_all) hst,hfo];have key:∀ (fl:List Field) (off:Nat) (tl:List TypeId) (xs ys:List (AC0 E N)) (b:Bool),Xv P off fl=true→(fl.all fun f=>X9 P n f.type)=true →
          P6 (fl.map fun f=>AW P f.type)=some tl→RelCs P n0 β σ s w xs (vs.drop off)→RelCs P n0 β σ s w ys (us.drop off)→Co P tl xs=true→Co P tl ys=true →
          Kb (O:=std E N) xs ys=some b→(Op.eqFields d vs.toArray us.toArray fl).run P w=.ok b w:=by
        intro fl
        induction fl with
        |nil =>
          intro off tl xs ys b _ _ hc _ _ kx ky he;simp only[List.map_nil,P6]at hc;cases hc;cases xs with
          |cons=>trivial
          |nil =>
            cases ys with
            |cons=>trivial
            |nil=>cases he;rfl
        |cons f fl ih =>
          intro off tl xs ys b hfa hall hc hx hy kx ky he;simp only[Xv]at hfa
          split at hfa
          · rename_i hfo;simp only[zzj,bne_iff_ne,ne_eq]at hfo;have hoff:=AG.1 hfo.1;simp only[List.all_cons,zzj]at hall;simp only[List.map_cons]at hc;cases heq:AW P f.type with
            |none=>rw[heq]at hc;trivial
            |some t1 =>
              rw[heq]at hc;simp only[P6]at hc
              split at hc
              · rename_i t2 ht2;cases hc;obtain⟨hsz,hpos⟩:=CL heq;obtain⟨dd,ts',hdu,hts',hagg⟩:=ib hall.1;rw[heq]at hts';cases hts';have kxl:=Cy kx;have kyl:=Cy ky;simp only[List.length_append]at kxl kyl;have ex:xs=xs.take t1.length++xs.drop t1.length:=(List.take_append_drop _ _).symm;have ey:ys=ys.take t1.length++ys.drop t1.length:=(List.take_append_drop _ _).symm;rw[ex]at kx;rw[ey]at ky;rw[ex,ey]at he;obtain⟨kx1,kx2⟩:=II (by simp;omega) kx;obtain⟨ky1,ky2⟩:=II (by simp;omega) ky;obtain⟨b1,b2,e1,e2,rfl⟩:=WM (by simp;omega) he;obtain⟨rx1,rx2⟩:=RelCs.split t1.length hx;obtain⟨ry1,ry2⟩:=RelCs.split t1.length hy;have p1:=Ux (P:=P) (w:=w) (T:=f.type) (off:=f.offset) (vs:=vs.toArray) hdu (l:=(vs.drop off).take t1.length) (by grind) (by rw[hsz,←RelCs.length rx1];simp;omega) (by grind);have p2:=Ux (P:=P) (w:=w) (T:=f.type) (off:=f.offset) (vs:=us.toArray) hdu (l:=(us.drop off).take t1.length) (by grind) (by rw[hsz,←RelCs.length ry1];simp;omega) (by grind);have p3:=WN n d f.type t1 _ _ _ _ b1 (by omega) hall.1 heq rx1 ry1 kx1 ky1 e1;rw[List.drop_drop]at rx2 ry2;have p4:=ih (off+P.cellsOf f.type) t2 _ _ b2 hfa hall.2 ht2 (by grind) (by grind) kx2 ky2 e2;simp only[Op.eqFields,ne_eq,hfo.2,not_false_eq_true,if_true,Sem.run_bind,p1,p2,p3,Result.andThen_ok];cases b1
                · simp
                trivial
              cases hc
          grind
      have:=key fs.toList 0 ts xs ys b hfa hall h2 (by trivial) (by trivial) kx ky he;exact this
    · rename_i k e hu;simp only[zzj]at h;obtain⟨hek,hcat⟩:=h;obtain⟨l,h1,h2⟩:=CV hcat;rw[hts]at h1;cases h1;have hag:Ag P T=true:=by unfold Ag;rw[hu]
      obtain ⟨dd,te,hdu,hte,hagg⟩:=ib hek;obtain ⟨hsz,hpos⟩:=CL hte;obtain ⟨i,hi⟩:=Cu hdu;simp only [Jz,hag];rw [run_equalIn_array w d _ _ hu hi,List.range_eq_range'];rw [hte] at h2;simp only [Option.map_some,Option.some.injEq] at h2;have key:∀ (k q:Nat) (xs ys:List (AC0 E N)) (b:Bool),RelCs P n0 β σ s w xs (vs.drop (q * te.length))→RelCs P n0 β σ s w ys (us.drop (q * te.length)) →
          Co P (FF k te) xs=true→Co P (FF k te) ys=true→Kb (O:=std E N) xs ys=some b →
          (Op.eqItems d e (P.cellsOf e) vs.toArray us.toArray (List.range' q k)).run P w=.ok b w:=by
        intro k
        induction k with
        |zero =>
          intro q xs ys b _ _ kx ky he;simp only[FF]at kx ky;cases xs with
          |cons=>trivial
          |nil =>
            cases ys with
            |cons=>trivial
            |nil=>cases he;rfl
        |succ k ih =>
          intro q xs ys b hx hy kx ky he;simp only[FF]at kx ky;have kxl:=Cy kx;have kyl:=Cy ky;simp only[List.length_append]at kxl kyl;have ex:xs=xs.take te.length++xs.drop te.length:=(List.take_append_drop _ _).symm;have ey:ys=ys.take te.length++ys.drop te.length:=(List.take_append_drop _ _).symm;rw[ex]at kx;rw[ey]at ky;rw[ex,ey]at he;obtain⟨kx1,kx2⟩:=II (by simp;omega) kx;obtain⟨ky1,ky2⟩:=II (by simp;omega) ky;obtain⟨b1,b2,e1,e2,rfl⟩:=WM (by simp;omega) he;obtain⟨rx1,rx2⟩:=RelCs.split te.length hx;obtain⟨ry1,ry2⟩:=RelCs.split te.length hy;have p1:=Ux (P:=P) (w:=w) (T:=e) (off:=q*P.cellsOf e) (vs:=vs.toArray) hdu (l:=(vs.drop (q*te.length)).take te.length) (by rw[hsz]) (by rw[hsz,←RelCs.length rx1];simp;omega) (by grind);have p2:=Ux (P:=P) (w:=w) (T:=e) (off:=q*P.cellsOf e) (vs:=us.toArray) hdu (l:=(us.drop (q*te.length)).take te.length) (by rw[hsz]) (by rw[hsz,←RelCs.length ry1];simp;omega) (by grind);have p3:=WN n d e te _ _ _ _ b1 (by omega) hek hte rx1 ry1 kx1 ky1 e1;rw[List.drop_drop]at rx2 ry2;have hq:q*te.length+te.length=(q+1)*te.length:=by grind
          rw[hq]at rx2 ry2;have p4:=ih (q+1) _ _ b2 rx2 ry2 kx2 ky2 e2;simp only[List.range'_succ,Op.eqItems,Sem.run_bind,p1,p2,p3,Result.andThen_ok];cases b1
          · simp
          trivial
      grind
    cases h
end
end Go.Px
end
