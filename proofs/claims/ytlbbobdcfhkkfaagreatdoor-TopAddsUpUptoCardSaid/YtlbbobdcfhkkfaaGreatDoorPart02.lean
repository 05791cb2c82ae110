/- Part 2. -/
import Derived.Test.YtlbbobdcfhkkfaaGreatDoorPart01
import Derived.WalkKit
import Derived.Lib.LaidTab
import Derived.ChangeKeysEq
set_option linter.unusedVariables false
set_option linter.unusedSimpArgs false
section
namespace Go.Px
inductive PV where
 | int (n:Int)
 | bool (b:Bool)
 | str (s:ByteArray)
 | rows (l:List (List PV))
 deriving Inhabited
abbrev Rows:=List (List PV)
abbrev AU:=Leaf Int Bool ByteArray Rows
def Leaf.pv:AU→PV
 | .int i=>.int i
 | .bool b=>.bool b
 | .str s=>.str s
 | .rows l=>.rows l
def PV.leaf:PV→AU
 | .int i=>.int i
 | .bool b=>.bool b
 | .str s=>.str s
 | .rows l=>.rows l
@[simp] theorem PV.pv_leaf (p:PV):p.leaf.pv=p:=by cases p<;>rfl
@[simp] theorem Leaf.leaf_pv (p:AU):p.pv.leaf=p:=by cases p<;>rfl
def pvI:PV→Int
 | .int n=>n
 | _=>0
def pvB:PV→Bool
 | .bool b=>b
 | _=>false
def pvS:PV→ByteArray
 | .str s=>s
 | _=>ByteArray.empty
def pvL:PV→Rows
 | .rows l=>l
 | _=>[]
@[simp] theorem zC (n:Int):pvI (.int n)=n:=rfl
@[simp] theorem AB6 (b:Bool):pvB (.bool b)=b:=rfl
@[simp] theorem ACA (s:ByteArray):pvS (.str s)=s:=rfl
@[simp] theorem ABy (l:Rows):pvL (.rows l)=l:=rfl
def AA (r:List PV) (j:Nat):PV:=r.getD j (.int 0)
def AB (l:Rows) (i:Nat):List PV:=l.getD i []
def AF (l:Rows) (i j:Nat):PV:=AA (AB l i) j
def Ac (r:List PV):Nat→List PV→List PV
 | _,[]=>r
 | off,p::ps=>Ac (r.set off p) (off+1) ps
def QW (s:ByteArray) (i:Int):Int:=((s.data.toList.getD i.toNat 0).toNat:Int)
def DD (s:ByteArray):Rows:=s.data.toList.map fun b=>[PV.int b.toNat]
abbrev Env:=Nat→List Nat→List PV→Option (List PV)
def DB (F:(List AU→Option (List PV))→List PV→Option (List PV)):Nat→List PV→Option (List PV)
 | 0,_=>none
 | n+1,c=>F (fun ls=>DB F n (ls.map Leaf.pv)) c
def iLe (a b:Int):Bool:=decide (a≤b)
def iLt (a b:Int):Bool:=decide (a<b)
def iIn (i n:Int):Bool:=decide (0≤i∧i<n)
def iRg (a b n:Int):Bool:=decide (0≤a∧a≤b∧b≤n)
def iSm (n:Int) (b:Nat):Bool:=decide (0≤n∧n≤17592186044416∧n * b≤17592186044416∧b≤1048576)
def AAO (n:Nat) (r:List PV):List Int:=(r.take n).map pvI
def ABi (l:Rows):ByteArray:=⟨(l.map fun r=>(pvI (AA r 0)).toNat.toUInt8).toArray⟩
def Xc (l:Rows):Bool:=l.all fun r=>decide (0≤pvI (AA r 0)∧pvI (AA r 0)<256)
def eD (c:Nat) (k:IntKind) (x y:Int):Int:=match c with
 | 0=>k.wrap ((BitVec.ofInt k.bits x &&& BitVec.ofInt k.bits y).toNat:Int)
 | 1=>k.wrap ((BitVec.ofInt k.bits x ||| BitVec.ofInt k.bits y).toNat:Int)
 | 2=>k.wrap ((BitVec.ofInt k.bits x ^^^ BitVec.ofInt k.bits y).toNat:Int)
 | _=>k.wrap ((BitVec.ofInt k.bits x &&& ~~~(BitVec.ofInt k.bits y)).toNat:Int)
def tG (l:Bool) (k:IntKind) (x y:Int):Int:=cond l (k.wrap (x * 2 ^ min y.toNat k.bits)) (x.fdiv (2 ^ min y.toNat k.bits))
@[reducible] def std (E:Env) (N:Nat):Alg where
 I:=Int
 B:=Bool
 S:=ByteArray
 L:=Rows
 C:=List PV
 M:=Option (List PV)
 lit _ n:=n
 p k a b:=k.wrap (a+b)
 u k a b:=k.wrap (a - b)
 al k a b:=k.wrap (a * b)
 az k a b:=k.wrap (a.tdiv b)
 ap _ a b:=a.tmod b
 ar k a:=k.wrap a
 ax c k a b:=eD c k a b
 ba l k a b:=tG l k a b
 ao i:=Utf8.encode i
 z a b:=iLe a b
 o a b:=iLt a b
 e a b:=a==b
 m:=true
 g:=false
 h b := !b
 af a b:=a&&b
 an a b:=a==b
 ai b x y:=cond b x y
 i b x y:=cond b x y
 av b x y:=cond b x y
 bb b x y:=cond b x y
 s s:=s
 aq a b:=a.toList==b.toList
 bc a b:=Op.bytesLess a.toList b.toList
 x s:=s.size
 bd s i:=QW s i
 ay s l h:=s.extract l.toNat h.toNat
 ag a b:=a++b
 aw s:=DD s
 y:=[]
 ab rows:=rows.map (·.map Leaf.pv)
 ae a b:=a++b
 l l:=l.length
 v l i off r:=l.set i.toNat (Ac (AB l i.toNat) off (r.map Leaf.pv))
 aj l a b:=(l.take b.toNat).drop a.toNat
 am n r:=List.replicate n.toNat (r.map Leaf.pv)
 n l i j:=pvI (AF l i.toNat j)
 rB l i j:=pvB (AF l i.toNat j)
 rS l i j:=pvS (AF l i.toNat j)
 rL l i j:=pvL (AF l i.toNat j)
 be l:=ABi l
 bf l:=Xc l
 d c j:=pvI (AA c j)
 q c j:=pvB (AA c j)
 cS c j:=pvS (AA c j)
 k c j:=pvL (AA c j)
 ac c j:=pvI (AA c 0)==(j:Int)
 r i n:=iIn i n
 ak a b n:=iRg a b n
 t n b:=iSm n b
 a ls:=some (ls.map Leaf.pv)
 ad _:=none
 j b m:=cond b m none
 b b x y:=cond b x y
 c m k:=m.bind k
 f f fns ls:=E f fns (ls.map Leaf.pv)
 w F ls:=DB F N (ls.map Leaf.pv)
structure Blk where
 b:Nat
 c:Bool
def Clean (P:Program) (w:World) (b off n:Nat):Prop :=
  (∀ k,off≤k→k<off+n→w.frozen? ⟨b,k,none⟩=false)∧∀ cells el,w.heap[b]?=some (.cells cells el (0,0))→FX P el=false
theorem Clean.of {P:Program} {w:World} {b off n:Nat} {cells:Array Value} {el:TypeId} (h:w.heap[b]?=some (.cells cells el (0,0))) (hq:FX P el=false):Clean P w b off n :=
 ⟨fun k _ _=>by simp [World.frozen?,h],fun c e he=>by rw [h] at he;cases he;exact hq⟩
theorem Clean.same {P:Program} {w w':World} {b off n:Nat} (h:Clean P w b off n) (e:w'.heap[b]?=w.heap[b]?):Clean P w' b off n :=
 ⟨fun k h1 h2=>by
  have:=h.1 k h1 h2;unfold World.frozen? at this ⊢;rw [e];exact this,fun c el he=>h.2 c el (by rw [← e];exact he)⟩
theorem Clean.part {P:Program} {w:World} {b off n off' n':Nat} (h:Clean P w b off n) (h1:off≤off') (h2:off'+n'≤off+n):Clean P w b off' n':=⟨fun k a c=>h.1 k (by omega) (by omega),h.2⟩
def TCh (P:Program) (n:Nat) (w w':World) (b:Nat):Prop:=n≤b∧∃ cells cells' el,w.heap[b]?=some (.cells cells el (0,0))∧w'.heap[b]?=some (.cells cells' el (0,0)) ∧
 cells'.size=cells.size∧FX P el=true∧∀ v∈cells'.toList,v.oneCell'=true
theorem TCh.not {P:Program} {n:Nat} {w w':World} {b:Nat} (h:TCh P n w w' b) {cells:Array Value} {el:TypeId} (hb:w.heap[b]?=some (.cells cells el (0,0))) (hq:FX P el=false):False:=by
 obtain ⟨_,c,c',e,h1,_,_,h2,_⟩:=h;rw [hb] at h1;cases h1;rw [hq] at h2;cases h2
inductive Rep (P:Program) (w:World) (St:Blk→Prop):TypeId→Value→PV→Prop
  | int {t:TypeId} {k:IntKind} {n:Int} (h:AL P t=.int k):Rep P w St t (.int k n) (.int n)
  | bool {t:TypeId} {b:Bool} (h:AL P t=.bool):Rep P w St t (.bool b) (.bool b)
  | str {t:TypeId} {s:ByteArray} (h:AL P t=.str):Rep P w St t (.string s) (.str s)
  | sl {t e : TypeId} {ts : List TypeId} {a : Option Addr} {len cap : Nat} {l : Rows} (v : Nat → Nat → Value)
      (h:AL P t=.sl e) (hts:AW P e=some ts) (hl:l.length=len) (hr:∀ r∈l,r.length=ts.length) (hc:len≤cap)
      (hm:len=0∨∃ b off,a=some ⟨b.b,off,none⟩∧St b∧(b.b<w.heap.size∧(b.c=true→Clean P w b.b off (len * ts.length))) ∧
        ∀ i j,i<len→j<ts.length→w.cell? ⟨b.b,off+(i * ts.length+j),none⟩=some (v i j))
      (hv:∀ i j t',i<len→ts[j]?=some t'→Rep P w St t' (v i j) (AF l i j)) :
      Rep P w St t (.slice a len cap) (.rows l)
  | opq {t : TypeId} {a : Option Addr} {len cap : Nat} (h : AL P t = .opq) (hc : len ≤ cap)
      (hm:cap=0∨∃ (b:Blk) (off:Nat),a=some ⟨b.b,off,none⟩∧St b∧(b.b<w.heap.size∧(b.c=true→off=0∧∃ cells el,w.heap[b.b]?=some (.cells cells el (0,0))∧FX P el=true∧cap≤cells.size∧∀ v∈cells.toList,v.oneCell'=true))) :
      Rep P w St t (.slice a len cap) (.int len)
theorem Rep.mono {P : Program} {w w' : World} {St St' : Blk → Prop} {t : TypeId} {v : Value} {p : PV} (h : Rep P w St t v p)
    (hw:∀ b,St b→b.b<w.heap.size→(w'.heap[b.b]?=w.heap[b.b]?∨(b.c=true∧∃ n,TCh P n w w' b.b))∧b.b<w'.heap.size) (hs:∀ b,St b→b.b<w.heap.size→St' b):Rep P w' St' t v p:=by
  induction h with
  | int h=>exact .int h
  | bool h=>exact .bool h
  | str h=>exact .str h
  | opq h hc hm =>
    refine .opq h hc ?_
    rcases hm with hm | ⟨b,off,ha,hb,hlt,hk⟩
    · exact .inl hm
    · refine .inr ⟨b,off,ha,hs b hb hlt,(hw b hb hlt).2,fun hc=>?_⟩;obtain ⟨h0,cells,el,h1,h2,h3,h4⟩:=hk hc
      rcases (hw b hb hlt).1 with h5 | ⟨_,n,_,c,c',e,h6,h7,h8,h9,h10⟩
      · exact ⟨h0,cells,el,h5.trans h1,h2,h3,h4⟩
      · rw [h1] at h6;cases h6;exact ⟨h0,c',el,h7,h2,by rw [h8];exact h3,h10⟩
  | sl v h hts hl hr hc hm hv ih =>
    refine .sl v h hts hl hr hc ?_ (fun i j t' hi hj=>ih i j t' hi hj)
    rcases hm with hm | ⟨b,off,ha,hb,hlt,hcell⟩
    · exact .inl hm
    · have he : w'.heap[b.b]? = w.heap[b.b]? := by
        rcases (hw b hb hlt.1).1 with h5 | ⟨h5,n,_,c,c',e,h6,_,_,h7,_⟩
        · exact h5
        · rw [(hlt.2 h5).2 c e h6] at h7;cases h7
      refine .inr ⟨b,off,ha,hs b hb hlt.1,⟨(hw b hb hlt.1).2,fun hc=>(hlt.2 hc).same he⟩,fun i j hi hj=>?_⟩;rw [World.cell?_of_block (w:=w) he];exact hcell i j hi hj
section
variable {E:Env} {N:Nat}
abbrev St0 (E:Env) (N:Nat):=State (std E N)
abbrev AC0 (E:Env) (N:Nat):=AC (std E N)
def InM (β:Nat→Option Nat) (σ:Nat→Option (Nat×Nat)) (s:St0 E N) (blk:Nat):Prop :=
  (∃ b e,s.getB b=some e∧β b=some blk)∨(∃ id h cap,s.getH id=some h∧h.frozen=false∧σ id=some (blk,cap))
structure Nz where
 n:Nat
 U:Blk→Prop
def Old (n0:Nz) (nw:Bool) (blk:Blk):Prop:=(nw=true→n0.n≤blk.b)∧((n0.n≤blk.b∧blk.c=true)∨(blk.b<n0.n∧n0.U blk))
theorem Old.mono {n0:Nz} {nw nw':Bool} {blk:Blk} (h:Old n0 nw blk) (hh:nw'=true→nw=true):Old n0 nw' blk:=⟨fun e=>h.1 (hh e),h.2⟩
theorem Old.new {n0:Nz} {nw:Bool} {blk:Nat} (h:n0.n≤blk):Old n0 nw ⟨blk,true⟩:=⟨fun _=>h,.inl ⟨h,rfl⟩⟩
def StB (n0:Nz) (β:Nat→Option Nat) (σ:Nat→Option (Nat×Nat)) (s:St0 E N) (nw:Bool) (blk:Blk):Prop :=
 ¬ InM β σ s blk.b∧Old n0 nw blk
def Qq (β:Nat→Option Nat) (s:St0 E N) (b off:Nat) (v:Value):Prop :=
 ∃ blk,v=.pointer (some ⟨blk,off,none⟩)∧∀ e,s.getB b=some e→β b=some blk
def AAm (P:Program) (n0:Nz) (β:Nat→Option Nat) (σ:Nat→Option (Nat×Nat)) (s:St0 E N) (w:World) (e:TypeId) (l:Rows) (v:Value):Prop :=
 0<l.length∧∃ t ts blk boff len cap,AL P t=.sl e∧AW P e=some ts∧Rep P w (StB n0 β σ s false) t (.slice (some ⟨blk,boff,none⟩) len cap) (.rows l)∧v=.pointer (some ⟨blk,boff,none⟩)
def Td (P:Program) (n0:Nz) (β:Nat→Option Nat) (σ:Nat→Option (Nat×Nat)) (s:St0 E N) (w:World):Cap (std E N)→Value→Prop
 | .box b off,v=>Qq β s b off v
 | .row e l,v=>AAm P n0 β σ s w e l v
def mg (σ:Nat→Option (Nat×Nat)) (id:Nat) (n:Nat) (v:Value):Prop :=
  (∃ blk cap,σ id=some (blk,cap)∧v=.slice (some ⟨blk,0,none⟩) n cap)∨(σ id=none∧n=0∧∃ a,v=.slice a 0 0)
def RelC (P:Program) (n0:Nz) (β:Nat→Option Nat) (σ:Nat→Option (Nat×Nat)) (s:St0 E N) (w:World):AC0 E N→Value→Prop
  | .int k i,v=>v=.int k i
  | .bool b,v=>v=.bool b
  | .str x,v=>v=.string x
  | .nil e,v=>∃ t ts,AL P t=.sl e∧AW P e=some ts∧∃ a,v=.slice a 0 0
  | .imm e nw l,v=>∃ t,AL P t=.sl e∧Rep P w (StB n0 β σ s nw) t v (.rows l)
  | .own e id,v=>(∃ t,AL P t=.sl e∧∃ a len cap,v=.slice a len cap)∧∀ h,s.getH id=some h→h.e=e∧mg σ id h.l.length v
  | .ptr b off,v=>Qq β s b off v
  | .aptr b off n sz i inner,v=>0≤i∧i<(n:Int)∧Qq β s b (off+i.toNat * sz+inner) v
  | .eptr id i off, v => 0 ≤ i ∧ ∃ blk o, v = .pointer (some ⟨blk, o, none⟩) ∧ ∀ h, s.getH id = some h → i < (h.l.length : Int) ∧
      ∃ ts cap,AW P h.e=some ts∧σ id=some (blk,cap)∧(0<cap∧∃ t,AL P t=.sl h.e)∧o=i.toNat * ts.length+off
  | .iptr e nw l i off, v => 0 ≤ i ∧ i < (l.length : Int) ∧ ∃ t ts blk boff len cap, AL P t = .sl e ∧ AW P e = some ts ∧
      Rep P w (StB n0 β σ s nw) t (.slice (some ⟨blk,boff,none⟩) len cap) (.rows l)∧v=.pointer (some ⟨blk,boff+(i.toNat * ts.length+off),none⟩)
  | .fn f caps, v => ∃ vs : List Value, v = .func (.func f) #[] vs.toArray ∧ vs.length = caps.length ∧
      ∀ (i:Nat) (c:Cap (std E N)),caps[i]?=some c→∃ x:Value,vs[i]?=some x∧Td P n0 β σ s w c x
  | .nilptr,v=>v=.pointer none
  | .tail e id i, v => 0 ≤ i ∧ (∃ t, AL P t = .sl e ∧ ∃ a len cap, v = .slice a len cap) ∧ ∀ h, s.getH id = some h → h.e = e ∧ i ≤ (h.l.length : Int) ∧ ∃ a cap, v = .slice a (h.l.length - i.toNat) cap ∧
      (h.l.length=i.toNat∨∃ blk cap2 ts,AW P e=some ts∧σ id=some (blk,cap2)∧a=some ⟨blk,i.toNat * ts.length,none⟩)
  | .any T,v=>v.oneCell'=true
  | .qlit b n,v=>∃ blk,v=.slice (some ⟨blk,0,none⟩) n n∧Qq β s b 0 (.pointer (some ⟨blk,0,none⟩))
  | .opq nw n,v=>∃ t,AL P t=.opq∧Rep P w (StB n0 β σ s nw) t v (.int n)
  | .mp e id,v=>((∀ t,AL P t≠.sl e)∧∃ r,v=.map (some r))∧∀ h,s.getH id=some h→h.e=e∧∃ r,σ id=some (r,0)∧v=.map (some r)
def RelCs (P:Program) (n0:Nz) (β:Nat→Option Nat) (σ:Nat→Option (Nat×Nat)) (s:St0 E N) (w:World):List (AC0 E N)→List Value→Prop
 | [],[]=>True
 | c::cs,v::vs=>RelC P n0 β σ s w c v∧RelCs P n0 β σ s w cs vs
 | _,_=>False
def RelVal (P:Program) (n0:Nz) (β:Nat→Option Nat) (σ:Nat→Option (Nat×Nat)) (s:St0 E N) (w:World) (x:Val (std E N)) (v:Value):Prop :=
 RelCs P n0 β σ s w x.cs v.cells.toList∧match x.agg with
  | true=>∃ cs,v=.agg cs
  | false=>v.oneCell'=true
def RelVals (P:Program) (n0:Nz) (β:Nat→Option Nat) (σ:Nat→Option (Nat×Nat)) (s:St0 E N) (w:World):List (Val (std E N))→List Value→Prop
 | [],[]=>True
 | c::cs,v::vs=>RelVal P n0 β σ s w c v∧RelVals P n0 β σ s w cs vs
 | _,_=>False
def RelAV (P:Program) (n0:Nz) (β:Nat→Option Nat) (σ:Nat→Option (Nat×Nat)) (s:St0 E N) (w:World):AV (std E N)→Value→Prop
 | .val x,v=>RelVal P n0 β σ s w x v
 | .tup xs,v=>∃ vs,v=.tuple vs∧RelVals P n0 β σ s w xs vs.toList
def Facts (a:Act) (gs:List (Nat×Bool)):Prop:=∀ n b,(n,b)∈gs→a.tmps.getD n undef=.bool b
def ABY (P:Program) (n0:Nz) (β:Nat→Option Nat) (σ:Nat→Option (Nat×Nat)) (s:St0 E N) (a:Act) (w:World) (tv:TV (std E N)) (v:Value):Prop :=
  (Facts a tv.gs∧RelAV P n0 β σ s w tv.v v)∨(¬ Facts a tv.gs∧v=undef)
def BH (blk:Nat) (cells:Array Value) (el:TypeId):List (AC0 E N)→Prop
 | .any T::_=>el=T∧∃ p v,cells=#[p,v]∧(p=.pointer none∨p=.pointer (some ⟨blk,0,none⟩))∧(v=.slice none 0 0∨∃ a n c,v=.slice a n c∧0<c)
 | _=>True
theorem BH.of_noAny {blk:Nat} {cells:Array Value} {el:TypeId} {cs:List (AC0 E N)} (h:Sr cs=true):BH blk cells el cs:=by
 cases cs with
 | nil=>trivial
 | cons c r=>cases c<;>first | trivial | (simp [Sr] at h)
def tJ (P:Program) (n0:Nz) (β:Nat→Option Nat) (σ:Nat→Option (Nat×Nat)) (s:St0 E N) (w:World) (b:Nat) (e:BEnt (std E N)):Prop :=
 ∃ blk cells el,β b=some blk∧w.heap[blk]?=some (.cells cells el (0,0))∧RelCs P n0 β σ s w e.cs cells.toList∧BH blk cells el e.cs
def ABz (a:List Int):Value:=.agg (a.map (Value.int .i64)).toArray
def ent (n:Nat) (i:Nat) (r:List PV):MapEntry:={ key:=ABz (AAO n r),val:=.int .i64 (pvI (AA r n)),born:=i }
def AAb (n:Nat):Nat→Rows→List MapEntry
 | _,[]=>[]
 | i,r::L=>ent n i r::AAb n (i+1) L
def sT (w:World) (n r:Nat) (L:Rows):Prop:=w.heap[r]?=some (.map (AAb n 0 L).toArray L.length)
def RelM (P:Program) (n0:Nz) (σ:Nat→Option (Nat×Nat)) (w:World) (id:Nat) (h:HEnt (std E N)):Prop :=
 ∃ n r,h.e=AB7 P n∧(∀ t,AL P t≠.sl h.e)∧σ id=some (r,0)∧sT w n r h.l∧(∀ x∈h.l,x.length=n+1)∧Old n0 h.nw ⟨r,true⟩
def AB1 (P:Program) (n0:Nz) (β:Nat→Option Nat) (σ:Nat→Option (Nat×Nat)) (s:St0 E N) (w:World) (id:Nat) (h:HEnt (std E N)):Prop :=
  ∃ t ts,AL P t=.sl h.e∧AW P h.e=some ts∧(∀ r∈h.l,r.length=ts.length) ∧
    ((σ id=none∧h.l=[]) ∨
      ∃ blk cap cells el,σ id=some (blk,cap)∧w.heap[blk]?=some (.cells cells el (0,0))∧el=h.e∧cells.size=cap * ts.length∧h.l.length≤cap ∧
        Old n0 h.nw ⟨blk,true⟩ ∧
        ∃ v:Nat→Nat→Value,(∀ i j,i<h.l.length→j<ts.length→cells[i * ts.length+j]?=some (v i j)) ∧
          ∀ i j t',i<h.l.length→ts[j]?=some t'→Rep P w (StB n0 β σ s h.nw) t' (v i j) (AF h.l i j))
def RelH (P:Program) (n0:Nz) (β:Nat→Option Nat) (σ:Nat→Option (Nat×Nat)) (s:St0 E N) (w:World) (id:Nat) (h:HEnt (std E N)):Prop :=
 AB1 P n0 β σ s w id h∨RelM P n0 σ w id h
theorem RelM.view {P : Program} {n0 n0' : Nz} {σ σ' : Nat → Option (Nat × Nat)} {w w' : World} {id q : Nat} {h0 h1 : HEnt (std E N)} (h : RelM P n0 σ w id h0) (he : h1.e = h0.e) (hl : h1.l = h0.l)
    (hs:σ' q=σ id) (hw:∀ blk cap,σ id=some (blk,cap)→w'.heap[blk]?=w.heap[blk]?) (ho:∀ blk cap,σ id=some (blk,cap)→Old n0 h0.nw ⟨blk,true⟩→Old n0' h1.nw ⟨blk,true⟩):RelM P n0' σ' w' q h1:=by
  obtain ⟨n,r,a1,a3,a4,a5,a6,a7⟩:=h;refine ⟨n,r,he.trans a1,by rw [he];exact a3,hs.trans a4,?_,by rw [hl];exact a6,ho r 0 a4 a7⟩;unfold sT;rw [hw r 0 a4,hl];exact a5
theorem RelM.noCap {P:Program} {n0:Nz} {σ:Nat→Option (Nat×Nat)} {w:World} {id blk cap:Nat} {h:HEnt (std E N)} (m:RelM P n0 σ w id h) (hs:σ id=some (blk,cap)) (hc:0<cap):False:=by
 obtain ⟨n,r,a1,a3,a4,a5,a6,a7⟩:=m;rw [hs] at a4;cases a4;exact Nat.lt_irrefl 0 hc
theorem RelM.noSl {P:Program} {n0:Nz} {σ:Nat→Option (Nat×Nat)} {w:World} {id:Nat} {h:HEnt (std E N)} (m:RelM P n0 σ w id h) {t:TypeId} (ht:AL P t=.sl h.e):False:=by
 obtain ⟨n,r,a1,a3,a4,a5,a6,a7⟩:=m;exact a3 t ht
theorem RelM.blk {P:Program} {n0:Nz} {σ:Nat→Option (Nat×Nat)} {w:World} {id:Nat} {h:HEnt (std E N)} (m:RelM P n0 σ w id h) {blk cap:Nat} (hs:σ id=some (blk,cap)):(∃ o,w.heap[blk]?=some o)∧Old n0 h.nw ⟨blk,true⟩:=by
 obtain ⟨n,r,a1,a3,a4,a5,a6,a7⟩:=m;rw [hs] at a4;cases a4;exact ⟨⟨_,a5⟩,a7⟩
structure Mem (P:Program) (n0:Nz) (β:Nat→Option Nat) (σ:Nat→Option (Nat×Nat)) (s:St0 E N) (w:World):Prop where
 B:∀ b e,s.getB b=some e→tJ P n0 β σ s w b e
 H:∀ id h,s.getH id=some h→RelH P n0 β σ s w id h
 uB:∀ b b' e e' blk,s.getB b=some e→s.getB b'=some e'→β b=some blk→β b'=some blk→b=b'
 uH:∀ id id' h h' blk cap cap',s.getH id=some h→s.getH id'=some h'→σ id=some (blk,cap)→σ id'=some (blk,cap')→id=id'
 uX:∀ b e id h blk cap,s.getB b=some e→s.getH id=some h→β b=some blk→σ id=some (blk,cap)→False
def Pd : String := "internal/strconv.uint64pow10"
def bI:List Int:=(List.range 20).map fun i=>((10 ^ i:Nat):Int)
def Kept (P:Program) (n0:Nz) (β:Nat→Option Nat) (σ:Nat→Option (Nat×Nat)) (s:St0 E N) (w:World):Prop :=
 ∀ g,P.globalNamed Pd=some g→Lib.TabIs P w Pd .u64 bI∧¬ InM β σ s g∧g<n0.n
structure Sim (P:Program) (n0:Nz) (nt:Nat) (β:Nat→Option Nat) (σ:Nat→Option (Nat×Nat)) (s:St0 E N) (a:Act) (w:World):Prop where
 n0le:n0.n≤w.heap.size
 size:a.tmps.size=nt
 T:∀ n tv,s.getT n=some tv→ABY P n0 β σ s a w tv (a.tmps.getD n undef)
 M:Mem P n0 β σ s w
 kept:Kept P n0 β σ s w
def AC.names:AC0 E N→List Nat
 | .own _ id=>[id]
 | .ptr b _=>[b]
 | .qlit b _=>[b]
 | .aptr b _ _ _ _ _=>[b]
 | .eptr id _ _=>[id]
 | .fn _ caps=>JI caps
 | .tail _ id _=>[id]
 | .mp _ id=>[id]
 | _=>[]
def AH:List (AC0 E N)→List Nat
 | []=>[]
 | c::r=>c.names++AH r
def CE:List (Val (std E N))→List Nat
 | []=>[]
 | v::r=>AH v.cs++CE r
def AV.names:AV (std E N)→List Nat
 | .val v=>AH v.cs
 | .tup vs=>CE vs
theorem TB {b o:Nat}:∀ {caps:List (Cap (std E N))} {i:Nat},caps[i]?=some (.box b o)→b∈JI caps
 | [],i,h=>by simp at h
 | c::r,0,h=>by simp at h;subst h;exact List.mem_append_left _ zzl
 | c::r,i+1,h=>List.mem_append_right _ (TB (i:=i) (by simpa using h))
structure Fresh (a:Act) (s:St0 E N) (n:Nat):Prop where
 t:∀ k tv,s.getT k=some tv→Facts a tv.gs→n∉tv.v.names
 b:∀ k e,s.getB k=some e→n≠k∧n∉AH e.cs
 h:∀ k e,s.getH k=some e→n≠k
structure Ext (P : Program) (n0 : Nz) (new : Nat → Prop) (β : Nat → Option Nat) (σ : Nat → Option (Nat × Nat)) (s : St0 E N) (w : World)
    (β':Nat→Option Nat) (σ':Nat→Option (Nat×Nat)) (s':St0 E N) (w':World):Prop where
  os:w'.os=w.os
  tape:w'.tape=w.tape
  output:w'.output=w.output
  size:w.heap.size≤w'.heap.size
  frame:∀ b,b<w.heap.size→¬ InM β σ s b→w'.heap[b]?=w.heap[b]?∨TCh P n0.n w w' b
  mem:∀ b,InM β' σ' s' b→InM β σ s b∨w.heap.size≤b
  kB:∀ b e',s'.getB b=some e'→¬ new b→(∃ e,s.getB b=some e)∧β' b=β b
  kH:∀ id h',s'.getH id=some h'→¬ new id→∃ h,s.getH id=some h∧σ' id=σ id∧h'.e=h.e∧((∃ t,AL P t=.sl h.e)→h'.l.length=h.l.length)
section
variable {P:Program} {n0:Nz} {nt:Nat} {new:Nat→Prop} {β β':Nat→Option Nat} {σ σ':Nat→Option (Nat×Nat)} {s s':St0 E N} {w w':World} {a:Act}
theorem Ba {w:World} {b:Nat} {o:Obj} (h:w.heap[b]?=some o):b<w.heap.size:=by
 rcases Nat.lt_or_ge b w.heap.size with h' | h'
 ·exact h'
 ·simp [Array.getElem?_eq_none h'] at h
theorem Kept.ext (k:Kept P n0 β σ s w) (x:Ext P n0 new β σ s w β' σ' s' w'):Kept P n0 β' σ' s' w':=fun g hg=>by
 obtain ⟨h1,h2,h3⟩:=k g hg;unfold Lib.TabIs World.var? at h1 ⊢;rw [hg] at h1 ⊢;simp only [Option.bind_some] at h1 ⊢;have hlt:g<w.heap.size:=by
  rcases Nat.lt_or_ge g w.heap.size with h | h
  ·exact h
  ·rw [Array.getElem?_eq_none h] at h1;cases h1
 have hf:w'.heap[g]?=w.heap[g]?:=(x.frame g hlt h2).elim id (fun h=>by have:=h.1;omega);refine ⟨by rw [hf];exact h1,fun hm=>(x.mem g hm).elim h2 (fun h=>by omega),h3⟩
theorem Ext.rep (x : Ext P n0 new β σ s w β' σ' s' w') {nw : Bool} {t : TypeId} {v : Value} {p : PV} (h : Rep P w (StB n0 β σ s nw) t v p) :
    Rep P w' (StB n0 β' σ' s' nw) t v p :=
  h.mono (fun b hb hlt => ⟨(x.frame _ hlt hb.1).imp id (fun h => ⟨by
      rcases hb.2.2 with h1 | h1
      · exact h1.2
      · have:=h.1;omega,n0.n,h⟩),Nat.lt_of_lt_of_le hlt x.size⟩)
    (fun b hb hlt=>⟨fun hm=>(x.mem _ hm).elim hb.1 (fun h=>by omega),hb.2⟩)
theorem Ext.ptr (x:Ext P n0 new β σ s w β' σ' s' w') {b off:Nat} {v:Value} (hn:¬ new b) (h:Qq β s b off v):Qq β' s' b off v:=by
 obtain ⟨blk,rfl,hb⟩:=h;refine ⟨blk,rfl,fun e he=>?_⟩;obtain ⟨⟨e0,h0⟩,h1⟩:=x.kB b e he hn;rw [h1];exact hb e0 h0
theorem Ext.relC (x : Ext P n0 new β σ s w β' σ' s' w') {c : AC0 E N} {v : Value} (hn : ∀ n ∈ c.names, ¬ new n) (h : RelC P n0 β σ s w c v) :
    RelC P n0 β' σ' s' w' c v:=by
  cases c with
  | int k i=>exact h
  | bool b=>exact h
  | str x=>exact h
  | nil e=>exact h
  | nilptr=>exact h
  | any T=>exact h
  | opq nw n=>obtain ⟨t,ht,hr⟩:=h;exact ⟨t,ht,x.rep hr⟩
  | imm e nw l=>obtain ⟨t,ht,hr⟩:=h;exact ⟨t,ht,x.rep hr⟩
  | own e id =>
    obtain ⟨h1,h2⟩:=h;refine ⟨h1,fun h' hh=>?_⟩;obtain ⟨h0,hh0,hs,he,hl⟩:=x.kH id h' hh (hn id (by simp [AC.names]));obtain ⟨e1,o1⟩:=h2 h0 hh0;refine ⟨he.trans e1,?_⟩;have hl:=hl (by obtain ⟨te,hte,_⟩:=h1;exact ⟨te,by rw [e1];exact hte⟩);unfold mg at o1 ⊢;rw [hs,hl];exact o1
  | ptr b off=>exact x.ptr (hn b (by simp [AC.names])) h
  | qlit b n=>obtain ⟨blk,hv,h⟩:=h;exact ⟨blk,hv,x.ptr (hn b (by simp [AC.names])) h⟩
  | aptr b off n sz i inner=>exact ⟨h.1,h.2.1,x.ptr (hn b (by simp [AC.names])) h.2.2⟩
  | eptr id i off =>
    obtain ⟨h0,blk,o,hv,hk⟩:=h;refine ⟨h0,blk,o,hv,fun h' hh=>?_⟩;obtain ⟨e0,hh0,hs,he,hl⟩:=x.kH id h' hh (hn id (by simp [AC.names]));obtain ⟨hi,ts,cap,hts,hsg,hcp,ho⟩:=hk e0 hh0;have hl:=hl hcp.2;exact ⟨by rw [hl];exact hi,ts,cap,by rw [he];exact hts,by rw [hs];exact hsg,by rw [he];exact hcp,ho⟩
  | iptr e nw l i off =>
    obtain ⟨h0,h1,t,ts,blk,boff,len,cap,ht,hts,hr,hv⟩:=h;exact ⟨h0,h1,t,ts,blk,boff,len,cap,ht,hts,x.rep hr,hv⟩
  | fn f caps =>
    obtain ⟨vs,hv,hl,hp⟩:=h;refine ⟨vs,hv,hl,fun i c hc=>?_⟩;obtain ⟨y,hy,hr⟩:=hp i c hc;cases c with
    | box b o=>exact ⟨y,hy,x.ptr (hn b (TB hc)) hr⟩
    | row e l =>
      obtain ⟨h1,t,ts,blk,boff,len,cap,ht,hts,hr,hv⟩:=hr;exact ⟨y,hy,h1,t,ts,blk,boff,len,cap,ht,hts,x.rep hr,hv⟩
  | tail e id i =>
    obtain ⟨h0,hv,hk⟩:=h;refine ⟨h0,hv,fun h' hh=>?_⟩;obtain ⟨e0,hh0,hs,he,hl⟩:=x.kH id h' hh (hn id (by simp [AC.names]));obtain ⟨h1,hi,hq⟩:=hk e0 hh0;obtain ⟨te,hte,_⟩:=hv;have hl:=hl ⟨te,by rw [h1];exact hte⟩;exact ⟨he.trans h1,by rw [hl];exact hi,by rw [hl,hs];exact hq⟩
  | mp e id =>
    obtain ⟨hv,hk⟩:=h;refine ⟨hv,fun h' hh=>?_⟩;obtain ⟨e0,hh0,hs,he,_⟩:=x.kH id h' hh (hn id (by simp [AC.names]));obtain ⟨h1,r,h2,h3⟩:=hk e0 hh0;exact ⟨he.trans h1,r,by rw [hs];exact h2,h3⟩
theorem Ext.relCs (x : Ext P n0 new β σ s w β' σ' s' w') : ∀ {cs : List (AC0 E N)} {vs : List Value}, (∀ n ∈ AH cs, ¬ new n) → RelCs P n0 β σ s w cs vs →
    RelCs P n0 β' σ' s' w' cs vs
  | [],[],_,h=>h
  | c::cs,v::vs,hn,h=>⟨x.relC (fun n hm=>hn n (by simp [AH,hm])) h.1,x.relCs (fun n hm=>hn n (by simp [AH,hm])) h.2⟩
  | [],_::_,_,h=>h.elim
  | _::_,[],_,h=>h.elim
theorem Ext.relVal (x : Ext P n0 new β σ s w β' σ' s' w') {y : Val (std E N)} {v : Value} (hn : ∀ n ∈ AH y.cs, ¬ new n) (h : RelVal P n0 β σ s w y v) :
    RelVal P n0 β' σ' s' w' y v:=⟨x.relCs hn h.1,h.2⟩
theorem Ext.relVals (x : Ext P n0 new β σ s w β' σ' s' w') : ∀ {cs : List (Val (std E N))} {vs : List Value}, (∀ n ∈ CE cs, ¬ new n) → RelVals P n0 β σ s w cs vs →
    RelVals P n0 β' σ' s' w' cs vs
  | [],[],_,h=>h
  | c::cs,v::vs,hn,h=>⟨x.relVal (fun n hm=>hn n (by simp [CE,hm])) h.1,x.relVals (fun n hm=>hn n (by simp [CE,hm])) h.2⟩
  | [],_::_,_,h=>h.elim
  | _::_,[],_,h=>h.elim
theorem Ext.relAV (x : Ext P n0 new β σ s w β' σ' s' w') {y : AV (std E N)} {v : Value} (hn : ∀ n ∈ y.names, ¬ new n) (h : RelAV P n0 β σ s w y v) :
    RelAV P n0 β' σ' s' w' y v:=by
  cases y with
  | val y=>exact x.relVal hn h
  | tup ys=>obtain ⟨vs,hv,hr⟩:=h;exact ⟨vs,hv,x.relVals hn hr⟩
theorem Ext.refl (P:Program) (n0:Nz) (new:Nat→Prop) (β:Nat→Option Nat) (σ:Nat→Option (Nat×Nat)) (s:St0 E N) (w:World):Ext P n0 new β σ s w β σ s w :=
 ⟨rfl,rfl,rfl,Nat.le_refl _,fun _ _ _=>.inl rfl,fun _ h=>.inl h,fun b e h _=>⟨⟨e,h⟩,rfl⟩,fun id h hh _=>⟨h,hh,rfl,rfl,fun _=>rfl⟩⟩
theorem Ext.trans {new2 : Nat → Prop} {β'' : Nat → Option Nat} {σ'' : Nat → Option (Nat × Nat)} {s'' : St0 E N} {w'' : World}
    (x:Ext P n0 new β σ s w β' σ' s' w') (y:Ext P n0 new2 β' σ' s' w' β'' σ'' s'' w''):Ext P n0 (fun n=>new n∨new2 n) β σ s w β'' σ'' s'' w'' where
  os:=y.os.trans x.os
  tape:=y.tape.trans x.tape
  output:=y.output.trans x.output
  size:=Nat.le_trans x.size y.size
  frame b hb hm:=by
    rcases y.frame b (Nat.lt_of_lt_of_le hb x.size) (fun h=>(x.mem b h).elim hm (fun h=>by omega)) with h1 | h1
    · rcases x.frame b hb hm with h2 | ⟨h0,c,c',e,h2,h3,h4⟩
      · exact .inl (h1.trans h2)
      · exact .inr ⟨h0,c,c',e,h2,h1.trans h3,h4⟩
    · rcases x.frame b hb hm with h2 | ⟨h0,c,c',e,h2,h3,h4,_⟩
      · obtain ⟨h0,c,c',e,h3,h4⟩:=h1;exact .inr ⟨h0,c,c',e,h2.symm.trans h3,h4⟩
      · obtain ⟨_,d,d',e',h5,h6,h7,h8⟩:=h1;rw [h3] at h5;cases h5;exact .inr ⟨h0,c,d',e,h2,h6,h7.trans h4,h8⟩
  mem b h:=(y.mem b h).elim (fun h=>x.mem b h) (fun h=>.inr (Nat.le_trans x.size h))
  kB b e h hn:=by
    obtain ⟨⟨e1,h1⟩,e2⟩:=y.kB b e h (fun h=>hn (.inr h));obtain ⟨⟨e3,h3⟩,e4⟩:=x.kB b e1 h1 (fun h=>hn (.inl h));exact ⟨⟨e3,h3⟩,e2.trans e4⟩
  kH id h hh hn:=by
    obtain ⟨h1,hh1,a1,a2,a3⟩:=y.kH id h hh (fun h=>hn (.inr h));obtain ⟨h2,hh2,b1,b2,b3⟩:=x.kH id h1 hh1 (fun h=>hn (.inl h));exact ⟨h2,hh2,a1.trans b1,a2.trans b2,fun hx=>(a3 (by rw [b2];exact hx)).trans (b3 hx)⟩
theorem Ext.weaken {new2:Nat→Prop} (x:Ext P n0 new β σ s w β' σ' s' w') (h:∀ n,new n→new2 n):Ext P n0 new2 β σ s w β' σ' s' w' :=
 { x with kB:=fun b e hb hn=>x.kB b e hb (fun k=>hn (h _ k)),kH:=fun id e hb hn=>x.kH id e hb (fun k=>hn (h _ k)) }
structure Sub (s s':St0 E N):Prop where
 b:∀ n e',s'.getB n=some e'→∃ e,s.getB n=some e∧e'.cs=e.cs
 h:∀ n h',s'.getH n=some h'→∃ h,s.getH n=some h∧h'.e=h.e∧h'.l=h.l∧h'.nw=h.nw∧(h'.frozen=false→h.frozen=false)
theorem Sub.inM (x:Sub s s') {b:Nat} (h:InM β σ s' b):InM β σ s b:=by
 rcases h with ⟨n,e,he,hb⟩ | ⟨id,h,cap,hh,hf,hs⟩
 ·obtain ⟨e0,h0,_⟩:=x.b n e he;exact .inl ⟨n,e0,h0,hb⟩
 ·obtain ⟨h0,hh0,_,_,_,hf0⟩:=x.h id h hh;exact .inr ⟨id,h0,cap,hh0,hf0 hf,hs⟩
theorem Sub.ext (x:Sub s s') (P:Program) (n0:Nz) (new:Nat→Prop) (β:Nat→Option Nat) (σ:Nat→Option (Nat×Nat)) (w:World):Ext P n0 new β σ s w β σ s' w where
 os:=rfl
 tape:=rfl
 output:=rfl
 size:=Nat.le_refl _
 frame _ _ _:=.inl rfl
 mem b h:=.inl (x.inM h)
 kB n e h _:=by obtain ⟨e0,h0,_⟩:=x.b n e h;exact ⟨⟨e0,h0⟩,rfl⟩
 kH n e h _:=by obtain ⟨h0,hh0,h1,h2,_⟩:=x.h n e h;exact ⟨h0,hh0,rfl,h1,fun _=>by rw [h2]⟩
theorem Sub.mem (x:Sub s s') (m:Mem P n0 β σ s w):Mem P n0 β σ s' w where
 B n e h:=by
  obtain ⟨e0,h0,hc⟩:=x.b n e h;obtain ⟨blk,cells,el,hb,hh,hr,hbh⟩:=m.B n e0 h0;exact ⟨blk,cells,el,hb,hh,(x.ext P n0 (fun _=>False) β σ w).relCs (fun _ _=>id) (by rw [hc];exact hr),by rw [hc];exact hbh⟩
 H n e h:=by
  obtain ⟨h0,hh0,h1,h2,h3,h4⟩:=x.h n e h
  rcases m.H n h0 hh0 with ⟨t,ts,ht,hts,hr,hm⟩ | hM
  case inr=>exact .inr (hM.view h1 h2 rfl (fun _ _ _=>rfl) (fun _ _ _ ho=>by rw [h3];exact ho))
  refine .inl ⟨t,ts,by rw [h1];exact ht,by rw [h1];exact hts,by rw [h2];exact hr,?_⟩
  rcases hm with ⟨ha,hb⟩ | ⟨blk,cap,cells,el,ha,hb,hel,hc,hd,he,v,hv,hrep⟩
  ·exact .inl ⟨ha,by rw [h2];exact hb⟩
  ·refine .inr ⟨blk,cap,cells,el,ha,hb,by rw [h1];exact hel,hc,by rw [h2];exact hd,by rw [h3];exact he,v,by rw [h2];exact hv,fun i j t' hi hj=>?_⟩;rw [h2] at hi ⊢;rw [h3];exact (x.ext P n0 (fun _=>False) β σ w).rep (hrep i j t' hi hj)
 uB b b' e e' blk h h' hb hb':=by
  obtain ⟨e0,h0,_⟩:=x.b b e h;obtain ⟨e1,h1,_⟩:=x.b b' e' h';exact m.uB b b' e0 e1 blk h0 h1 hb hb'
 uH b b' e e' blk cap cap' h h' hb hb':=by
  obtain ⟨e0,h0,_⟩:=x.h b e h;obtain ⟨e1,h1,_⟩:=x.h b' e' h';exact m.uH b b' e0 e1 blk cap cap' h0 h1 hb hb'
 uX b e id h blk cap hb hh h1 h2:=by
  obtain ⟨e0,h0,_⟩:=x.b b e hb;obtain ⟨h3,hh3,_⟩:=x.h id h hh;exact m.uX b e0 id h3 blk cap h0 hh3 h1 h2
theorem Sub.of_same (hb:∀ n,s'.getB n=s.getB n) (hh:∀ n,s'.getH n=s.getH n):Sub s s' :=
 ⟨fun n e h=>⟨e,by rw [← hb];exact h,rfl⟩,fun n e h=>⟨e,by rw [← hh];exact h,rfl,rfl,rfl,id⟩⟩
end
end
theorem AE {a b:Nat}:Nat.beq a b=true↔a=b:=by
 constructor
 ·exact Nat.eq_of_beq_eq_true
 ·rintro rfl;exact Nat.beq_refl a
theorem Br {a b:Nat}:Nat.beq a b=false↔a≠b:=by
 rw [← Bool.not_eq_true,AE]
theorem Bv {a b:Nat}:Nat.blt a b=true↔a<b:=by
 unfold Nat.blt;rw [Nat.ble_eq];omega
theorem TM.get_set {α : Type} : ∀ (d : Nat) (t : TM α) (k j : Nat) (v : Option α), k < 2 ^ d → j < 2 ^ d →
    TM.get d (TM.set d t k v) j=if j=k then v else TM.get d t j
  | 0,t,k,j,v,hk,hj=>by
    have h1:k=0:=by omega
    have h2:j=0:=by omega
    subst h1;subst h2;cases v<;>simp [TM.set,TM.get]
  | d+1,t,k,j,v,hk,hj=>by
    have hk2:k / 2<2 ^ d:=by rw [Nat.pow_succ] at hk;omega
    have hj2:j / 2<2 ^ d:=by rw [Nat.pow_succ] at hj;omega
    have ih:=fun t=>TM.get_set d t (k / 2) (j / 2) v hk2 hj2
    have hget : TM.get (d + 1) t j = match Nat.beq (j % 2) 0 with
        | true=>TM.get d t.kids.1 (j / 2)
        | false=>TM.get d t.kids.2 (j / 2):=by
      cases t with
      | node l r=>rfl
      | e=>cases d<;>simp [TM.get,TM.kids]<;>split<;>rfl
      | leaf a=>cases d<;>simp [TM.get,TM.kids]<;>split<;>rfl
    rw [hget];simp only [TM.set]
    rcases hb:Nat.beq (k % 2) 0 with _ | _<;>rcases hc:Nat.beq (j % 2) 0 with _ | _
    all_goals simp only [TM.get,hc,ih]
    all_goals first
      | (have e1 := AE.1 hb; have e2 := Br.1 hc; have : j ≠ k := by intro h; subst h; omega
         rw [if_neg this])
      | (have e1 := Br.1 hb; have e2 := AE.1 hc; have : j ≠ k := by intro h; subst h; omega
         rw [if_neg this])
      | (by_cases hjk : j = k
         · subst hjk;simp
         · have e1 : j / 2 ≠ k / 2 := by
             intro h;have x1:=hb;have x2:=hc
             first
               | (have:=AE.1 x1;have:=AE.1 x2;omega)
               | (have:=Br.1 x1;have:=Br.1 x2;omega)
           rw [if_neg e1,if_neg hjk])
theorem EW {α : Type} (t : TM α) (k j : Nat) (v : Option α) :
    Dc (GH t k v) j=if j=k∧k<ED then v else Dc t j:=by
  unfold GH Dc
  rcases h1:Nat.blt j ED with _ | _
  · have : ¬ (j = k ∧ k < ED) := by
      rintro ⟨rfl,h⟩;rw [← Bv,h1] at h;exact Bool.noConfusion h
    rw [if_neg this]
  · rcases h2:Nat.blt k ED with _ | _
    · have : ¬ (j = k ∧ k < ED) := by
        rintro ⟨rfl,h⟩;rw [h1] at h2;exact Bool.noConfusion h2
      rw [if_neg this]
    · have hk:=Bv.1 h2;have hj:=Bv.1 h1;simp only [];rw [TM.get_set Po t k j v (by simpa [ED,Po] using hk) (by simpa [ED,Po] using hj)];simp [hk]
theorem TM.get_e {α:Type} (d k:Nat):TM.get d (TM.e:TM α) k=none:=by cases d<;>rfl
theorem Wx {α:Type} (k:Nat):Dc (TM.e:TM α) k=none:=by
 unfold Dc;split
 ·exact TM.get_e _ _
 ·rfl
theorem V8 {α:Type}:∀ (l:List (Nat×α)) (k j:Nat),AM (Xo l k) j=if j=k then none else AM l j
 | [],k,j=>by simp [Xo,AM]
 | (i,a)::l,k,j=>by
  have ih:=V8 l k j;simp only [Xo]
  rcases h:Nat.beq i k with _ | _
  ·have hik:=Br.1 h;simp only [AM]
   rcases h2:Nat.beq i j with _ | _
   ·exact ih
   ·have:=AE.1 h2;rw [if_neg (by omega)]
  ·have hik:=AE.1 h;simp only [AM,ih]
   by_cases hjk:j=k
   ·rw [if_pos hjk,if_pos hjk]
   ·rw [if_neg hjk,if_neg hjk,Br.2 (by omega)]
theorem BQ {α:Type} (l:List (Nat×α)) (k j:Nat) (v:Option α):AM (Ol l k v) j=if j=k then v else AM l j:=by
 cases v with
 | none=>simp only [Ol];exact V8 l k j
 | some a =>
  simp only [Ol,AM]
  rcases h:Nat.beq k j with _ | _
  ·have:=Br.1 h;rw [V8,if_neg (by omega),if_neg (by omega)]
  ·have:=AE.1 h;rw [if_pos this.symm]
theorem Tr {α:Type} (p:Nat→Bool):∀ (l:List (Nat×α)) (k:Nat),AM (l.filter fun x=>p x.1) k=if p k then AM l k else none
 | [],k=>by simp [AM]
 | (i,a)::l,k=>by
  have ih:=Tr p l k;simp only [List.filter_cons]
  rcases hp:p i with _ | _
  ·simp only [Bool.false_eq_true,if_false,ih,AM]
   rcases h:Nat.beq i k with _ | _
   ·rfl
   ·have:=AE.1 h;subst this;simp [hp]
  ·simp only [if_true,AM]
   rcases h:Nat.beq i k with _ | _
   ·exact ih
   ·have:=AE.1 h;subst this;simp [hp]
theorem Uk {α β:Type} (f:α→β):∀ (l:List (Nat×α)) (k:Nat),AM (l.map fun (n,a)=>(n,f a)) k=(AM l k).map f
 | [],k=>rfl
 | (i,a)::l,k=>by
  have ih:=Uk f l k;simp only [List.map_cons,AM]
  rcases h:Nat.beq i k with _ | _
  ·exact ih
  ·rfl
theorem IL {α : Type} : ∀ (l r : List (Nat × α)) (k : Nat), AM (l ++ r) k = match AM l k with
    | some a=>some a
    | none=>AM r k
  | [],r,k=>rfl
  | (i,a)::l,r,k=>by
    have ih:=IL l r k;simp only [List.cons_append,AM]
    rcases h:Nat.beq i k with _ | _
    · exact ih
    · rfl
theorem ZJ {α:Type}:∀ {l:List (Nat×α)} {k:Nat} {a:α},AM l k=some a→(k,a)∈l
 | (i,b)::l,k,a,h=>by
  simp only [AM] at h
  rcases hb:Nat.beq i k with _ | _
  ·rw [hb] at h;exact zzm _ (ZJ h)
  ·rw [hb] at h;have:=AE.1 hb;subst this;cases h;exact zzl
 | [],k,a,h=>by simp [AM] at h
theorem DL {n:Nat}:∀ {l:List Nat},C1 n l=true↔n∈l
 | []=>by simp [C1]
 | m::l=>by
  simp only [C1]
  rcases h:Nat.beq n m with _ | _
  ·rw [DL,List.mem_cons];have:=Br.1 h;simp [this]
  ·have:=AE.1 h;simp [this]
theorem JU:∀ {a b:List Nat},AQ a b=true↔a=b
 | [],[]=>by simp [AQ]
 | a::l,b::r=>by
  simp only [AQ]
  rcases h:Nat.beq a b with _ | _
  ·have:=Br.1 h;simp [this]
  ·have:=AE.1 h;simp [this,JU]
 | [],_::_=>by simp [AQ]
 | _::_,[]=>by simp [AQ]
theorem Hb {a b:IntKind}:Tm a b=true↔a=b:=by cases a<;>cases b<;>simp [Tm]
theorem ZX {α:Type}:∀ (ws:List (Nat×Option α)) (l:List (Nat×α)) (k:Nat),(∀ x∈ws,x.1≠k)→AM (BK l ws) k=AM l k
 | [],l,k,h=>rfl
 | (n,v)::r,l,k,h=>by
  simp only [BK];rw [ZX r _ k (fun x hx=>h x (zzm _ hx)),BQ,if_neg];have:=h (n,v) zzl;exact fun e=>this e.symm
theorem E9 {α:Type}:∀ (a b:List (Nat×Option α)) (l:List (Nat×α)),BK l (a++b)=BK (BK l a) b
 | [],b,l=>rfl
 | (n,v)::r,b,l=>by simp only [List.cons_append,BK];exact E9 r b _
section
variable {O:Alg} {α β:Type} {s:State O}
theorem zzi (x : RM O α) (f : α → RM O β) : ∀ (m : Nat), RM.run s (x.bind f) m = match RM.run s x m with
    | .ok (a,m')=>RM.run s (f a) m'
    | .error e=>.error e:=by
  induction x with
  | ret a=>intro m;rfl
  | fail w=>intro m;rfl
  | t n g ih=>intro m;simp only [RM.bind,RM.run];exact ih _ _
  | b n g ih=>intro m;simp only [RM.bind,RM.run];exact ih _ _
  | h n g ih=>intro m;simp only [RM.bind,RM.run];exact ih _ _
theorem zza {x : RM O α} {f : α → RM O β} {m m' : Nat} {b : β} (h : RM.run s (x.bind f) m = .ok (b, m')) :
    ∃ a m1,RM.run s x m=.ok (a,m1)∧RM.run s (f a) m1=.ok (b,m'):=by
  rw [zzi] at h;cases hx:RM.run s x m with
  | error e=>rw [hx] at h;cases h
  | ok p=>obtain ⟨a,m1⟩:=p;rw [hx] at h;exact ⟨a,m1,rfl,h⟩
theorem zzc {a b:α} {m m':Nat} (h:RM.run s (RM.ret a:RM O α) m=.ok (b,m')):a=b:=by
 simp only [RM.run,Except.ok.injEq,Prod.mk.injEq] at h;exact h.1
theorem zzb {w:String} {b:α} {m m':Nat} (h:RM.run s (RM.fail w:RM O α) m=.ok (b,m')):False:=by
 simp [RM.run] at h
theorem zzd {b:Bool} {w:String} {u:Unit} {m m':Nat} (h:RM.run s (RM.guard b w) m=.ok (u,m')):b=true:=by
 cases b
 ·exact (zzb h).elim
 ·rfl
theorem zzh {x:Option α} {w:String} {a:α} {m m':Nat} (h:RM.run s (RM.ofOpt w x) m=.ok (a,m')):x=some a:=by
 cases x with
 | none=>exact (zzb h).elim
 | some b=>exact congrArg some (zzc h)
theorem zze {n:Nat} {f:Option (TV O)→RM O α} {a:α} {m m':Nat} (h:RM.run s (RM.t n f) m=.ok (a,m')):∃ m1,RM.run s (f (s.getT n)) m1=.ok (a,m') :=
 ⟨_,h⟩
theorem zzg {n:Nat} {f:Option (BEnt O)→RM O α} {a:α} {m m':Nat} (h:RM.run s (RM.b n f) m=.ok (a,m')):∃ m1,RM.run s (f (s.getB n)) m1=.ok (a,m') :=
 ⟨_,h⟩
theorem zzf {n:Nat} {f:Option (HEnt O)→RM O α} {a:α} {m m':Nat} (h:RM.run s (RM.h n f) m=.ok (a,m')):∃ m1,RM.run s (f (s.getH n)) m1=.ok (a,m') :=
 ⟨_,h⟩
end
section
variable {O:Alg} (s:State O)
theorem State.getT_apply1 (d : Nat) (v : Option (TV O)) (w : Wr O) (hw : w.ts = [(d, v)]) (n : Nat) :
    (s.apply w).getT n=if n=d∧d<ED then v else s.getT n:=by
  unfold State.apply State.getT;rw [hw];simp only [State.applyT];exact EW _ _ _ _
theorem State.getT_apply0 (w:Wr O) (hw:w.ts=[]) (n:Nat):(s.apply w).getT n=s.getT n:=by
 unfold State.apply State.getT;rw [hw];rfl
theorem State.getB_apply0 (w:Wr O) (hw:w.bs=[]) (n:Nat):(s.apply w).getB n=s.getB n:=by
 unfold State.apply State.getB;rw [hw];rfl
theorem State.getB_apply1 (b : Nat) (v : Option (BEnt O)) (w : Wr O) (hw : w.bs = [(b, v)]) (n : Nat) :
    (s.apply w).getB n=if n=b then v else s.getB n:=by
  unfold State.apply State.getB;rw [hw];exact BQ _ _ _ _
theorem State.getH_apply0 (w:Wr O) (hw:w.hs=[]) (n:Nat):(s.apply w).getH n=s.getH n:=by
 unfold State.apply State.getH;rw [hw];rfl
end
section
variable {E:Env} {N:Nat} {P:Program} {n0:Nz} {nt:Nat} {β:Nat→Option Nat} {σ:Nat→Option (Nat×Nat)} {s:St0 E N} {a:Act} {w:World}
theorem oJ:∀ {gs ctx:List (Nat×Bool)},dg gs ctx=true→∀ x∈gs,x∈ctx
 | [],_,_,x,hx=>by simp at hx
 | (n,b)::r,ctx,h,x,hx=>by
  simp only [dg] at h
  split at h
  ·rename_i hany
   rcases List.mem_cons.1 hx with rfl | hx
   ·rw [List.any_eq_true] at hany;obtain ⟨⟨m,c⟩,hm,he⟩:=hany;simp only [zzj,beq_iff_eq] at he;have:=AE.1 he.1;rw [this,he.2];exact hm
   ·exact oJ h x hx
  ·cases h
theorem Facts.of_in {gs ctx:List (Nat×Bool)} (h:dg gs ctx=true) (hf:Facts a ctx):Facts a gs :=
 fun n b hm=>hf n b (oJ h _ hm)
theorem gd {t:TypeId} {v:Value} {c:AC0 E N} (h:Wd P t v=some c):RelC P n0 β σ s w c v∧c.names=[]∧v.oneCell'=true:=by
 unfold Wd at h
 split at h
 ·rename_i k k' n hk
  split at h
  ·rename_i hkk;cases h;exact ⟨by simp only [RelC];rw [Hb.1 hkk],rfl,rfl⟩
  ·cases h
 ·rename_i b hk;cases h;cases b<;>exact ⟨rfl,rfl,rfl⟩
 ·rename_i x hk;cases h;exact ⟨rfl,rfl,rfl⟩
 ·rename_i e hk
  split at h
  ·rename_i ts hts;cases h;exact ⟨⟨t,ts,hk,hts,none,rfl⟩,rfl,rfl⟩
  ·cases h
 ·cases h;exact ⟨rfl,rfl,rfl⟩
 ·rename_i hk;cases h;exact ⟨⟨t,hk,.opq (len:=0) hk (Nat.le_refl _) (.inl rfl)⟩,rfl,rfl⟩
 ·cases h
theorem dF:∀ {ts:List TypeId} {vs:List Value} {cs:List (AC0 E N)},Lr P ts vs=some cs→RelCs P n0 β σ s w cs vs∧AH cs=[]∧cs.length=ts.length∧∀ v∈vs,v.oneCell'=true
 | [],[],cs,h=>by cases h;exact ⟨trivial,rfl,rfl,by simp⟩
 | t::ts,v::vs,cs,h=>by
  simp only [Lr] at h
  split at h
  ·rename_i c r hc hr;cases h;obtain ⟨r1,n1,o1⟩:=gd (n0:=n0) (β:=β) (σ:=σ) (s:=s) (w:=w) hc;obtain ⟨r2,n2,l2,o2⟩:=dF hr;exact ⟨⟨r1,r2⟩,by simp [AH,n1,n2],by simp [l2],fun x hx=>(List.mem_cons.1 hx).elim (fun e=>e▸o1) (o2 x)⟩
  ·cases h
 | [],_::_,_,h=>by simp [Lr] at h
 | _::_,[],_,h=>by simp [Lr] at h
theorem fm {t : TypeId} {v : Value} {x : Val (std E N)} (h : RJ P t v = some x) :
    RelVal P n0 β σ s w x v∧AH x.cs=[]∧∀ u∈v.cells.toList,u.oneCell'=true:=by
  unfold RJ at h
  split at h
  · rename_i cs
    split at h
    · rename_i ts hts
      split at h
      · rename_i l hl;cases h;obtain ⟨r,n,_,o⟩:=dF (n0:=n0) (β:=β) (σ:=σ) (s:=s) (w:=w) hl;exact ⟨⟨r,cs,rfl⟩,n,o⟩
      · cases h
    · cases h
  · rename_i hna
    split at h
    · rename_i c hc;cases h;obtain ⟨r,n,o⟩:=gd (n0:=n0) (β:=β) (σ:=σ) (s:=s) (w:=w) hc;have hcells:v.cells=#[v]:=by cases v<;>first | rfl | (exact (hna _ rfl).elim)
      exact ⟨⟨by rw [hcells];exact ⟨r,trivial⟩,o⟩,by simp [AH,n],by rw [hcells];simpa using o⟩
    · cases h
theorem Fresh.av {n:Nat} (hf:Fresh a s n) {k:Nat} {tv:TV (std E N)} (h:s.getT k=some tv) (hg:Facts a tv.gs):n∉tv.v.names:=hf.t k tv h hg
theorem VQ {ctx : List (Nat × Bool)} {T : TypeId} {x : Operand} {v : AV (std E N)} {m m' : Nat} (hs : Sim P n0 nt β σ s a w) (hf : Facts a ctx)
    (h:RM.run s (ev P ctx T x) m=.ok (v,m')):RelAV P n0 β σ s w v (a.eval x)∧∀ n,Fresh a s n→n∉v.names:=by
  cases x with
  | tmp k =>
    obtain ⟨m1,h⟩:=zze h;cases hg:s.getT k with
    | none=>rw [hg] at h;exact (zzb h).elim
    | some tv =>
      rw [hg] at h;simp only at h
      split at h
      · rename_i hin;cases zzc h;refine ⟨?_,fun n hn=>hn.t k tv hg (hf.of_in hin)⟩
        rcases hs.T k tv hg with ⟨_,hr⟩ | ⟨hnf,_⟩
        · exact hr
        · exact (hnf (hf.of_in hin)).elim
      · exact (zzb h).elim
  | const c =>
    simp only [ev] at h;cases hx:RJ (O:=std E N) P T c with
    | some x =>
      rw [hx] at h;cases zzc h;obtain ⟨r,n,_⟩:=fm (n0:=n0) (β:=β) (σ:=σ) (s:=s) (w:=w) hx;exact ⟨r,fun k _=>by simp [AV.names,n]⟩
    | none=>rw [hx] at h;exact (zzb h).elim
  | func f =>
    unfold ev at h;cases zzc h;exact ⟨⟨⟨⟨[],rfl,rfl,by simp⟩,trivial⟩,rfl⟩,fun k _=>by simp [AV.names,one,AH,AC.names,JI]⟩
  | global g=>exact (zzb h).elim
theorem MK {ctx : List (Nat × Bool)} {T : TypeId} {x : Operand} {v : Val (std E N)} {m m' : Nat} (hs : Sim P n0 nt β σ s a w) (hf : Facts a ctx)
    (h:RM.run s (evV P ctx T x) m=.ok (v,m')):RelVal P n0 β σ s w v (a.eval x)∧∀ n,Fresh a s n→n∉AH v.cs:=by
  obtain ⟨y,m1,h1,h2⟩:=zza h;obtain ⟨r,n⟩:=VQ hs hf h1;cases y with
  | val u=>cases zzc h2;exact ⟨r,n⟩
  | tup us=>exact (zzb h2).elim
theorem Bf {v:Value} (h:v.oneCell'=true):v.cells=#[v]:=by cases v<;>first | rfl | (simp [Value.oneCell'] at h)
theorem C5 {ctx : List (Nat × Bool)} {T : TypeId} {x : Operand} {c : AC0 E N} {m m' : Nat} (hs : Sim P n0 nt β σ s a w) (hf : Facts a ctx)
    (h:RM.run s (evC P ctx T x) m=.ok (c,m')):RelC P n0 β σ s w c (a.eval x)∧(a.eval x).oneCell'=true∧∀ n,Fresh a s n→n∉c.names:=by
  obtain ⟨y,m1,h1,h2⟩:=zza h;obtain ⟨r,n⟩:=MK hs hf h1;obtain ⟨ag,cs⟩:=y
  split at h2
  · rename_i c1 hag hcs;simp only at hag hcs;subst hag;subst hcs;cases zzc h2;obtain ⟨r1,r2⟩:=r;simp only at r2;rw [Bf r2] at r1;exact ⟨r1.1,r2,fun k hk=>by have:=n k hk;simpa [AH] using this⟩
  · exact (zzb h2).elim
theorem RelC.one {c:AC0 E N} {v:Value} (h:RelC P n0 β σ s w c v):v.oneCell'=true:=by
 cases c with
 | int k i=>have h':v=_:=h;subst h';rfl
 | bool b=>have h':v=_:=h;subst h';rfl
 | str x=>have h':v=_:=h;subst h';rfl
 | nil e=>obtain ⟨_,_,_,_,x,rfl⟩:=h;rfl
 | imm e nw l=>obtain ⟨t,ht,hr⟩:=h;cases hr;rfl
 | own e id=>obtain ⟨⟨_,_,x,y,z,rfl⟩,_⟩:=h;rfl
 | ptr b off=>obtain ⟨blk,rfl,_⟩:=h;rfl
 | aptr b off n sz i inner=>obtain ⟨_,_,blk,rfl,_⟩:=h;rfl
 | eptr id i off=>obtain ⟨_,blk,o,rfl,_⟩:=h;rfl
 | iptr e nw l i off=>obtain ⟨_,_,_,_,_,_,_,_,_,_,_,rfl⟩:=h;rfl
 | fn f caps=>obtain ⟨vs,rfl,_⟩:=h;rfl
 | nilptr=>have h':v=_:=h;subst h';rfl
 | tail e id i=>obtain ⟨_,⟨_,_,x,y,z,rfl⟩,_⟩:=h;rfl
 | mp e id=>obtain ⟨⟨_,r,rfl⟩,_⟩:=h;rfl
 | any T=>exact h
 | opq nw n=>obtain ⟨t,ht,hr⟩:=h;cases hr<;>rfl
 | qlit b n=>obtain ⟨blk,rfl,_⟩:=h;rfl
theorem RelCs.one:∀ {cs:List (AC0 E N)} {vs:List Value},RelCs P n0 β σ s w cs vs→∀ v∈vs,v.oneCell'=true
 | [],[],_,v,hv=>by simp at hv
 | c::cs,x::vs,h,v,hv=>by
  rcases List.mem_cons.1 hv with rfl | hv
  ·exact RelC.one h.1
  ·exact RelCs.one h.2 v hv
 | [],_::_,h,_,_=>h.elim
 | _::_,[],h,_,_=>h.elim
theorem RelCs.length:∀ {cs:List (AC0 E N)} {vs:List Value},RelCs P n0 β σ s w cs vs→cs.length=vs.length
 | [],[],_=>rfl
 | c::cs,x::vs,h=>by simp [RelCs.length h.2]
 | [],_::_,h=>h.elim
 | _::_,[],h=>h.elim
theorem RelCs.get:∀ {cs:List (AC0 E N)} {vs:List Value},RelCs P n0 β σ s w cs vs→∀ (i:Nat) (c:AC0 E N) (v:Value),cs[i]?=some c→vs[i]?=some v→RelC P n0 β σ s w c v
 | c::cs,x::vs,h,0,c',v,hc,hv=>by simp at hc hv;subst hc;subst hv;exact h.1
 | c::cs,x::vs,h,i+1,c',v,hc,hv=>RelCs.get h.2 i c' v (by simpa using hc) (by simpa using hv)
 | [],_,_,i,c',v,hc,_=>by simp at hc
 | _::_,[],h,_,_,_,_,_=>h.elim
theorem Wv {ctx : List (Nat × Bool)} {x : Operand} {i : Int} {m m' : Nat} (hs : Sim P n0 nt β σ s a w) (hf : Facts a ctx)
    (h:RM.run s (evI (O:=std E N) ctx x) m=.ok (i,m')):∃ k,a.eval x=.int k i:=by
  cases x with
  | tmp k =>
    obtain ⟨m1,h⟩:=zze h;cases hg:s.getT k with
    | none=>rw [hg] at h;exact (zzb h).elim
    | some tv =>
      rw [hg] at h;simp only at h
      split at h
      · rename_i k' i' hin hv;cases zzc h
        rcases hs.T k tv hg with ⟨_,hr⟩ | ⟨hnf,_⟩
        · rw [hv] at hr;obtain ⟨r1,r2⟩:=hr;simp only at r2;rw [Bf r2] at r1;exact ⟨k',r1.1⟩
        · exact (hnf (hf.of_in hin)).elim
      · exact (zzb h).elim
  | const c =>
    unfold evI at h
    split at h
    · rename_i k n hc;cases hc;cases zzc h;exact ⟨_,rfl⟩
    · rename_i hx;cases hx
    · exact (zzb h).elim
  | func f=>exact (zzb h).elim
  | global g=>exact (zzb h).elim
theorem U8 : ∀ {gs : List (Nat × Bool)} {g : Option Bool} {m m' : Nat}, Sim P n0 nt β σ s a w → Facts a gs →
    RM.run s (WR (O:=std E N) gs) m=.ok (g,m')→∀ b,g=some b→b=true
  | [],g,m,m',hs,hf,h,b,hb=>by cases zzc h;cases hb
  | (n,want)::r,g,m,m',hs,hf,h,b,hb=>by
    obtain ⟨m1,h⟩:=zze h;cases hg:s.getT n with
    | none=>rw [hg] at h;exact (zzb h).elim
    | some tv =>
      rw [hg] at h;simp only at h
      split at h
      · rename_i gs' b' heq;cases heq;obtain ⟨g1,m2,h1,h2⟩:=zza h;have ih:=U8 hs (fun n b hm=>hf n b (zzm _ hm)) h1;have hn:a.tmps.getD n undef=.bool want:=hf n want zzl;have hb':b'=want:=by
          rcases hs.T n _ hg with ⟨_,hr⟩ | ⟨_,hu⟩
          · obtain ⟨r1,r2⟩:=hr;simp only at r2;rw [Bf r2] at r1;have e:a.tmps.getD n undef=.bool b':=r1.1;rw [hn] at e;cases e;rfl
          · rw [hu] at hn;cases hn
        have e2:=zzc h2;rw [hb] at e2;subst hb';cases b'<;>cases g1<;>simp_all
      · exact (zzb h).elim
end
section
variable {E:Env} {N:Nat} {P:Program} {n0:Nz} {nt:Nat} {β:Nat→Option Nat} {σ:Nat→Option (Nat×Nat)} {s:St0 E N} {a:Act} {w:World}
theorem RelCs.take:∀ {cs:List (AC0 E N)} {vs:List Value} (n:Nat),RelCs P n0 β σ s w cs vs→RelCs P n0 β σ s w (cs.take n) (vs.take n)
 | cs,vs,0,h=>by simp [RelCs]
 | [],[],n+1,h=>by simp [RelCs]
 | c::cs,v::vs,n+1,h=>⟨h.1,RelCs.take n h.2⟩
 | [],_::_,_+1,h=>h.elim
 | _::_,[],_+1,h=>h.elim
theorem RelCs.drop:∀ {cs:List (AC0 E N)} {vs:List Value} (n:Nat),RelCs P n0 β σ s w cs vs→RelCs P n0 β σ s w (cs.drop n) (vs.drop n)
 | cs,vs,0,h=>h
 | [],[],n+1,h=>by simp [RelCs]
 | c::cs,v::vs,n+1,h=>RelCs.drop n h.2
 | [],_::_,_+1,h=>h.elim
 | _::_,[],_+1,h=>h.elim
theorem RelCs.append:∀ {cs cs':List (AC0 E N)} {vs vs':List Value},RelCs P n0 β σ s w cs vs→RelCs P n0 β σ s w cs' vs'→RelCs P n0 β σ s w (cs++cs') (vs++vs')
 | [],_,[],_,_,h=>h
 | c::cs,_,v::vs,_,h,h'=>⟨h.1,RelCs.append h.2 h'⟩
 | [],_,_::_,_,h,_=>h.elim
 | _::_,_,[],_,h,_=>h.elim
theorem Dv {α:Type} {l r:List α} {off n:Nat} (h:Gc l off n=some r):r=(l.drop off).take n∧r.length=n:=by
 unfold Gc at h;simp only at h
 split at h
 ·rename_i hb;cases h;exact ⟨rfl,AE.1 hb⟩
 ·cases h
theorem Bb:∀ {cs:List (AC0 E N)} {n:Nat},n∈AH cs↔∃ c∈cs,n∈c.names
 | [],n=>by simp [AH]
 | c::cs,n=>by simp [AH,Bb]
theorem nM {cs:List (AC0 E N)} {n k:Nat} (h:n∈AH (cs.take k)):n∈AH cs:=by
 rw [Bb] at *;obtain ⟨c,hc,hn⟩:=h;exact ⟨c,List.mem_of_mem_take hc,hn⟩
theorem pF {cs:List (AC0 E N)} {n k:Nat} (h:n∈AH (cs.drop k)):n∈AH cs:=by
 rw [Bb] at *;obtain ⟨c,hc,hn⟩:=h;exact ⟨c,List.mem_of_mem_drop hc,hn⟩
theorem Eu {cs r:List (AC0 E N)} {off k n:Nat} (h:Gc cs off k=some r) (hn:n∈AH r):n∈AH cs:=by
 rw [(Dv h).1] at hn;exact pF (nM hn)
theorem Cw {t:TypeId} {ts:List TypeId} (h:AW P t=some ts):P.cellsOf t=ts.length∧0<ts.length:=by
 unfold AW at h
 split at h
 ·split at h
  ·rename_i hb;cases h;simp only [zzj] at hb;exact ⟨(AE.1 hb.1).symm,Bv.1 hb.2⟩
  ·cases h
 ·cases h
theorem D7 {t:TypeId} (h:0<P.cellsOf t):∃ i,P.info? t=some i:=by
 unfold Program.cellsOf at h;cases hi:P.info? t with
 | none=>simp [hi] at h
 | some i=>exact ⟨i,rfl⟩
theorem C2 {t:TypeId} {d:TypeDesc} (h:P.underlying t=some d):∃ i,P.info? t=some i:=by
 unfold Program.underlying at h;cases hi:P.info? t with
 | none=>simp [hi] at h
 | some i=>exact ⟨i,rfl⟩
theorem BS {t:TypeId} {i:TypeInfo} (h:P.info? t=some i):(sizeOf t).run P w=.ok (P.cellsOf t) w:=by
 simp [sizeOf,typeInfo,h,Program.cellsOf]
theorem Gv {t:TypeId} {d:TypeDesc} (h:P.underlying t=some d):(isAgg t).run P w=.ok (Ad P t) w:=by
 unfold isAgg Ad;simp only [Sem.run_bind,run_underlying h,Result.andThen_ok,h];cases d<;>rfl
theorem ABK {b:Bool} {e e2:TypeId} (h:slK b e=.sl e2):e=e2:=by
 cases b with
 | true=>cases h
 | false=>cases h;rfl
theorem VL (b:Bool) (e:TypeId):slK b e=.opq∨slK b e=.sl e:=by cases b;exact .inr rfl;exact .inl rfl
theorem zK {t e:TypeId}:(AL P t=.sl e→P.underlying t=some (.slice e))∧True:=⟨by
 intro h;unfold AL at h
 split at h<;>try cases h
 rename_i hu;rw [hu,ABK h],trivial⟩
theorem QD {t e:TypeId} (h:Oy P t=some e):P.underlying t=some (.slice e):=by
 unfold Oy at h
 split at h
 ·rename_i hu
  split at h
  ·cases h
  ·cases h;exact hu
 ·cases h
theorem CL {t e:TypeId} (h:Oy P t=some e):AL P t=.sl e:=by
 unfold Oy at h
 split at h
 ·rename_i hu
  split at h
  ·cases h
  ·rename_i hq;cases h;unfold AL;rw [hu];show slK (FX P e) e=_;rw [hq];rfl
 ·cases h
theorem dM {t:TypeId} {k:IntKind} (h:AL P t=.int k):P.underlying t=some (.int k):=by
 unfold AL at h;split at h<;>first | (rename_i e _;rcases VL (FX P e) e with h2 | h2<;>rw [h2] at h<;>cases h;done) | simp_all
theorem ul {t:TypeId} (h:AL P t=.bool):P.underlying t=some .bool:=by
 unfold AL at h;split at h<;>first | (rename_i e _;rcases VL (FX P e) e with h2 | h2<;>rw [h2] at h<;>cases h;done) | simp_all
theorem XO {t:TypeId} (h:AL P t=.str):P.underlying t=some .string:=by
 unfold AL at h;split at h<;>first | (rename_i e _;rcases VL (FX P e) e with h2 | h2<;>rw [h2] at h<;>cases h;done) | simp_all
theorem zp {St:Blk→Prop} {t:TypeId} {v:Value} {p:PV} {k:IntKind} (h:Rep P w St t v p) (hk:AL P t=.int k):v=.int k (pvI p):=by
 cases h<;>simp_all
theorem xw {St:Blk→Prop} {t:TypeId} {v:Value} {p:PV} (h:Rep P w St t v p) (hk:AL P t=.bool):v=.bool (pvB p):=by
 cases h<;>simp_all
theorem zN {St:Blk→Prop} {t:TypeId} {v:Value} {p:PV} (h:Rep P w St t v p) (hk:AL P t=.str):v=.string (pvS p):=by
 cases h<;>simp_all
theorem AAh {St:Blk→Prop} {t e:TypeId} {v:Value} {p:PV} (h:Rep P w St t v p) (hk:AL P t=.sl e):Rep P w St t v (.rows (pvL p)):=by
 cases h with
 | int h=>simp_all
 | bool h=>simp_all
 | str h=>simp_all
 | sl v h hts hl hr hc hm hv=>exact .sl v h hts hl hr hc hm hv
 | opq h=>rw [h] at hk;cases hk
theorem kO {t e:TypeId} (h:AL P t=.sl e):FX P e=false:=by
 unfold AL at h
 split at h<;>(try (cases h;done))
 rename_i e' _;cases hb:FX P e' with
 | true=>rw [hb] at h;cases h
 | false=>rw [hb] at h;cases h;exact hb
theorem zJ {St:Blk→Prop} {t:TypeId} {v:Value} {p:PV} (h:Rep P w St t v p) (hk:AL P t=.opq):Rep P w St t v (.int (pvI p)):=by
 cases h with
 | int h=>rw [h] at hk;cases hk
 | bool h=>rw [h] at hk;cases hk
 | str h=>rw [h] at hk;cases hk
 | sl v h hts hl hr hc hm hv=>rw [h] at hk;cases hk
 | opq h hc hm=>exact .opq h hc hm
theorem S8 {nw : Bool} {l : Rows} {i : Int} (vs : Nat → Value) : ∀ {j : Nat} {ts : List TypeId} {cs : List (AC0 E N)}, PX P nw l i j ts = some cs →
    (∀ q t',ts[q]?=some t'→Rep P w (StB n0 β σ s nw) t' (vs (j+q)) (AF l i.toNat (j+q))) →
    RelCs P n0 β σ s w cs ((List.range ts.length).map fun q=>vs (j+q))∧AH cs=[]
  | j,[],cs,h,_=>by simp only [PX] at h;cases h;exact ⟨trivial,rfl⟩
  | j,t::ts,cs,h,hv=>by
    simp only [PX] at h
    split at h
    · cases h
    · rename_i r hr;obtain ⟨ih,ihn⟩:=S8 vs hr (fun q t' hq=>by
        have:=hv (q+1) t' (by simpa using hq)
        rwa [show j+(q+1)=j+1+q by omega] at this)
      have h0:=hv 0 t (by simp);simp only [Nat.add_zero] at h0;have hl:((List.range (t::ts).length).map fun q=>vs (j+q))=vs j::(List.range ts.length).map fun q=>vs (j+1+q):=by
        simp only [List.length_cons,List.range_succ_eq_map,List.map_cons,Nat.add_zero,List.map_map];congr 1;apply List.map_congr_left;intro q _;simp [Nat.add_assoc,Nat.add_comm 1 q]
      rw [hl]
      split at h
      · rename_i k hk;cases h;exact ⟨⟨zp h0 hk,ih⟩,by simp [AH,AC.names,ihn]⟩
      · rename_i hk;cases h;exact ⟨⟨xw h0 hk,ih⟩,by simp [AH,AC.names,ihn]⟩
      · rename_i hk;cases h;exact ⟨⟨zN h0 hk,ih⟩,by simp [AH,AC.names,ihn]⟩
      · rename_i e hk;cases h;exact ⟨⟨⟨t,hk,AAh h0 hk⟩,ih⟩,by simp [AH,AC.names,ihn]⟩
      · rename_i hk;cases h;exact ⟨⟨⟨t,hk,zJ h0 hk⟩,ih⟩,by simp [AH,AC.names,ihn]⟩
      · cases h
theorem Xy {e t:TypeId} {off:Nat} {ts:List TypeId} (h:WN P e off t=some ts):∃ le,AW P e=some le∧AW P t=some ts∧(le.drop off).take ts.length=ts:=by
 unfold WN at h
 split at h
 ·rename_i l r hl hr
  split at h
  ·rename_i hb;cases h;exact ⟨l,hl,hr,JU.1 hb⟩
  ·cases h
 ·cases h
theorem getElem?_of_sub {α:Type} {le ts:List α} {off:Nat} (h:(le.drop off).take ts.length=ts) {q:Nat} {t:α} (hq:ts[q]?=some t):le[off+q]?=some t:=by
 have hlt:q<ts.length:=(List.getElem?_eq_some_iff.1 hq).1;rw [← h,List.getElem?_take,if_pos hlt,List.getElem?_drop] at hq;exact hq
theorem Dt {blk off:Nat} {cells:Array Value} {el:TypeId} {fr:Nat×Nat} (h:w.heap[blk]?=some (.cells cells el fr)):w.cell? ⟨blk,off,none⟩=cells[off]?:=by
 simp [World.cell?,h]
theorem Fu (blk off j:Nat):(⟨blk,off,none⟩:Addr).add j=⟨blk,off+j,none⟩:=by unfold Addr.add;split<;>simp_all
theorem On {T:TypeId} {n:Nat} (h:QM P T n=true):(∃ d,P.underlying T=some d)∧(Ad P T=true∨n=1):=by
 unfold QM at h;simp only [zzj,Bool.or_eq_true] at h;exact ⟨Option.isSome_iff_exists.1 h.1,h.2.imp id AE.1⟩
theorem Ro {T : TypeId} {blk off : Nat} {cs : List (AC0 E N)} {vs : List Value} (hr : RelCs P n0 β σ s w cs vs) (hag : QM P T cs.length = true)
    (hn:vs.length=P.cellsOf T) (h:∀ j v,vs[j]?=some v→w.cell? ⟨blk,off+j,none⟩=some v) :
    ∃ x,(loadVar T ⟨blk,off,none⟩).run P w=.ok x w∧RelVal P n0 β σ s w { agg:=Ad P T,cs } x:=by
  obtain ⟨⟨d,hu⟩,hag⟩:=On hag;obtain ⟨i,hi⟩:=C2 hu;cases hb:Ad P T with
  | true =>
    have hl:=run_loadCells_list (P:=P) w ⟨blk,off,none⟩ vs (fun j v hj=>by rw [Fu];exact h j v hj);rw [hn] at hl;exact ⟨.agg vs.toArray,by simp [loadVar,Gv hu,hb,BS hi,hl],by simpa [Value.cells] using hr,_,rfl⟩
  | false =>
    have h1:vs.length=1:=by
      rcases hag with h | h
      · rw [hb] at h;cases h
      · rw [← RelCs.length hr];exact h
    match vs,h1 with
    | [v],_ =>
      have hc:=h 0 v rfl;simp only [Nat.add_zero] at hc;have ho:=RelCs.one hr v (by simp);exact ⟨v,by simp [loadVar,Gv hu,hb,run_load,hc],by rw [Bf ho];exact hr,ho⟩
theorem AAB {nw nw':Bool} {b:Blk} (h:StB n0 β σ s nw b):StB n0 β σ s (nw&&nw') b :=
 ⟨h.1,h.2.mono (fun e=>by simp_all)⟩
theorem we {nw nw':Bool} {b:Blk} (h:StB n0 β σ s nw' b):StB n0 β σ s (nw&&nw') b :=
 ⟨h.1,h.2.mono (fun e=>by simp_all)⟩
theorem Rep.st {St St':Blk→Prop} {t:TypeId} {v:Value} {p:PV} (h:Rep P w St t v p) (hs:∀ b,St b→St' b):Rep P w St' t v p :=
 h.mono (fun b _ hlt=>⟨.inl rfl,hlt⟩) (fun b hb _=>hs b hb)
theorem Rep.stL {St St':Blk→Prop} {t:TypeId} {v:Value} {p:PV} (h:Rep P w St t v p) (hs:∀ b,St b→b.b<w.heap.size→St' b):Rep P w St' t v p :=
 h.mono (fun b _ hlt=>⟨.inl rfl,hlt⟩) hs
theorem sQ {b : Bool} {x y c : AC0 E N} {v : Value} (h : gt (O := std E N) b x y = some c) (ht : b = true → RelC P n0 β σ s w x v) (hf : b = false → RelC P n0 β σ s w y v) :
    RelC P n0 β σ s w c v∧c.names=[]:=by
  unfold gt at h
  split at h
  · split at h
    · rename_i k i k' j hk;cases h;have:=Hb.1 hk;subst this;cases b
      · exact ⟨hf rfl,rfl⟩
      · exact ⟨ht rfl,rfl⟩
    · cases h
  · cases h;cases b
    · exact ⟨hf rfl,rfl⟩
    · exact ⟨ht rfl,rfl⟩
  · cases h;cases b
    · exact ⟨hf rfl,rfl⟩
    · exact ⟨ht rfl,rfl⟩
  · split at h
    · rename_i e nw l e' nw' l' he;cases h;have:=AE.1 he;subst this;refine ⟨?_,rfl⟩;cases b
      · obtain ⟨t,h1,h2⟩:=hf rfl;exact ⟨t,h1,h2.st fun _=>we⟩
      · obtain ⟨t,h1,h2⟩:=ht rfl;exact ⟨t,h1,h2.st fun _=>AAB⟩
    · cases h
  · cases h
theorem Jo {b : Bool} : ∀ {xs ys cs : List (AC0 E N)} {vs : List Value}, DE (O := std E N) b xs ys = some cs → (b = true → RelCs P n0 β σ s w xs vs) → (b = false → RelCs P n0 β σ s w ys vs) →
    RelCs P n0 β σ s w cs vs∧AH cs=[]∧cs.length=xs.length
  | [],[],cs,vs,h,ht,hf=>by
    simp only [DE] at h;cases h;cases b
    · exact ⟨hf rfl,rfl,rfl⟩
    · exact ⟨ht rfl,rfl,rfl⟩
  | x::xs,y::ys,cs,vs,h,ht,hf=>by
    simp only [DE] at h
    split at h
    · rename_i c r hc hr;cases h
      match vs with
      | [] => cases b
              · exact (hf rfl).elim
              · exact (ht rfl).elim
      | v::vs =>
        obtain ⟨r1,n1⟩:=sQ (P:=P) (n0:=n0) (β:=β) (σ:=σ) (s:=s) (w:=w) (v:=v) hc (fun e=>(ht e).1) (fun e=>(hf e).1);obtain ⟨r2,n2,l2⟩:=Jo hr (fun e=>(ht e).2) (fun e=>(hf e).2);exact ⟨⟨r1,r2⟩,by simp [AH,n1,n2],by simp [l2]⟩
    · cases h
  | [],_::_,cs,vs,h,_,_=>by simp [DE] at h
  | _::_,[],cs,vs,h,_,_=>by simp [DE] at h
theorem cK {b:Bool}:∀ {xs ys cs:List (AC0 E N)},DE (O:=std E N) b xs ys=some cs→cs.length=ys.length
 | [],[],cs,h=>by simp only [DE] at h;cases h;rfl
 | x::xs,y::ys,cs,h=>by
  simp only [DE] at h
  split at h
  ·rename_i c r hc hr;cases h;simp [cK hr]
  ·cases h
 | [],_::_,cs,h=>by simp [DE] at h
 | _::_,[],cs,h=>by simp [DE] at h
theorem ZK {f : Nat → Option (List (AC0 E N))} {i : Int} (vs : Nat → List Value) : ∀ {n : Nat} {r : List (AC0 E N)}, SV (O := std E N) f i n = some r → 0 ≤ i → i ≤ (n : Int) →
    (∀ k c,k≤n→f k=some c→RelCs P n0 β σ s w c (vs k))→RelCs P n0 β σ s w r (vs i.toNat)
  | 0,r,h,h0,hn,hv=>by
    have:i.toNat=0:=by omega
    rw [this];exact hv 0 r (Nat.le_refl _) h
  | k+1,r,h,h0,hn,hv=>by
    simp only [SV] at h
    split at h
    · rename_i r1 c hr1 hc;have hcs:=hv (k+1) c (Nat.le_refl _) hc;have key:(i==((k+1:Nat):Int))=false→RelCs P n0 β σ s w r1 (vs i.toNat):=fun hb=>by
        have hne:i≠((k+1:Nat):Int):=by simpa using hb
        exact ZK vs hr1 h0 (by omega) (fun k' c' hk'=>hv k' c' (by omega))
      exact (Jo (P:=P) (n0:=n0) (β:=β) (σ:=σ) (s:=s) (w:=w) (vs:=vs i.toNat) h
        (fun hb=>by
          have:i=((k+1:Nat):Int):=by simpa using hb
          rw [show i.toNat=k+1 by omega];exact hcs) key).1
    · cases h
theorem Mq {b:Bool}:∀ {xs ys cs:List (AC0 E N)},DE (O:=std E N) b xs ys=some cs→AH cs=[]
 | [],[],cs,h=>by simp only [DE] at h;cases h;rfl
 | x::xs,y::ys,cs,h=>by
  simp only [DE] at h
  split at h
  ·rename_i c r hc hr;cases h;have h1:=Mq hr;have h2:c.names=[]:=by
    unfold gt at hc
    split at hc
    ·split at hc
     ·cases hc;rfl
     ·cases hc
    ·cases hc;rfl
    ·cases hc;rfl
    ·split at hc
     ·cases hc;rfl
     ·cases hc
    ·cases hc
   simp [AH,h1,h2]
  ·cases h
 | [],_::_,cs,h=>by simp [DE] at h
 | _::_,[],cs,h=>by simp [DE] at h
theorem cR {f : Nat → Option (List (AC0 E N))} {i : Int} {n : Nat} {r : List (AC0 E N)} (h : SV (O := std E N) f i n = some r) :
    ∀ m∈AH r,∃ c,f 0=some c∧m∈AH c:=by
  cases n with
  | zero=>exact fun m hm=>⟨r,h,hm⟩
  | succ n =>
    simp only [SV] at h
    split at h
    · rw [Mq h];simp
    · cases h
theorem Z4 {f:Nat→Option (List (AC0 E N))} {i:Int} {k:Nat} (hf:∀ n c,f n=some c→c.length=k):∀ {n:Nat} {r:List (AC0 E N)},SV (O:=std E N) f i n=some r→r.length=k
 | 0,r,h=>hf 0 r h
 | n+1,r,h=>by
  simp only [SV] at h
  split at h
  ·rename_i r1 c hr1 hc;rw [cK h];exact Z4 hf hr1
  ·cases h
def zI (P:Program) (n0:Nz) (β:Nat→Option Nat) (σ:Nat→Option (Nat×Nat)) (s:St0 E N) (w:World) (T:TypeId) (v:Value) (cs:List (AC0 E N)):Prop :=
 ∃ blk off vs,v=.pointer (some ⟨blk,off,none⟩)∧vs.length=P.cellsOf T∧RelCs P n0 β σ s w cs vs ∧
  ∀ j x,vs[j]?=some x→w.cell? ⟨blk,off+j,none⟩=some x
theorem aC (m : Mem P n0 β σ s w) {b off : Nat} {e : BEnt (std E N)} {v : Value} (he : s.getB b = some e) (hp : Qq β s b off v) :
    ∃ blk cells el,v=.pointer (some ⟨blk,off,none⟩)∧β b=some blk∧w.heap[blk]?=some (.cells cells el (0,0))∧RelCs P n0 β σ s w e.cs cells.toList:=by
  obtain ⟨blk,rfl,hb⟩:=hp;obtain ⟨blk',cells,el,hb',hh,hr,_⟩:=m.B b e he;have:=hb e he;rw [hb'] at this;cases this;exact ⟨blk,cells,el,rfl,hb',hh,hr⟩
theorem P0 {blk : Nat} {cells : Array Value} {el : TypeId} {fr : Nat × Nat} (h : w.heap[blk]? = some (.cells cells el fr)) (off n j : Nat) (x : Value)
    (hj:((cells.toList.drop off).take n)[j]?=some x):w.cell? ⟨blk,off+j,none⟩=some x:=by
  rw [Dt h];rw [List.getElem?_take] at hj
  split at hj
  · rw [List.getElem?_drop] at hj;simpa using hj
  · cases hj
theorem vD (m : Mem P n0 β σ s w) {T : TypeId} {p : AC0 E N} {v : Value} {cs : List (AC0 E N)} {k k' : Nat} (hp : RelC P n0 β σ s w p v)
    (h:RM.run s (oV P T p) k=.ok (cs,k')):zI P n0 β σ s w T v cs∧∀ n,Fresh a s n→n∉AH cs:=by
  cases p with
  | ptr b off =>
    obtain ⟨k1,h⟩:=zzg h;cases he:s.getB b with
    | none=>rw [he] at h;exact (zzb h).elim
    | some e =>
      rw [he] at h;have hs:=zzh h;obtain ⟨blk,cells,el,rfl,hb,hh,hr⟩:=aC m he hp;obtain ⟨e1,e2⟩:=Dv hs;have hrr:=RelCs.take (P.cellsOf T) (RelCs.drop off hr);rw [← e1] at hrr;exact ⟨⟨blk,off,_,rfl,(RelCs.length hrr).symm.trans e2,hrr,fun j x hj=>P0 hh off _ j x hj⟩,
        fun n hn hm=>(hn.b b e he).2 (Eu hs hm)⟩
  | aptr b off n sz i inner =>
    obtain ⟨k1,h⟩:=zzg h;obtain ⟨h0,hlt,hp⟩:=hp;cases he:s.getB b with
    | none=>rw [he] at h;exact (zzb h).elim
    | some e =>
      rw [he] at h;obtain ⟨blk,cells,el,rfl,hb,hh,hr⟩:=aC m he hp;cases n with
      | zero=>exact (zzb h).elim
      | succ n =>
        have hs:=zzh h;obtain ⟨i,rfl⟩:∃ j:Int,j=i:=⟨i,rfl⟩;have h0':(0:Int)≤i:=h0;have hlt':i<((n+1:Nat):Int):=hlt;have key:=ZK (P:=P) (n0:=n0) (β:=β) (σ:=σ) (s:=s) (w:=w) (fun k=>(cells.toList.drop (off+k * sz+inner)).take (P.cellsOf T)) hs h0' (by omega)
          (fun k c hk hc=>by
            have:=RelCs.take (P.cellsOf T) (RelCs.drop (off+k * sz+inner) hr)
            rwa [← (Dv hc).1] at this)
        have hlen:cs.length=P.cellsOf T:=Z4 (fun k c hc=>(Dv hc).2) hs;refine ⟨⟨blk,_,_,rfl,(RelCs.length key).symm.trans hlen,key,fun j x hj=>P0 hh _ _ j x hj⟩,fun m hm hx=>?_⟩;obtain ⟨c,hc,hmc⟩:=cR hs m hx;exact (hm.b b e he).2 (Eu hc hmc)
  | eptr id i off =>
    obtain ⟨k1,h⟩:=zzf h;obtain ⟨h0,blk,o,rfl,hk⟩:=hp;cases he:s.getH id with
    | none=>rw [he] at h;exact (zzb h).elim
    | some e =>
      rw [he] at h;simp only at h
      split at h
      · rename_i ts hf;have hs:=zzh h;obtain ⟨hi,ts',cap,hts',hsg,hcp,rfl⟩:=hk e he
        rcases m.H id e he with ⟨t,le,ht,hle,hrl,hm⟩ | hM
        case inr=>exact (hM.noCap hsg hcp.1).elim
        rw [hle] at hts';cases hts';obtain ⟨le',hle',hT,hsub⟩:=Xy hf;rw [hle] at hle';cases hle'
        rcases hm with ⟨hn,_⟩ | ⟨blk',cap',cells,el,hsg',hh,hel,hsz,hcap,hnw,v,hv,hrep⟩
        · rw [hn] at hsg;cases hsg
        · rw [hsg'] at hsg;cases hsg;obtain ⟨i,rfl⟩:∃ j:Int,j=i:=⟨i,rfl⟩;have hin:i.toNat<List.length e.l:=by
            have h0':(0:Int)≤i:=h0;have hi':i<((List.length e.l:Nat):Int):=hi;omega
          obtain ⟨hr,hnm⟩:=S8 (P:=P) (n0:=n0) (β:=β) (σ:=σ) (s:=s) (w:=w) (fun q=>v i.toNat q) hs (fun q t' hq=>hrep i.toNat (off+q) t' hin (getElem?_of_sub hsub hq));have hlen:ts.length=P.cellsOf T:=(Cw hT).1.symm;refine ⟨⟨blk,_,_,rfl,by simpa using hlen,hr,fun j x hj=>?_⟩,fun m _=>by rw [hnm];simp⟩;simp only [List.getElem?_map,zzo] at hj;obtain ⟨q,hq,rfl⟩:=hj;obtain ⟨hqlt,rfl⟩:=List.getElem?_eq_some_iff.1 hq;simp only [List.length_range] at hqlt;simp only [List.getElem_range];rw [Dt hh,Nat.add_assoc];have hb:=(List.getElem?_eq_some_iff.1 (getElem?_of_sub hsub (zzn hqlt))).1;exact hv i.toNat (off+j) hin hb
      · exact (zzb h).elim
  | iptr e nw l i off =>
    simp only [oV] at h
    split at h
    · rename_i ts hf;have hs:=zzh h;obtain ⟨h0,hi,t,le,blk,boff,len,cap,ht,hle,hrep,rfl⟩:=hp;obtain ⟨le',hle',hT,hsub⟩:=Xy hf;rw [hle] at hle';cases hle';obtain ⟨i,rfl⟩:∃ j:Int,j=i:=⟨i,rfl⟩;have h0':(0:Int)≤i:=h0;have hi':i<((List.length l:Nat):Int):=hi;have hin:i.toNat<List.length l:=by omega
      cases hrep with
      | sl v ht' hts hl hr hc hm hv =>
        rw [ht] at ht';cases ht';rw [hle] at hts;cases hts
        rcases hm with hm | ⟨b,o,ha,hb,hlt,hcell⟩
        · rw [← hl] at hm;omega
        · obtain ⟨b,bc⟩:=b;cases ha;have hin':i.toNat<len:=by rw [← hl];exact hin
          obtain ⟨hr,hnm⟩:=S8 (P:=P) (n0:=n0) (β:=β) (σ:=σ) (s:=s) (w:=w) (fun q=>v i.toNat q) hs (fun q t' hq=>hv i.toNat (off+q) t' hin' (getElem?_of_sub hsub hq));have hlen:ts.length=P.cellsOf T:=(Cw hT).1.symm;refine ⟨⟨_,_,_,rfl,by simpa using hlen,hr,fun j x hj=>?_⟩,fun m _=>by rw [hnm];simp⟩;simp only [List.getElem?_map,zzo] at hj;obtain ⟨q,hq,rfl⟩:=hj;obtain ⟨hqlt,rfl⟩:=List.getElem?_eq_some_iff.1 hq;simp only [List.length_range] at hqlt;simp only [List.getElem_range];have hb:=(List.getElem?_eq_some_iff.1 (getElem?_of_sub hsub (zzn hqlt))).1;have:=hcell i.toNat (off+j) hin' hb;rw [← this];congr 2;omega
    · exact (zzb h).elim
  | int k i=>exact (zzb h).elim
  | bool b=>exact (zzb h).elim
  | str x=>exact (zzb h).elim
  | nil e=>exact (zzb h).elim
  | imm e nw l=>exact (zzb h).elim
  | own e id=>exact (zzb h).elim
  | fn f caps=>exact (zzb h).elim
  | nilptr=>exact (zzb h).elim
  | tail e id i=>exact (zzb h).elim
  | mp e id=>exact (zzb h).elim
  | any T=>exact (zzb h).elim
  | opq=>exact (zzb h).elim
  | qlit=>exact (zzb h).elim
end
section
variable {E:Env} {N:Nat} {P:Program} {n0:Nz} {nt:Nat} {β:Nat→Option Nat} {σ:Nat→Option (Nat×Nat)} {s:St0 E N} {a:Act} {w:World}
theorem gK {c:AC0 E N} {v:Value} (h:RelC P n0 β σ s w c v):RelVal P n0 β σ s w { agg:=false,cs:=[c] } v :=
 ⟨by rw [Bf (RelC.one h)];exact ⟨h,trivial⟩,RelC.one h⟩
theorem Aj {c:AC0 E N} {v:Value} (h:RelC P n0 β σ s w c v):RelAV P n0 β σ s w (one c) v:=gK h
theorem FY {c:AC0 E N} {v:Value} (h:RelVal P n0 β σ s w { agg:=false,cs:=[c] } v):RelC P n0 β σ s w c v:=by
 obtain ⟨h1,h2⟩:=h;rw [Bf h2] at h1;exact h1.1
theorem Oa {cs:List (AC0 E N)} {v:Value} (h:RelVal P n0 β σ s w { agg:=true,cs } v):∃ vs,v=.agg vs∧RelCs P n0 β σ s w cs vs.toList:=by
 obtain ⟨h1,vs,rfl⟩:=h;exact ⟨vs,rfl,h1⟩
theorem fY {n : Nat} {p p' : AC0 E N} {v : Value} (h : Dl n p = some p') (hp : RelC P n0 β σ s w p v) :
    ∃ blk o,v=.pointer (some ⟨blk,o,none⟩)∧RelC P n0 β σ s w p' (.pointer (some ⟨blk,o+n,none⟩))∧p'.names=p.names:=by
  cases p with
  | ptr b off =>
    simp only [Dl,Option.some.injEq] at h;subst h;obtain ⟨blk,rfl,hb⟩:=hp;exact ⟨blk,off,rfl,⟨blk,rfl,hb⟩,rfl⟩
  | aptr b off m sz i inner =>
    simp only [Dl,Option.some.injEq] at h;subst h;obtain ⟨h0,h1,blk,rfl,hb⟩:=hp;exact ⟨blk,_,rfl,⟨h0,h1,blk,by rw [Nat.add_assoc _ inner n],hb⟩,rfl⟩
  | eptr id i off =>
    simp only [Dl,Option.some.injEq] at h;subst h;obtain ⟨h0,blk,o,rfl,hk⟩:=hp;refine ⟨blk,o,rfl,⟨h0,blk,o+n,rfl,fun e he=>?_⟩,rfl⟩;obtain ⟨hi,ts,cap,hts,hs,hcp,ho⟩:=hk e he;exact ⟨hi,ts,cap,hts,hs,hcp,by rw [ho,Nat.add_assoc]⟩
  | iptr e nw l i off =>
    simp only [Dl,Option.some.injEq] at h;subst h;obtain ⟨h0,h1,t,ts,blk,boff,len,cap,ht,hts,hr,rfl⟩:=hp;exact ⟨blk,_,rfl,⟨h0,h1,t,ts,blk,boff,len,cap,ht,hts,hr,by rw [Nat.add_assoc,Nat.add_assoc]⟩,rfl⟩
  | int k i=>simp [Dl] at h
  | bool b=>simp [Dl] at h
  | str x=>simp [Dl] at h
  | nil e=>simp [Dl] at h
  | imm e nw l=>simp [Dl] at h
  | own e id=>simp [Dl] at h
  | fn f caps=>simp [Dl] at h
  | nilptr=>simp [Dl] at h
  | tail e id i=>simp [Dl] at h
  | mp e id=>simp [Dl] at h
  | any T=>simp [Dl] at h
  | opq=>simp [Dl] at h
  | qlit=>simp [Dl] at h
theorem aB {T:TypeId} {f:Nat} {fd:Field} (h:Su P T f=some fd):∃ fs,P.underlying T=some (.struct fs)∧fs[f]?=some fd:=by
 unfold Su at h
 split at h
 ·rename_i fs hu;exact ⟨fs,hu,by simpa using h⟩
 ·cases h
theorem qF {T : TypeId} {f : Nat} {fd : Field} {blk o : Nat} (h : Su P T f = some fd) (hs : P.cellsOf fd.type ≠ 0) :
    (Instr.fieldAt T (.pointer (some ⟨blk,o,none⟩)) f).run P w=.ok (.pointer (some ⟨blk,o+fd.offset,none⟩)) w:=by
  obtain ⟨fs,hu,hf⟩:=aB h;obtain ⟨i,hi⟩:=D7 (P:=P) (t:=fd.type) (by omega);simp [Instr.fieldAt,run_underlying hu,hf,Instr.sureAddr,fieldPlace,BS hi,hs,Fu]
theorem vb {T : TypeId} {f : Nat} {fd : Field} {vs : Array Value} {cs r : List (AC0 E N)} (h : Su P T f = some fd) (hr : RelCs P n0 β σ s w cs vs.toList)
    (hsl:Gc cs fd.offset (P.cellsOf fd.type)=some r) (hag:QM P fd.type r.length=true) :
    ∃ x,(Instr.field T (.agg vs) f).run P w=.ok x w∧RelVal P n0 β σ s w { agg:=Ad P fd.type,cs:=r } x:=by
  obtain ⟨fs,hu,hf⟩:=aB h;obtain ⟨e1,e2⟩:=Dv hsl;obtain ⟨⟨d,hud⟩,hag⟩:=On hag;obtain ⟨i,hi⟩:=C2 hud;have hrr:=RelCs.take (P.cellsOf fd.type) (RelCs.drop fd.offset hr);rw [← e1] at hrr;cases hb:Ad P fd.type with
  | true =>
    refine ⟨.agg (vs.extract fd.offset (fd.offset+P.cellsOf fd.type)),by simp [Instr.field,run_underlying hu,hf,part,Gv hud,hb,BS hi,asAgg],?_,_,rfl⟩;simp only [Value.cells,Array.toList_extract,List.extract_eq_take_drop,Nat.add_sub_cancel_left];exact hrr
  | false =>
    have h1:r.length=1:=by
      rcases hag with h | h
      · rw [hb] at h;cases h
      · exact h
    have hlen:=RelCs.length hrr;rw [h1] at hlen
    match hx:(vs.toList.drop fd.offset).take (P.cellsOf fd.type),hlen with
    | [x],_ =>
      rw [hx] at hrr;have hc:vs[fd.offset]?=some x:=by
        have:((vs.toList.drop fd.offset).take (P.cellsOf fd.type))[0]?=some x:=by rw [hx];rfl
        rw [List.getElem?_take] at this
        split at this
        · rw [List.getElem?_drop] at this;simpa using this
        · cases this
      refine ⟨x,by simp [Instr.field,run_underlying hu,hf,part,Gv hud,hb,asAgg,hc],?_⟩;have ho:=RelCs.one hrr x (by simp);exact ⟨by rw [Bf ho];exact hrr,ho⟩
theorem o9 {T : TypeId} {off : Nat} {vs : Array Value} {r : List (AC0 E N)} (hr : RelCs P n0 β σ s w r ((vs.toList.drop off).take (P.cellsOf T)))
    (hl:r.length=P.cellsOf T) (hag:QM P T r.length=true) :
    ∃ x,(part T vs off).run P w=.ok x w∧RelVal P n0 β σ s w { agg:=Ad P T,cs:=r } x:=by
  obtain ⟨⟨d,hud⟩,hag⟩:=On hag;obtain ⟨i,hi⟩:=C2 hud;cases hb:Ad P T with
  | true =>
    refine ⟨.agg (vs.extract off (off+P.cellsOf T)),by simp [part,Gv hud,hb,BS hi],?_,_,rfl⟩;simp only [Value.cells,Array.toList_extract,List.extract_eq_take_drop,Nat.add_sub_cancel_left];exact hr
  | false =>
    have h1:r.length=1:=by
      rcases hag with h | h
      · rw [hb] at h;cases h
      · exact h
    have hlen:=RelCs.length hr;rw [h1] at hlen
    match hx:(vs.toList.drop off).take (P.cellsOf T),hlen with
    | [x],_ =>
      rw [hx] at hr;have hc:vs[off]?=some x:=by
        have:((vs.toList.drop off).take (P.cellsOf T))[0]?=some x:=by rw [hx];rfl
        rw [List.getElem?_take] at this
        split at this
        · rw [List.getElem?_drop] at this;simpa using this
        · cases this
      refine ⟨x,by simp [part,Gv hud,hb,hc],?_⟩;have ho:=RelCs.one hr x (by simp);exact ⟨by rw [Bf ho];exact hr,ho⟩
theorem W0 {y:Operand} (h:Iq y=true):∃ k n,y=.const (.int k n)∧n≠0:=by
 unfold Iq at h
 split at h
 ·rename_i k n;exact ⟨k,n,rfl,by simpa using h⟩
 ·cases h
theorem GZ (op:BinOp) (T:TypeId) (x y:Operand) (u v:Value) (h:u.oneCell'=true) (hi:u≠.nilIface):(eqGuard op T x y u v).run P w=.ok () w:=by
 unfold eqGuard;cases op<;>first | rfl | skip
 all_goals
  simp only [Bool.not_true,Bool.false_eq_true,if_false];cases u<;>first | rfl | (simp [Value.oneCell'] at h;done) | (exact (hi rfl).elim)
theorem xk {op : BinOp} {i j : Int} {c : Bool} (h : AAk (O := std E N) op i j = some c) (T : TypeId) (k : IntKind) :
    (binOp op T (.int k i) (.int k j)).run P w=.ok (.bool c) w:=by
  cases op<;>first | (cases h;done) | (have h':=Option.some.inj h;subst h';simp [binOp,Op.intCmp,bne,iLt,iLe])
theorem yj {t : TypeId} {x y : AC0 E N} {u v : Value} {b : Bool} {d : Nat} (h : eqC (O := std E N) x y = some b) (hx : RelC P n0 β σ s w x u) (hy : RelC P n0 β σ s w y v)
    (kx:WQ (AL P t) x=true) (ky:WQ (AL P t) y=true):(Op.equalIn (d+1) t u v).run P w=.ok b w:=by
  unfold eqC at h
  split at h
  · rename_i k i k' j
    split at h
    · rename_i hk;have:=Hb.1 hk;subst this;cases h;have hu:u=.int k i:=hx;have hv:v=.int k j:=hy;subst hu;subst hv;unfold WQ at kx
      split at kx
      · rename_i _ _ kk k2 i2 hlk hc;exact run_equalIn_int w d t k _ i j (dM hlk)
      all_goals (first | (rename_i hc;cases hc;done) | cases kx)
    · cases h
  · rename_i i j;cases h;have hu:u=.bool i:=hx;have hv:v=.bool j:=hy;subst hu;subst hv;unfold WQ at kx
    split at kx
    · rename_i hc;cases hc
    · rename_i hlk hc;exact run_equalIn_bool' w d t i j (ul hlk)
    · rename_i hc;cases hc
    · cases kx
  · rename_i i j;cases h;have hu:u=.string i:=hx;have hv:v=.string j:=hy;subst hu;subst hv;unfold WQ at kx
    split at kx
    · rename_i hc;cases hc
    · rename_i hc;cases hc
    · rename_i hlk hc;exact run_equalIn_string w d t i j (XO hlk)
    · cases kx
  · cases h
theorem Co {a b:Option (List Nat)} (h:Qr a b=true):∃ l,a=some l∧b=some l:=by
 unfold Qr at h
 split at h
 ·rename_i x y;exact ⟨x,rfl,by rw [JU.1 h]⟩
 ·cases h
theorem vU {x y : AC0 E N} {xs ys : List (AC0 E N)} {b : Bool} (h : K8 (O := std E N) (x :: xs) (y :: ys) = some b) :
    ∃ b1 b2,eqC x y=some b1∧K8 xs ys=some b2∧b=(b1&&b2):=by
  cases xs with
  | nil =>
    cases ys with
    | nil =>
      simp only [K8] at h;have h2:eqC x y=some b:=h;exact ⟨b,true,h2,rfl,by simp⟩
    | cons y2 ys =>
      simp only [K8] at h
      split at h
      · rename_i a r ha hr;cases hr
      · cases h
  | cons x2 xs =>
    cases ys with
    | nil =>
      simp only [K8] at h
      split at h
      · rename_i a r ha hr;cases hr
      · cases h
    | cons y2 ys =>
      simp only [K8] at h
      split at h
      · rename_i a r ha hr;cases h;exact ⟨a,r,ha,hr,rfl⟩
      · cases h
theorem Vs : ∀ {xs1 ys1 xs2 ys2 : List (AC0 E N)} {b : Bool}, xs1.length = ys1.length → K8 (O := std E N) (xs1 ++ xs2) (ys1 ++ ys2) = some b →
    ∃ b1 b2,K8 xs1 ys1=some b1∧K8 xs2 ys2=some b2∧b=(b1&&b2)
  | [],[],xs2,ys2,b,_,h=>⟨true,b,rfl,h,by simp⟩
  | x::xs1,y::ys1,xs2,ys2,b,hl,h=>by
    obtain ⟨b1,b2,h1,h2,rfl⟩:=vU h;obtain ⟨b3,b4,h3,h4,rfl⟩:=Vs (by simpa using hl) h2;refine ⟨b1&&b3,b4,?_,h4,by rw [Bool.and_assoc]⟩;cases xs1 with
    | nil =>
      cases ys1 with
      | nil=>cases h3;show eqC x y=some (b1&&true);rw [h1,Bool.and_true]
      | cons=>simp at hl
    | cons x2 xs1 =>
      cases ys1 with
      | nil=>simp at hl
      | cons y2 ys1=>simp only [K8,h1,h3]
  | [],_::_,_,_,_,hl,_=>by simp at hl
  | _::_,[],_,_,_,hl,_=>by simp at hl
theorem Ie:∀ {ts1 ts2:List TypeId} {xs1 xs2:List (AC0 E N)},ts1.length=xs1.length→Bx P (ts1++ts2) (xs1++xs2)=true→Bx P ts1 xs1=true∧Bx P ts2 xs2=true
 | [],ts2,[],xs2,_,h=>⟨rfl,h⟩
 | t::ts1,ts2,x::xs1,xs2,hl,h=>by
  simp only [List.cons_append,Bx] at h
  split at h
  ·rename_i hk;obtain ⟨h1,h2⟩:=Ie (by simpa using hl) h;exact ⟨by simp only [Bx,hk];exact h1,h2⟩
  ·cases h
 | [],_,_::_,_,hl,_=>by simp at hl
 | _::_,_,[],_,hl,_=>by simp at hl
theorem DA:∀ {ts:List TypeId} {xs:List (AC0 E N)},Bx P ts xs=true→ts.length=xs.length
 | [],[],_=>rfl
 | t::ts,x::xs,h=>by
  simp only [Bx] at h
  split at h
  ·simp [DA h]
  ·cases h
 | [],_::_,h=>by simp [Bx] at h
 | _::_,[],h=>by simp [Bx] at h
def J1 (P:Program) (T:TypeId) (vs:List Value):Value:=match Ad P T,vs with
 | true,vs=>.agg vs.toArray
 | false,[v]=>v
 | _,_=>undef
theorem VR {T : TypeId} {off : Nat} {vs : Array Value} {d : TypeDesc} (hu : P.underlying T = some d) {l : List Value} (hl : l = (vs.toList.drop off).take (P.cellsOf T))
    (hn:l.length=P.cellsOf T) (hag:Ad P T=true∨P.cellsOf T=1):(part T vs off).run P w=.ok (J1 P T l) w:=by
  obtain ⟨i,hi⟩:=C2 hu;cases hb:Ad P T with
  | true =>
    simp only [part,Sem.run_bind,Gv hu,hb,Result.andThen_ok,if_true,BS hi,Sem.run_map,Sem.run_pure,J1];congr 2;apply Array.ext';rw [hl];simp [List.extract_eq_take_drop]
  | false =>
    have h1:P.cellsOf T=1:=by rcases hag with h | h;(rw [hb] at h;cases h);exact h
    match l,hn.trans h1 with
    | [x],_ =>
      have hc:vs[off]?=some x:=by
        have:((vs.toList.drop off).take (P.cellsOf T))[0]?=some x:=by rw [← hl];rfl
        rw [List.getElem?_take] at this
        split at this
        · rw [List.getElem?_drop] at this;simpa using this
        · cases this
      simp [part,Gv hu,hb,hc,J1]
theorem fU {n:Nat} {t:TypeId} (h:XV P n t=true):∃ d ts,P.underlying t=some d∧AW P t=some ts∧(Ad P t=true∨ts.length=1):=by
 cases n with
 | zero=>cases h
 | succ n =>
  unfold XV at h
  split at h
  ·rename_i hu;obtain ⟨l,h1,h2⟩:=Co h;cases h2;exact ⟨_,_,hu,h1,.inr rfl⟩
  ·rename_i hu;obtain ⟨l,h1,h2⟩:=Co h;cases h2;exact ⟨_,_,hu,h1,.inr rfl⟩
  ·rename_i hu;obtain ⟨l,h1,h2⟩:=Co h;cases h2;exact ⟨_,_,hu,h1,.inr rfl⟩
  ·rename_i fs hu;simp only [zzj] at h;obtain ⟨l,h1,h2⟩:=Co h.2;exact ⟨_,_,hu,h1,.inl (by unfold Ad;rw [hu])⟩
  ·rename_i k e hu;simp only [zzj] at h;obtain ⟨l,h1,h2⟩:=Co h.2;exact ⟨_,_,hu,h1,.inl (by unfold Ad;rw [hu])⟩
  ·cases h
theorem RelCs.split {xs:List (AC0 E N)} {vs:List Value} (n:Nat) (h:RelCs P n0 β σ s w xs vs):RelCs P n0 β σ s w (xs.take n) (vs.take n)∧RelCs P n0 β σ s w (xs.drop n) (vs.drop n) :=
 ⟨RelCs.take n h,RelCs.drop n h⟩
theorem Vz : ∀ (n d : Nat) (T : TypeId) (ts : List TypeId) (xs ys : List (AC0 E N)) (vs us : List Value) (b : Bool), n ≤ d → XV P n T = true → AW P T = some ts →
    RelCs P n0 β σ s w xs vs→RelCs P n0 β σ s w ys us→Bx P ts xs=true→Bx P ts ys=true→K8 (O:=std E N) xs ys=some b →
    (Op.equalIn d T (J1 P T vs) (J1 P T us)).run P w=.ok b w
  | 0,d,T,ts,xs,ys,vs,us,b,hd,h,_,_,_,_,_,_=>by cases h
  | n+1,d,T,ts,xs,ys,vs,us,b,hd,h,hts,hx,hy,kx,ky,he=>by
    obtain ⟨d,rfl⟩:∃ d',d=d'+1:=⟨d - 1,by omega⟩;have lx:=(DA kx).trans (RelCs.length hx);have ly:=(DA ky).trans (RelCs.length hy);have base:∀ (hb:Ad P T=false) (h1:AW P T=some [T]),(Op.equalIn (d+1) T (J1 P T vs) (J1 P T us)).run P w=.ok b w:=by
      intro hb h1;rw [hts] at h1;cases h1
      match xs,ys,vs,us,lx,ly,DA kx,DA ky with
      | [x],[y],[v],[u],_,_,_,_ =>
        simp only [J1,hb];simp only [K8] at he;refine yj he hx.1 hy.1 (t:=T) ?_ ?_
        · simp only [Bx] at kx;split at kx<;>first | assumption | cases kx
        · simp only [Bx] at ky;split at ky<;>first | assumption | cases ky
    unfold XV at h
    split at h
    · rename_i hu;obtain ⟨l,h1,h2⟩:=Co h;cases h2;exact base (by unfold Ad;rw [hu]) h1
    · rename_i hu;obtain ⟨l,h1,h2⟩:=Co h;cases h2;exact base (by unfold Ad;rw [hu]) h1
    · rename_i hu;obtain ⟨l,h1,h2⟩:=Co h;cases h2;exact base (by unfold Ad;rw [hu]) h1
    · rename_i fs hu;simp only [zzj,Bool.not_eq_true'] at h;obtain ⟨⟨⟨hst,hfa⟩,hall⟩,hcat⟩:=h;obtain ⟨l,h1,h2⟩:=Co hcat;rw [hts] at h1;cases h1;have hag:Ad P T=true:=by unfold Ad;rw [hu]
      have hfo:P.fieldsOf T=fs:=by unfold Program.fieldsOf;rw [hu]
      simp only [J1,hag];rw [run_equalIn_struct w d T _ _ (by rw [hfo];exact hu) hst,hfo];have key : ∀ (fl : List Field) (off : Nat) (tl : List TypeId) (xs ys : List (AC0 E N)) (b : Bool), YB P off fl = true → (fl.all fun f => XV P n f.type) = true →
          N2 (fl.map fun f=>AW P f.type)=some tl→RelCs P n0 β σ s w xs (vs.drop off)→RelCs P n0 β σ s w ys (us.drop off)→Bx P tl xs=true→Bx P tl ys=true →
          K8 (O:=std E N) xs ys=some b→(Op.eqFields d vs.toArray us.toArray fl).run P w=.ok b w:=by
        intro fl
        induction fl with
        | nil =>
          intro off tl xs ys b _ _ hc _ _ kx ky he;simp only [List.map_nil,N2] at hc;cases hc;cases xs with
          | cons=>simp [Bx] at kx
          | nil =>
            cases ys with
            | cons=>simp [Bx] at ky
            | nil=>cases he;simp [Op.eqFields]
        | cons f fl ih =>
          intro off tl xs ys b hfa hall hc hx hy kx ky he;simp only [YB] at hfa
          split at hfa
          · rename_i hfo;simp only [zzj,bne_iff_ne,ne_eq] at hfo;have hoff:=AE.1 hfo.1;simp only [List.all_cons,zzj] at hall;simp only [List.map_cons] at hc;cases heq:AW P f.type with
            | none=>rw [heq] at hc;simp [N2] at hc
            | some t1 =>
              rw [heq] at hc;simp only [N2] at hc
              split at hc
              · rename_i t2 ht2;cases hc;obtain ⟨hsz,hpos⟩:=Cw heq;obtain ⟨dd,ts',hdu,hts',hagg⟩:=fU hall.1;rw [heq] at hts';cases hts';have kxl:=DA kx;have kyl:=DA ky;simp only [List.length_append] at kxl kyl;have ex:xs=xs.take t1.length++xs.drop t1.length:=(List.take_append_drop _ _).symm;have ey:ys=ys.take t1.length++ys.drop t1.length:=(List.take_append_drop _ _).symm;rw [ex] at kx;rw [ey] at ky;rw [ex,ey] at he;obtain ⟨kx1,kx2⟩:=Ie (by simp;omega) kx;obtain ⟨ky1,ky2⟩:=Ie (by simp;omega) ky;obtain ⟨b1,b2,e1,e2,rfl⟩:=Vs (by simp;omega) he;obtain ⟨rx1,rx2⟩:=RelCs.split t1.length hx;obtain ⟨ry1,ry2⟩:=RelCs.split t1.length hy;have p1:=VR (P:=P) (w:=w) (T:=f.type) (off:=f.offset) (vs:=vs.toArray) hdu (l:=(vs.drop off).take t1.length) (by rw [hoff,hsz]) (by rw [hsz,← RelCs.length rx1];simp;omega) (by rw [hsz];exact hagg);have p2:=VR (P:=P) (w:=w) (T:=f.type) (off:=f.offset) (vs:=us.toArray) hdu (l:=(us.drop off).take t1.length) (by rw [hoff,hsz]) (by rw [hsz,← RelCs.length ry1];simp;omega) (by rw [hsz];exact hagg);have p3:=Vz n d f.type t1 _ _ _ _ b1 (by omega) hall.1 heq rx1 ry1 kx1 ky1 e1;rw [List.drop_drop] at rx2 ry2;have p4:=ih (off+P.cellsOf f.type) t2 _ _ b2 hfa hall.2 ht2 (by rw [hsz];exact rx2) (by rw [hsz];exact ry2) kx2 ky2 e2;simp only [Op.eqFields,ne_eq,hfo.2,not_false_eq_true,if_true,Sem.run_bind,p1,p2,p3,Result.andThen_ok];cases b1
                · simp
                · simpa using p4
              · cases hc
          · cases hfa
      have:=key fs.toList 0 ts xs ys b hfa hall h2 (by simpa using hx) (by simpa using hy) kx ky he;exact this
    · rename_i k e hu;simp only [zzj] at h;obtain ⟨hek,hcat⟩:=h;obtain ⟨l,h1,h2⟩:=Co hcat;rw [hts] at h1;cases h1;have hag:Ad P T=true:=by unfold Ad;rw [hu]
      obtain ⟨dd,te,hdu,hte,hagg⟩:=fU hek;obtain ⟨hsz,hpos⟩:=Cw hte;obtain ⟨i,hi⟩:=C2 hdu;simp only [J1,hag];rw [run_equalIn_array w d _ _ hu hi,List.range_eq_range'];rw [hte] at h2;simp only [Option.map_some,Option.some.injEq] at h2;have key : ∀ (k q : Nat) (xs ys : List (AC0 E N)) (b : Bool), RelCs P n0 β σ s w xs (vs.drop (q * te.length)) → RelCs P n0 β σ s w ys (us.drop (q * te.length)) →
          Bx P (Ds k te) xs=true→Bx P (Ds k te) ys=true→K8 (O:=std E N) xs ys=some b →
          (Op.eqItems d e (P.cellsOf e) vs.toArray us.toArray (List.range' q k)).run P w=.ok b w:=by
        intro k
        induction k with
        | zero =>
          intro q xs ys b _ _ kx ky he;simp only [Ds] at kx ky;cases xs with
          | cons=>simp [Bx] at kx
          | nil =>
            cases ys with
            | cons=>simp [Bx] at ky
            | nil=>cases he;simp [Op.eqItems]
        | succ k ih =>
          intro q xs ys b hx hy kx ky he;simp only [Ds] at kx ky;have kxl:=DA kx;have kyl:=DA ky;simp only [List.length_append] at kxl kyl;have ex:xs=xs.take te.length++xs.drop te.length:=(List.take_append_drop _ _).symm;have ey:ys=ys.take te.length++ys.drop te.length:=(List.take_append_drop _ _).symm;rw [ex] at kx;rw [ey] at ky;rw [ex,ey] at he;obtain ⟨kx1,kx2⟩:=Ie (by simp;omega) kx;obtain ⟨ky1,ky2⟩:=Ie (by simp;omega) ky;obtain ⟨b1,b2,e1,e2,rfl⟩:=Vs (by simp;omega) he;obtain ⟨rx1,rx2⟩:=RelCs.split te.length hx;obtain ⟨ry1,ry2⟩:=RelCs.split te.length hy;have p1:=VR (P:=P) (w:=w) (T:=e) (off:=q * P.cellsOf e) (vs:=vs.toArray) hdu (l:=(vs.drop (q * te.length)).take te.length) (by rw [hsz]) (by rw [hsz,← RelCs.length rx1];simp;omega) (by rw [hsz];exact hagg);have p2:=VR (P:=P) (w:=w) (T:=e) (off:=q * P.cellsOf e) (vs:=us.toArray) hdu (l:=(us.drop (q * te.length)).take te.length) (by rw [hsz]) (by rw [hsz,← RelCs.length ry1];simp;omega) (by rw [hsz];exact hagg);have p3:=Vz n d e te _ _ _ _ b1 (by omega) hek hte rx1 ry1 kx1 ky1 e1;rw [List.drop_drop] at rx2 ry2;have hq:q * te.length+te.length=(q+1) * te.length:=by rw [Nat.add_mul,Nat.one_mul]
          rw [hq] at rx2 ry2;have p4:=ih (q+1) _ _ b2 rx2 ry2 kx2 ky2 e2;simp only [List.range'_succ,Op.eqItems,Sem.run_bind,p1,p2,p3,Result.andThen_ok];cases b1
          · simp
          · simpa using p4
      rw [← h2] at kx ky;exact key k 0 xs ys b (by simpa using hx) (by simpa using hy) kx ky he
    · cases h
end
end Go.Px
end
