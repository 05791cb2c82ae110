/- Part 9. -/
import Derived.Test.YtlbbobdcfhkkfaaGreatDoorPart08
set_option linter.unusedVariables false
set_option linter.unusedSimpArgs false
namespace Go.Px
structure Inn where
 side:Int
 target:Int
 overs:Int
 runs:Int
 wickets:Int
 wides:Int
 noballs:Int
 byes:Int
 legbyes:Int
 pens:Int
 complete:Int
 inover:Int
 striker:Int
 other:Int
 batters:Rows
 bowler:Int
 bowlers:Rows
 before:Rows
 fresh:Bool
 bowled:Rows
 freehit:Bool
 ballage:Int
 keeper:Int
 outside:Int
 subs:Rows
 rev1:Int
 rev2:Int
 ending:Int
structure Rul where
 name:ByteArray
 side:Int
 innings:Int
 overs:Int
 balls:Int
 quota:Int
 wide:Int
 noball:Int
 freehit:Bool
 newball:Int
 followon:Int
 reviews:Int
 outside:Int
 power:Rows
structure Del where
 type:Int
 source:Int
 runs:Int
 short:Int
 boundary:Int
 crossed:Bool
 how:Int
 victim:Int
 fielder:Int
 second:Int
 sub:Bool
 sector:Int
structure Ev where
 kind:Int
 side:Int
 player:Int
 other:Int
 yes:Bool
 runs:Int
 overs:Int
 ball:Del
def Inn.ls (s:Inn):List PV:=[.int s.side,.int s.target,.int s.overs,.int s.runs,.int s.wickets,.int s.wides,.int s.noballs,.int s.byes,.int s.legbyes,.int s.pens,.int s.complete,.int s.inover,.int s.striker,.int s.other,.rows s.batters,.int s.bowler,.rows s.bowlers,.rows s.before,.bool s.fresh,.rows s.bowled,.bool s.freehit,.int s.ballage,.int s.keeper,.int s.outside,.rows s.subs,.int s.rev1,.int s.rev2,.int s.ending]
def Rul.ls (r:Rul):List PV:=[.str r.name,.int r.side,.int r.innings,.int r.overs,.int r.balls,.int r.quota,.int r.wide,.int r.noball,.bool r.freehit,.int r.newball,.int r.followon,.int r.reviews,.int r.outside,.rows r.power]
def Del.ls (d:Del):List PV:=[.int d.type,.int d.source,.int d.runs,.int d.short,.int d.boundary,.bool d.crossed,.int d.how,.int d.victim,.int d.fielder,.int d.second,.bool d.sub,.int d.sector]
def Bk (x:Inn×Int):List PV:=[.int x.1.side,.int x.1.target,.int x.1.overs,.int x.1.runs,.int x.1.wickets,.int x.1.wides,.int x.1.noballs,.int x.1.byes,.int x.1.legbyes,.int x.1.pens,.int x.1.complete,.int x.1.inover,.int x.1.striker,.int x.1.other,.rows x.1.batters,.int x.1.bowler,.rows x.1.bowlers,.rows x.1.before,.bool x.1.fresh,.rows x.1.bowled,.bool x.1.freehit,.int x.1.ballage,.int x.1.keeper,.int x.1.outside,.rows x.1.subs,.int x.1.rev1,.int x.1.rev2,.int x.1.ending,.int x.2]
structure Fit (bt bw bf bd sb:Rows):Prop where
 bt:bt.length≤1048576
 bw:bw.length≤1048576
 bf:bf.length≤1048576
 bd:bd.length≤1048576
 sb:sb.length≤1048576
theorem Fit.bw' {bt bw bf bd sb:Rows} (h:Fit bt bw bf bd sb):bw.length≤1048576:=h.bw
theorem AAn {L:Rows} {b:Nat} (h:L.length≤1048576) (hb:b≤4096):iSm (L.length:Int) b=true:=Gu (by omega) hb
abbrev Inn.Fit (s:Inn):Prop:=Px.Fit s.batters s.bowlers s.before s.bowled s.subs
def inR (p:Int) (n:Nat):Bool:=iLe 1 p&&iLe p (n:Int)
theorem Mr {p:Int} {n:Nat} (h:inR p n=true) (hn:n≤1048576):iIn (IntKind.i64.wrap (p - 1)) (n:Int)=true:=by
 simp only [inR,iLe,zzj,decide_eq_true_eq] at h;rw [A9 (by omega) (by omega)];simp only [iIn,decide_eq_true_eq];omega
theorem AAv (b:Bool) (x y z:Int):(cond b x y==z)=cond b (x==z) (y==z):=by cases b<;>rfl
theorem AAs (b:Bool) (x y:Int):cond b [PV.int x] [PV.int y]=[PV.int (cond b x y)]:=by cases b<;>rfl
theorem MW:((0:Nat):Int)=0:=rfl
theorem pI:((1:Nat):Int)=1:=rfl
theorem ABB:((2:Nat):Int)=2:=rfl
theorem ABJ:((3:Nat):Int)=3:=rfl
theorem jA {a b c:Int} (h:(a==b)=true) (hbc:(b==c)=false):(a==c)=false:=by rw [beq_iff_eq.1 h];exact hbc
theorem zM (b x:Bool):cond b b x=(b||x):=by cases b<;>rfl
theorem Inn.eta (s:Inn):Inn.mk s.side s.target s.overs s.runs s.wickets s.wides s.noballs s.byes s.legbyes s.pens s.complete s.inover s.striker s.other s.batters s.bowler s.bowlers s.before s.fresh s.bowled s.freehit s.ballage s.keeper s.outside s.subs s.rev1 s.rev2 s.ending=s:=rfl
theorem Rul.eta (r:Rul):Rul.mk r.name r.side r.innings r.overs r.balls r.quota r.wide r.noball r.freehit r.newball r.followon r.reviews r.outside r.power=r:=rfl
theorem ABD {p:Int} {n:Nat} {X Y:Option (List PV)} (hn:n≤1048576):cond (inR p n) (cond (iIn (IntKind.i64.wrap (p - 1)) (n:Int)) X none) Y=cond (inR p n) X Y:=by
 cases h:inR p n with
 | false=>rfl
 | true=>rw [Mr h hn];rfl
def ix (p:Int):Nat:=(IntKind.i64.wrap (p - 1)).toNat
def DX (L:Rows) (p v:Int):Rows:=L.set (ix p) (Ac (AB L (ix p)) 0 [.int v])
def wy (L:Rows) (p:Int) (v:Bool):Rows:=L.set (ix p) (Ac (AB L (ix p)) 0 [.bool v])
theorem FA (L:Rows) (p v:Int):(DX L p v).length=L.length:=by simp [DX]
theorem xj (L:Rows) (p:Int) (v:Bool):(wy L p v).length=L.length:=by simp [wy]
theorem CB {L:Rows} {b:Nat} (h:L.length≤1048576) (hb:b≤4096):Qk b [.rows L]=some [.rows L]:=by
 have h1:=Gu (n:=L.length) (b:=b) (by omega) hb;have:au L.length b=true:=by
  simp only [iSm,decide_eq_true_eq] at h1;simp only [au,decide_eq_true_eq];have h2:=h1.2.2.1;rw [← Int.natCast_mul] at h2;omega
 simp only [Qk,this]
def Ce (L:Rows):Bool:=CO (fun i => !(atI L i 0==0)) L.length 0
def GB (L:Rows) (s n:Int):Bool:=Ce L&&(s==0||n==0)
def EY (L:Rows):Nat→Rows
 | 0=>[]
 | i+1=>cond (atI L i 0==0||atI L i 0==3) (EY L i++[[.int ((i:Int)+1)]]) (EY L i)
theorem eO (L:Rows):∀ i,(EY L i).length≤i
 | 0=>Nat.le_refl _
 | i+1=>by
  have:=eO L i;unfold EY;cases (atI L i 0==0||atI L i 0==3)
  ·exact Nat.le_succ_of_le this
  ·simp;exact this
theorem zS {v:Int} (h:(v==1)=true):(v==2)=false:=by
 have:=beq_iff_eq.1 h;rw [beq_eq_false_iff_ne];omega
theorem PXm : (∀ (b : Bool) (x y : List PV), cond b (some x) (some y) = some (cond b x y)) ∧ (∀ {α : Type} (b : Bool) (x : α), cond b x x = x) ∧ (∀ b x : Bool, cond b b x = (b || x)) ∧ (((0 : Nat) : Int) = 0) ∧ (((1 : Nat) : Int) = 1) ∧ (((2 : Nat) : Int) = 2) ∧ (((3 : Nat) : Int) = 3) ∧
    (∀ (b:Bool) (x y:Int),cond b [PV.int x] [PV.int y]=[PV.int (cond b x y)])∧(∀ (b x y:Bool),cond b [PV.bool x] [PV.bool y]=[PV.bool (cond b x y)])∧(∀ {α:Type} (l:List α) (i:Nat) (a:α),(l.set i a).length=l.length) ∧
    (∀ (b:Bool) (x y z:Int),(cond b x y==z)=cond b (x==z) (y==z))∧(∀ x:Int,(x==x)=true)∧(∀ x:Bool,(x==x)=true) ∧
    (∀ s:Inn,s.ls=[.int s.side,.int s.target,.int s.overs,.int s.runs,.int s.wickets,.int s.wides,.int s.noballs,.int s.byes,.int s.legbyes,.int s.pens,.int s.complete,.int s.inover,.int s.striker,.int s.other,.rows s.batters,.int s.bowler,.rows s.bowlers,.rows s.before,.bool s.fresh,.rows s.bowled,.bool s.freehit,.int s.ballage,.int s.keeper,.int s.outside,.rows s.subs,.int s.rev1,.int s.rev2,.int s.ending]) ∧
    (∀ x:Inn×Int,Bk x=[.int x.1.side,.int x.1.target,.int x.1.overs,.int x.1.runs,.int x.1.wickets,.int x.1.wides,.int x.1.noballs,.int x.1.byes,.int x.1.legbyes,.int x.1.pens,.int x.1.complete,.int x.1.inover,.int x.1.striker,.int x.1.other,.rows x.1.batters,.int x.1.bowler,.rows x.1.bowlers,.rows x.1.before,.bool x.1.fresh,.rows x.1.bowled,.bool x.1.freehit,.int x.1.ballage,.int x.1.keeper,.int x.1.outside,.rows x.1.subs,.int x.1.rev1,.int x.1.rev2,.int x.1.ending,.int x.2]) ∧
    (∀ s:Inn,Inn.mk s.side s.target s.overs s.runs s.wickets s.wides s.noballs s.byes s.legbyes s.pens s.complete s.inover s.striker s.other s.batters s.bowler s.bowlers s.before s.fresh s.bowled s.freehit s.ballage s.keeper s.outside s.subs s.rev1 s.rev2 s.ending=s) ∧
    (∀ r:Rul,Rul.mk r.name r.side r.innings r.overs r.balls r.quota r.wide r.noball r.freehit r.newball r.followon r.reviews r.outside r.power=r) :=
  ⟨ABA,AAK,zM,MW,pI,ABB,ABJ,AAs,AAX,fun _ _ _=>List.length_set,AAv,fun _=>beq_self_eq_true _,fun _=>beq_self_eq_true _,fun _=>rfl,fun _=>rfl,Inn.eta,Rul.eta⟩
end Go.Px
