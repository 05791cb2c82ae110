/- Part 12. -/
import Derived.Test.YtefmhiojnbekpaaGreatDoorPart11
set_option linter.unusedVariables false
set_option linter.unusedSimpArgs false
section
namespace Go.Px
set_option maxRecDepth 100000
def aU (xs:List Int):Rows:=xs.map fun x=>[.int x]
theorem Ye (xs:List Int):(aU xs).length=xs.length:=List.length_map _
theorem pF (xs:List Int) (i:Nat):AF (aU xs) i=(match xs[i]? with | some x=>[.int x] | none=>[]):=by
 unfold AF aU;rw [List.getD_eq_getElem?_getD,List.getElem?_map];cases xs[i]?<;>rfl
theorem lS (xs:List Int) (i:Nat):atI (aU xs) i 0=xs.getD i 0:=by
 unfold atI AH;rw [pF,List.getD_eq_getElem?_getD];cases xs[i]?<;>rfl
structure SumSt (D:Rows) (n i:Nat) (s:List Int×List Int×Int):Prop where
 l1:s.1.length=n
 l2:s.2.1.length=n
 r:∀ k,k<n→s.1.getD k 0=wr (rS D k i)
 b:∀ k,k<n→s.2.1.getD k 0=wr (bS D k i)
 h:s.2.2=wr (hS D i)
end Go.Px
end
section
namespace Go.Px
set_option maxRecDepth 100000
structure Sco where
 side:Int
 runs:Int
 wickets:Int
 balls:Int
 wides:Int
 noballs:Int
 byes:Int
 legbyes:Int
 pens:Int
 ending:Int
structure CreOk (c:Cre):Prop where
 ba:0≤c.batter∧c.batter≤13
 wi:0≤c.wides∧c.wides≤18
 no:0≤c.noballs∧c.noballs≤5
 bb:0≤c.byes∧c.byes≤13
 lb:0≤c.legbyes∧c.legbyes≤13
 bo:c.bowler=c.batter+c.wides+c.noballs
 tot:Ss c=c.batter+c.wides+c.noballs+c.byes+c.legbyes
def oz:Cre:=⟨0,0,0,0,0,0,false,false,false,false⟩
def aB (r:Rul) (e:Ev):Cre:=cond (e.kind==4) (Az r e.ball) oz
end Go.Px
end
section
namespace Go.Px
set_option maxRecDepth 100000
def sco (xs:List Sco) (i:Nat):Sco:=xs.getD i ⟨0,0,0,0,0,0,0,0,0,0⟩
structure TS where
 xs:List Sco
 p1:Int
 p2:Int
 first:Int
 follow:Bool
def lO (sd:Nat→Int) (s:Int):Nat→Option Nat
 | 0=>none
 | k+1=>cond (sd k==s) (some k) (lO sd s k)
def oH (e:Ev):Int:=cond e.yes e.side (Cw e.side)
structure Stg (m:Mat) (e:Ev) (t:Mat):Prop where
 k1:(e.kind==1)=true→m.stage=1∧t.stage=2
 k2:(e.kind==2)=true→m.stage=2∧m.inns.length≤3
 k12:(e.kind==12)=true→m.stage=4∧m.inns.length=2∧t.stage=2
 k16:(e.kind==16)=true→t.stage=5
 play:(e.kind==1)=false→(e.kind==2)=false→(e.kind==12)=false→(e.kind==16)=false→m.stage=3∧1≤m.inns.length
 not1:¬ t.stage=1
 four:t.stage=4→t.inns.length=2
end Go.Px
end
section
namespace Go.Px
set_option maxRecDepth 100000
def opn (L:Rows):Nat→Nat
 | 0=>0
 | n+1=>opn L n+cond ((evR L n).kind==2) 1 0
def Z4 (L:Rows):Nat→Option Int
 | 0=>none
 | n+1=>match Z4 L n with
  | some v=>some v
  | none=>cond ((evR L n).kind==1) (some (oH (evR L n))) none
def oM (L:Rows):Nat→Bool
 | 0=>false
 | n+1=>oM L n||((evR L n).kind==12&&(evR L n).yes)
def had (L:Rows):Nat→Bool
 | 0=>false
 | n+1=>had L n||(evR L n).kind==12
structure LogI (L:Rows) (i:Nat) (m:Mat):Prop where
 len:m.inns.length=opn L i
 fs:∀ v,Z4 L i=some v→m.first=v∧¬ m.stage=1
 fn:Z4 L i=none→m.first=0
 fol:m.follow=oM L i
 k12:had L i=true→(m.inns.length=2∧(m.stage=2∨m.stage=5))∨3≤m.inns.length
structure EvF (L:Rows) (i:Nat):Prop where
 two:((evR L i).kind==2)=true→opn L i≤3∧∃ v,Z4 L i=some v∧(v=1∨v=2)
 twelve:((evR L i).kind==12)=true→opn L i=2
 play:((evR L i).kind==1)=false→((evR L i).kind==2)=false→((evR L i).kind==12)=false→((evR L i).kind==16)=false→1≤opn L i
def smi (L:Rows) (f:Ev→Int) (j:Nat):Nat→Int
 | 0=>0
 | n+1=>smi L f j n+cond (Nat.beq (opn L (n+1)) (j+1)) (f (evR L n)) 0
def oO (sd:Nat→Int) (s:Int):Nat→Nat→Option Nat
 | 0,_=>none
 | c+1,i=>cond (sd i==s) (some i) (oO sd s c (i+1))
def pT (sd:Nat→Int) (n k:Nat) (s:Int):Option Nat:=match lO sd s (k+1) with
 | some j=>some j
 | none=>oO sd s (n - (k+1)) (k+1)
def isS (o:Option Nat) (j:Nat):Bool:=match o with
 | some k=>Nat.beq k j
 | none=>false
def pnS (L:Rows) (sd:Nat→Int) (n j:Nat):Nat→Int
 | 0=>0
 | i+1=>pnS L sd n j i+cond ((evR L i).kind==13&&isS (pT sd n (opn L (i+1) - 1) (evR L i).side) j) 5 0
def pcS (L:Rows) (s:Int):Nat→Int
 | 0=>0
 | i+1=>pcS L s i+cond ((evR L i).kind==13&&(evR L i).side==s) 5 0
def mU (L:Rows) (sd:Nat→Int) (s:Int) (k i:Nat):Int:=match lO sd s k with
 | some _=>0
 | none=>pcS L s i
def pU (r:Rul) (e:Ev):Int:=Ss (aB r e)
def pX (r:Rul) (e:Ev):Int:=cond (aB r e).counts 1 0
def pO (r:Rul) (L:Rows) (sd:Nat→Int) (n j i:Nat):Sco:=⟨sd j,smi L (pU r) j i+pnS L sd n j i,smi L pV j i,smi L (pX r) j i,smi L (fun e=>(aB r e).wides) j i,smi L (fun e=>(aB r e).noballs) j i,smi L (fun e=>(aB r e).byes) j i,smi L (fun e=>(aB r e).legbyes) j i,pnS L sd n j i,0⟩
structure Clo (r:Rul) (L:Rows) (sd:Nat→Int) (n i:Nat) (T:TS):Prop where
 len:T.xs.length=opn L i
 at':∀ j,j<opn L i→sco T.xs j=pO r L sd n j i
 p1:T.p1=mU L sd 1 (opn L i) i
 p2:T.p2=mU L sd 2 (opn L i) i
end Go.Px
end
section
namespace Go.Px
set_option maxRecDepth 100000
def Sco.ls (s:Sco):List PV:=[.int s.side,.int s.runs,.int s.wickets,.int s.balls,.int s.wides,.int s.noballs,.int s.byes,.int s.legbyes,.int s.pens,.int s.ending]
def FU (xs:List (Int×Int)):Rows:=xs.map fun x=>[.int x.1,.int x.2]
def pr (xs:List (Int×Int)) (i:Nat):Int×Int:=xs.getD i (0,0)
theorem jR (xs:List (Int×Int)) (i:Nat):pr xs i=(match xs[i]? with | some s=>s | none=>(0,0)):=by
 unfold pr;rw [List.getD_eq_getElem?_getD];cases xs[i]?<;>rfl
theorem fJ (xs:List (Int×Int)) (i:Nat):AF (FU xs) i=(match xs[i]? with | some s=>[.int s.1,.int s.2] | none=>[]):=by
 unfold AF FU;rw [List.getD_eq_getElem?_getD,List.getElem?_map];cases xs[i]?<;>rfl
theorem fe (xs:List (Int×Int)):(FU xs).length=xs.length:=List.length_map _
theorem PXp : (∀ xs : List (Int × Int), (FU xs).length = xs.length) ∧ (∀ (xs : List (Int × Int)) (i : Nat), pvI (AH (FU xs) i 0) = (pr xs i).1) ∧ (∀ (xs : List (Int × Int)) (i : Nat), pvI (AH (FU xs) i 1) = (pr xs i).2) ∧
    (∀ (xs:List (Int×Int)) (i:Nat) (v:Int),(FU xs).set i (Ay (AF (FU xs) i) 1 [.int v])=FU (xs.set i ((pr xs i).1,v)))∧(∀ (xs:List (Int×Int)) (a b:Int),FU xs++[([.int a,.int b]:List PV)]=FU (xs++[(a,b)])):=by
  refine ⟨fe,?_,?_,?_,?_⟩
  · intro xs i;rw [jR];unfold AH;rw [fJ];cases xs[i]?<;>rfl
  · intro xs i;rw [jR];unfold AH;rw [fJ];cases xs[i]?<;>rfl
  · intro xs i v
    by_cases hi:i<xs.length
    · have e:AF (FU xs) i=[.int (pr xs i).1,.int (pr xs i).2]:=by rw [fJ,jR,List.getElem?_eq_getElem hi]
      rw [e];exact (List.map_set (f:=fun x:Int×Int=>[PV.int x.1,PV.int x.2]) (l:=xs) (i:=i) (a:=((pr xs i).1,v))).symm
    · rw [List.set_eq_of_length_le (by rw [fe];omega),List.set_eq_of_length_le (by omega)]
  · intro xs a b;exact (List.map_append (f:=fun x:Int×Int=>[PV.int x.1,PV.int x.2]) (l₁:=xs) (l₂:=[(a,b)])).symm
end Go.Px
end
section
namespace Go.Px
set_option maxRecDepth 100000
theorem kq (L:Rows):∀ i,opn L i≤i
 | 0=>Nat.le_refl _
 | i+1=>by
  have:=kq L i;show opn L i+cond _ 1 0≤_;cases (evR L i).kind==2<;>simp only [cond_true,cond_false]<;>omega
def Md (xs:List (Int×Int)) (v:Int):List (Int×Int):=cond (iLt 0 (xs.length:Int)) (xs.set (IntKind.i64.wrap ((xs.length:Int) - 1)).toNat ((pr xs (IntKind.i64.wrap ((xs.length:Int) - 1)).toNat).1,v)) xs
def Cm (L:Rows):Nat→List (Int×Int)
 | 0=>[]
 | i+1=>cond ((evR L i).kind==2) (Md (Cm L i) (i:Int)++[((i:Int),(L.length:Int))]) (Cm L i)
theorem gG (xs:List (Int×Int)) (v:Int):(Md xs v).length=xs.length:=by
 unfold Md;cases iLt 0 (xs.length:Int)
 ·rfl
 ·exact List.length_set
theorem aV (L:Rows):∀ i,(Cm L i).length=opn L i
 | 0=>rfl
 | i+1=>by
  have ih:=aV L i;show (cond ((evR L i).kind==2) _ (Cm L i)).length=opn L i+cond ((evR L i).kind==2) 1 0;cases (evR L i).kind==2 with
  | false=>exact ih
  | true=>rw [cond_true,cond_true,List.length_append,gG,ih];rfl
theorem mo {n:Nat} (h:0<n) (h2:n≤1048576):(IntKind.i64.wrap ((n:Int) - 1)).toNat=n - 1∧iIn (IntKind.i64.wrap ((n:Int) - 1)) (n:Int)=true:=by
 rw [Dn (by omega) (by omega)];refine ⟨by omega,?_⟩;simp only [iIn,decide_eq_true_eq];omega
theorem lh {N : Nat} {L : Rows} (hN : 2097152 < N) (hL : L.length ≤ 1048576) {F : (List AU → Option (List PV)) → List PV → Option (List PV)}
    (h0:∀ self,F self [.rows (FU (Cm L L.length)),.int (L.length:Int)]=some [.rows (FU (Cm L L.length))])
    (h1:∀ i self,i<L.length→(Cm L i).length≤1048575→F self [.rows (FU (Cm L i)),.int (i:Int)]=self [.rows (FU (Cm L (i+1))),.int (((i+1:Nat)):Int)]):Cy F N [.rows (FU []),.int 0]=some [.rows (FU (Cm L L.length))]:=by
  have:=DY (F:=F) (len:=L.length) (fun i=>[.rows (FU (Cm L i)),.int (i:Int)]) [.rows (FU (Cm L L.length))] h0 (fun i self hi=>h1 i self hi (by rw [aV];have:=kq L i;omega)) N (by omega);exact this
theorem CN {i:Nat} (h:i≤1099511627776):IntKind.i64.wrap ((i:Int)+1)=((i+1:Nat):Int):=Ax h
theorem lC {L:Rows} {i:Nat} {xs:List (Int×Int)} (hk:((evR L i).kind==2)=true) (he:Cm L i=xs) (h:iLt 0 (xs.length:Int)=true):Cm L (i+1)=xs.set (IntKind.i64.wrap ((xs.length:Int) - 1)).toNat ((pr xs (IntKind.i64.wrap ((xs.length:Int) - 1)).toNat).1,(i:Int))++[((i:Int),(L.length:Int))]:=by
 show cond ((evR L i).kind==2) (Md (Cm L i) (i:Int)++[((i:Int),(L.length:Int))]) (Cm L i)=_;rw [hk,he];unfold Md;rw [h];rfl
theorem jj {L:Rows} {i:Nat} {xs:List (Int×Int)} (hk:((evR L i).kind==2)=true) (he:Cm L i=xs) (h:iLt 0 (xs.length:Int)=false):Cm L (i+1)=xs++[((i:Int),(L.length:Int))]:=by
 show cond ((evR L i).kind==2) (Md (Cm L i) (i:Int)++[((i:Int),(L.length:Int))]) (Cm L i)=_;rw [hk,he];unfold Md;rw [h];rfl
theorem lV {L:Rows} {i:Nat} (hk:((evR L i).kind==2)=false):Cm L (i+1)=Cm L i:=by
 show cond ((evR L i).kind==2) _ (Cm L i)=_;rw [hk];rfl
set_option maxHeartbeats 1000000 in
theorem aE {N:Nat} {L:Rows} (hN:2097152<N) (hL:L.length≤1048576):I0 N [.rows L]=some [.rows (FU (Cm L L.length))]:=by
 show Iv (std (Qv N) N) (xOf _)=_;simp only [Iv,Alg.q,std,xOf,PXb];refine AW (lh hN hL ?_ ?_) rfl
 ·intro self;simp only [PXb,PXc,PXn,AE,BI]
 ·intro i self hi hlen;have kk:(evR L i).kind=atI L i 0:=rfl;simp only [PXb,PXc,PXn,AE,CN (show i≤1099511627776 by omega),Ar hi,AX hi,CO,PXp,← kk];cases hk:(evR L i).kind==2 with
  | false =>
   rw [lV hk];rfl
  | true =>
   simp only [PXb,Bool.not_true];generalize he:Cm L i=xs at hlen;cases h0:iLt 0 (xs.length:Int) with
   | false =>
    have sm:iSm ((xs.length+1:Nat):Int) 16=true:=Fp (by omega) (by omega);rw [jj hk he h0];simp only [PXb,PXc,PXn,AE,PXp,List.length_append,List.length_cons,List.length_nil,sm,Nat.reduceAdd]
   | true =>
    have h1:0<xs.length:=by simp only [iLt,decide_eq_true_eq] at h0;omega
    have sm:iSm ((xs.length+1:Nat):Int) 16=true:=Fp (by omega) (by omega);rw [lC hk he h0];simp only [PXb,PXc,PXn,AE,PXp,List.length_append,List.length_cons,List.length_nil,List.length_set,sm,Nat.reduceAdd,(mo h1 (by omega)).2]
def zs (g:Nat→Int) (n:Nat):List Int:=(List.range n).map g
end Go.Px
end
section
namespace Go.Px
set_option maxRecDepth 100000
def TT (L:Rows) (k:Nat):Nat:=if k<opn L L.length then (pr (Cm L L.length) k).1.toNat else L.length
structure Seg (L:Rows) (k:Nat):Prop where
 x0:(pr (Cm L L.length) k).1=(TT L k:Int)
 x1:(pr (Cm L L.length) k).2=(TT L (k+1):Int)
 lt:TT L k<TT L (k+1)
 le:TT L (k+1)≤L.length
 o0:opn L (TT L k)=k
 o1:opn L (TT L (k+1))=k+1
 mid:∀ j,TT L k≤j→j<TT L (k+1)→opn L (j+1)=k+1
structure Sml (x:Sco):Prop where
 runs:0≤x.runs∧x.runs≤1000000
 wk:0≤x.wickets∧x.wickets≤1000000
 balls:0≤x.balls∧x.balls≤1000000
 wides:0≤x.wides∧x.wides≤1000000
 no:0≤x.noballs∧x.noballs≤1000000
 bb:0≤x.byes∧x.byes≤1000000
 lb:0≤x.legbyes∧x.legbyes≤1000000
 pens:0≤x.pens∧x.pens≤1000000
end Go.Px
end
section
namespace Go.Px
set_option maxRecDepth 100000
structure InLog (L:Rows):Prop where
 len:L.length≤4000
 pen:∀ j,j<L.length→((evR L j).kind==13)=true→1≤opn L (j+1)
end Go.Px
end
