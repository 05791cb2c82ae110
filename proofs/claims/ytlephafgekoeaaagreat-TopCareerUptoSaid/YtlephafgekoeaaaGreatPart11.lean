/- Part 11. -/
import Derived.Test.YtlephafgekoeaaaGreatPart10
set_option linter.unusedVariables false
set_option linter.unusedSimpArgs false
variable {s0 s1 s2 s3 s4 s5 s6 s7 s8 s9 s10 s11 s12 s13 s15 s21 s22 s23 s25 s26 s27:Int}
variable {s14 s16 s17 s19 s24:Go.Px.Rows}
variable {r1 r2 r3 r4 r5 r6 r7 r9 r10 r11 r12:Int}
variable {d0 d1 d2 d3 d4 d6 d7 d8 d9 d11:Int}
variable {e0 e1 e2 e3 e5 e6 e7 e8 e9 e10 e11 e13 e14 e15 e16 e18:Int}
section
namespace Go.Px
set_option maxRecDepth 100000
structure Cre where
 batter:Int
 wides:Int
 noballs:Int
 byes:Int
 legbyes:Int
 bowler:Int
 counts:Bool
 faced:Bool
 wicket:Bool
 swap:Bool
def Cre.ls (c:Cre):List PV:=[.int c.batter,.int c.wides,.int c.noballs,.int c.byes,.int c.legbyes,.int c.bowler,.bool c.counts,.bool c.faced,.bool c.wicket,.bool c.swap]
def RI (d:Del):Bool :=
  cond (d.type==2) (d.source==0 && !(d.boundary==6)) (cond (d.source==0) (d.runs==0&&d.boundary==0)
    (cond (d.boundary==0) (iLt 0 d.runs) (cond (d.boundary==6) (d.source==1&&d.runs==0) true)))
def Dt (d:Del):Int :=
  cond (iLt d.type 1||iLt 3 d.type||iLt 3 d.source||iLt 10 d.how || !btw d.sector 0 8) 11
    (cond (!btw d.runs 0 7 || !btw d.short 0 d.runs||(!(d.boundary==0) && !(d.boundary==4) && !(d.boundary==6))) 12
      (cond (!RI d) 11 (cond (!(d.sector==0) && !(d.source==1) && !(d.how==2)) 11 (cond (!(d.boundary==0) && !(d.how==0)) 11
        (cond (d.crossed && !(d.how==6) && !(d.how==8)) 11 0)))))
def Qt (d:Del):Bool :=
  cond (d.type==2) (d.source==0 && !(d.boundary==6)) (cond (d.source==0) (d.runs==0&&d.boundary==0)
    (cond (d.source==1) (!(d.boundary==6)||d.runs==0) (!(d.boundary==6)&&(iLt 0 d.runs || !(d.boundary==0)))))
theorem ZS {N:Nat} {d5 d10:Bool}  : EG N [.int d0,.int d1,.int d2,.int d3,.int d4,.bool d5,.int d6,.int d7,.int d8,.int d9,.bool d10,.int d11]=some [.bool (Qt (⟨d0,d1,d2,d3,d4,d5,d6,d7,d8,d9,d10,d11⟩:Del))]:=by
 show GZ (std (Nx N) N) (xOf _)=_;generalize hres:(some [.bool (Qt (⟨d0,d1,d2,d3,d4,d5,d6,d7,d8,d9,d10,d11⟩:Del))]:Option (List PV))=RR;simp only[GZ,lq9,std,xOf,PXb,PXc,PXn,PXm,Nat.reduceAdd,Int.reduceBEq];trivial
theorem ADQ (x a b:Int):(!btw x a b)=(iLt x a||iLt b x):=by
 unfold btw iLe iLt
 grind
theorem AAm {d:Del} (h:0≤d.runs):(!Qt d || !d.type==2&&d.source==1&&d.runs==0&&d.boundary==0) = !RI d:=by
 unfold Qt RI;rw[AA0 h]
 grind
theorem TI {N:Nat} {d5 d10:Bool}  : Cq N [.int d0,.int d1,.int d2,.int d3,.int d4,.bool d5,.int d6,.int d7,.int d8,.int d9,.bool d10,.int d11]=some [.int (Dt (⟨d0,d1,d2,d3,d4,d5,d6,d7,d8,d9,d10,d11⟩:Del))]:=by
 show JC (std (LO N) N) (xOf _)=_;generalize hres:(some [.int (Dt (⟨d0,d1,d2,d3,d4,d5,d6,d7,d8,d9,d10,d11⟩:Del))]:Option (List PV))=RR;simp only[JC,MD,lq9,std,xOf,PXb,PXc,PXn,PXm,Nat.reduceAdd,Int.reduceBEq,ZS];subst hres;simp only[Dt,ADQ,Bool.or_assoc];cases h2:(iLt d2 0||(iLt 7 d2||(iLt d3 0||(iLt d2 d3 || !d4==0 && !d4==4 && !d4==6))))
 ·have h3:0≤d2:=by
   rw[Bool.or_eq_false_iff]at h2;have:=h2.1;simp only[iLt,decide_eq_false_iff_not]at this;omega
  have:=AAm (d:=(⟨d0,d1,d2,d3,d4,d5,d6,d7,d8,d9,d10,d11⟩:Del)) h3
  simp_all
 rfl
theorem fG {N:Nat} {a:Int} {b:Int} {c:Int} {d:Int} {e:Int} {x:Int} {p:Bool} {q:Bool} {u:Bool} {v:Bool}  : F1 N [.int a,.int b,.int c,.int d,.int e,.int x,.bool p,.bool q,.bool u,.bool v]=some [.int (IntKind.i64.wrap (IntKind.i64.wrap (IntKind.i64.wrap (IntKind.i64.wrap (a+b)+c)+d)+e))]:=by
 rfl
def Da (c:Cre):Int:=IntKind.i64.wrap (IntKind.i64.wrap (IntKind.i64.wrap (IntKind.i64.wrap (c.batter+c.wides)+c.noballs)+c.byes)+c.legbyes)
def WX (h:Int):Bool:=iLe 1 h&&iLe h 5
theorem ZQ {N:Nat} {h:Int}  : EF N [.int h]=some [.bool (WX h)]:=by
 show GW (std (Nf N) N) (xOf _)=_;simp only[GW,lq9,std,xOf,PXb,PXc,PXn,PXm,Nat.reduceAdd,Int.reduceBEq,WX]
def J7 (r:Rul) (d:Del):Cre :=
  let n:=IntKind.i64.wrap (IntKind.i64.wrap (d.runs-d.short)+d.boundary)
  let b:=cond (!(d.type==2)&&d.source==1) n 0
  let w:=cond (d.type==2) (IntKind.i64.wrap (r.wide+n)) 0
  let o:=cond (d.type==3) r.noball 0
  { batter:=b,wides:=w,noballs:=o,byes:=cond (!(d.type==2)&&d.source==2) n 0,legbyes:=cond (!(d.type==2)&&d.source==3) n 0,bowler:=IntKind.i64.wrap (IntKind.i64.wrap (b+w)+o),
    counts:=d.type==1,faced := !(d.type==2),wicket:=WX d.how,swap := !((!(d.runs.tmod 2==0))==d.crossed) }
def AF (r:Rul) (d:Del):Cre:=cond (!(Dt d==0)) ⟨0,0,0,0,0,0,false,false,false,false⟩ (J7 r d)
theorem vZ {d:Del} (h:(Dt d==0)=true):0≤d.runs∧d.runs≤7:=by
 unfold Dt at h;cases h1:(iLt d.type 1||iLt 3 d.type||iLt 3 d.source||iLt 10 d.how || !btw d.sector 0 8)
 ·cases h2:(!btw d.runs 0 7 || !btw d.short 0 d.runs||(!(d.boundary==0) && !(d.boundary==4) && !(d.boundary==6)))
  ·rw[Bool.or_eq_false_iff,Bool.or_eq_false_iff]at h2;have:=h2.1.1;simp only[btw,iLe,Bool.not_eq_false',zzj,decide_eq_true_eq]at this;exact this
  simp_all
 simp_all
theorem AA5 {n:Int} (h:0≤n∧n≤7) (b:Bool):((cond b (IntKind.i64.wrap (n+1)) n).tmod 2==1) = !((!(n.tmod 2==0))==b):=by
 obtain⟨k,rfl⟩:∃k:Nat,n=k:=⟨n.toNat,by omega⟩;have:k=0∨k=1∨k=2∨k=3∨k=4∨k=5∨k=6∨k=7:=by omega
 rcases this with h|h|h|h|h|h|h|h<;>subst h<;>cases b<;>rfl
theorem SR {N:Nat} {r8:Bool} {r0:ByteArray} {r13:Rows} {d5 d10:Bool}  : Cb N [.str r0,.int r1,.int r2,.int r3,.int r4,.int r5,.int r6,.int r7,.bool r8,.int r9,.int r10,.int r11,.int r12,.rows r13,.int d0,.int d1,.int d2,.int d3,.int d4,.bool d5,.int d6,.int d7,.int d8,.int d9,.bool d10,.int d11]=some (AF (⟨r0,r1,r2,r3,r4,r5,r6,r7,r8,r9,r10,r11,r12,r13⟩:Rul) (⟨d0,d1,d2,d3,d4,d5,d6,d7,d8,d9,d10,d11⟩:Del)).ls:=by
 show Hy (std (Ga N) N) (xOf _)=_;generalize hres:(some (AF (⟨r0,r1,r2,r3,r4,r5,r6,r7,r8,r9,r10,r11,r12,r13⟩:Rul) (⟨d0,d1,d2,d3,d4,d5,d6,d7,d8,d9,d10,d11⟩:Del)).ls:Option (List PV))=RR;simp only[Hy,NI,Lo,lq9,std,xOf,PXb,PXc,PXn,PXm,Nat.reduceAdd,Int.reduceBEq,TI,ZQ];subst hres;simp only[AF,J7];cases hl:Dt (⟨d0,d1,d2,d3,d4,d5,d6,d7,d8,d9,d10,d11⟩:Del)==0
 ·rfl
 have hs:=AA5 (vZ hl) d5;simp only at hs;simp only[PXb,PXc,PXn,PXm,Nat.reduceAdd,Int.reduceBEq,hs];cases h0:d0==2<;>cases h3:d0==3<;>cases h1:d1==1<;>cases h2:d1==2<;>cases h4:d1==3<;>first
  |rfl
  |simp_all
  |simp_all
  |simp_all
  |simp_all
def onS (h t:Int):Bool :=
 cond (h==1||h==2||h==3) (t==1) (cond (h==4||h==5) (t==1||t==2) (cond (h==7) (t==1||t==3) (cond (h==6||h==8) (t==1||t==2||t==3) false)))
def AAA (h:Int):Bool:=h==6||h==7||h==8
def TB (h:Int):Bool:=h==6||h==8
def jO (h:Int):Bool:=h==2||h==4||h==6
def Vr (d:Del) (free:Bool):Int :=
  cond (d.how==0) (cond (!(d.victim==0)) 14 (cond (!(d.fielder==0) || !(d.second==0)||d.sub) 15 0))
    (cond (!onS d.how d.type||free && !AAA d.how) 13 (cond (!TB d.how&&(!(d.source==0) || !(d.runs==0))) 12
      (cond (!(d.victim==1) && !(d.victim==2&&TB d.how)) 14
        (cond (jO d.how && !btw d.fielder 1 11 || !jO d.how && !(d.fielder==0)) 15
          (cond (!(d.second==0)&&(!(d.how==6) || !btw d.second 1 11||d.second==d.fielder)) 15
            (cond (d.sub && !(d.how==2) && !(d.how==6)) 18 0))))))
def DU:Rows:=match B3 0 []with
 |some [.rows l]=>l
 |_=>[]
theorem SW {N:Nat}:B3 N []=some [.rows DU]:=rfl
theorem fX:DU.length=11:=rfl
theorem Zn {N:Nat} {h:Int} {n:ByteArray} {b:Bool} {c:Bool} {d:Bool} {e:Bool} {x:Bool} {t:Int}  : Ed N [.int h,.str n,.bool b,.bool c,.bool d,.bool e,.bool x,.int t]=some [.bool (t==1&&b||t==2&&c||t==3&&d)]:=by
 show HJ (std (Oh N) N) (xOf _)=_;simp only[HJ,lq9,std,xOf,PXb,PXc,PXn,PXm,Nat.reduceAdd,Int.reduceBEq]
theorem V1 {N:Nat} {n:Int}  : DJ N [.int n]=some [.bool (btw n 1 11)]:=by
 show EY (std (LT N) N) (xOf _)=_;simp only[EY,lq9,std,xOf,PXb,PXc,PXn,PXm,Nat.reduceAdd,Int.reduceBEq];rfl
def vK (i j:Nat):Bool:=pvB (AD DU i j)
def wOk (t:Int) (free:Bool) (i:Nat):Bool :=
  (t==1&&vK i 2||t==2&&vK i 3||t==3&&vK i 4)&&(!free||atI DU i 0==6||atI DU i 0==7||atI DU i 0==8)
def JK (t:Int) (free:Bool):Nat→Rows
 |0=>[]
 |i+1=>cond (wOk t free i) (JK t free i++[[.int (atI DU i 0)]]) (JK t free i)
theorem f9 (t:Int) (free:Bool):∀i,(JK t free i).length≤i
 |0=>Nat.le_refl _
 |i+1=>by
  have:=f9 t free i;unfold JK
  grind
theorem eX {N:Nat} {t:Int} {f:Bool} (hN:2097152<N):GF N [.int t,.bool f]=some [.rows (JK t f 11)]:=by
 show I5 (std (HF N) N) (xOf _)=_;simp only[I5,NU,Mi,lq9,std,xOf,PXb,PXc,PXn,AE,SW,Zn];refine AN (BP (len:=DU.length) (fun i=>[.rows (JK t f i),.int (i:Int)]) [.rows (JK t f 11)] ?_ ?_ N (by rw[fX];omega)) rfl
 ·intro self;rfl
 intro i self hi;have hi2:i<11:=hi;have h2:(JK t f i++[[PV.int (atI DU i 0)]]).length≤4194304:=by have:=f9 t f i;simp;omega
 simp only[PXb,PXc,AE,A9 (show i≤1099511627776 by omega),Aa hi,AJ hi,Dc,JK,C4 h2 (show 1≤4096 by omega)];unfold wOk vK
 grind
theorem Zd {N:Nat} {L:Rows} {v:Int} (hN:L.length<N) (hl:L.length≤1048576):Ep N [.rows L,.int v]=some [.int (Dj (fun j=>v==atI L j 0) L.length)]:=by
 show HI (std (Oy N) N) (xOf _)=_;simp only[HI,lq9,std,xOf,PXb,PXc,PXn,AE];refine AN (B1 (len:=L.length) (DS fun j=>v==atI L j 0) ?_ ?_ L.length 0 N (by omega) (by omega)) ?_
 ·intro self;simp only[PXb,PXc,PXn,AE,Aj]
 ·intro i self hi;simp only[PXb,PXc,PXn,AE,A9 (show i≤1099511627776 by omega),Aa hi,AJ hi,DS,Dc]
  grind
 unfold Dj;cases Ax (DS fun j=>v==atI L j 0) L.length 0<;>rfl
theorem Wu {N:Nat} {L:Rows} {v:Int} (hN:L.length<N) (hl:L.length≤1048576):Db N [.rows L,.int v]=some [.bool (O1 L L.length v)]:=by
 show Ey (std (Gg N) N) (xOf _)=_;simp only[Ey,Jq,lq9,std,xOf,PXb,PXc,PXn,AE,Zd hN hl,HC,O1]
theorem zJ (L:Rows) (v:Int):O1 L L.length v=MF (fun x=>v==x) L:=rfl
theorem ACd (p:Int→Bool) (b:Bool) (L:Rows) (x:Int):MF p (cond b (L++[[.int x]]) L)=(MF p L||(b&&p x)):=by
 cases b
 ·simp
 rw[cond_true,pU,Bool.true_and];congr 1;rw[Pp];simp[AA,pvI]
theorem oc (t:Int) (free:Bool) (p:Int→Bool):∀i,MF p (JK t free i)=A8 (fun j=>wOk t free j&&p (atI DU j 0)) i 0
 |0=>rfl
 |i+1=>by rw[bE,←oc t free p i,JK,ACd,Nat.zero_add]
theorem zP (t h:Int) (free:Bool):O1 (JK t free 11) (JK t free 11).length h=(onS h t&&(!free||AAA h)):=by
 rw[zJ,oc];have key:∀j,j<11→atI DU j 0=j:=by
  trivial
 by_cases hr:0≤h∧h≤10
 ·obtain⟨k,rfl⟩:∃k:Nat,h=k:=⟨h.toNat,by omega⟩;have:k=0∨k=1∨k=2∨k=3∨k=4∨k=5∨k=6∨k=7∨k=8∨k=9∨k=10:=by omega
  rcases this with h|h|h|h|h|h|h|h|h|h|h<;>subst h<;>simp only[Bz,Kn,wOk,onS]<;>cases free<;>cases t==1<;>cases t==2<;>cases t==3<;>rfl
 rw[EP.2 fun j _ hj=>by
  grind]
 have e:∀n:Int,0≤n→n≤10→(h==n)=false:=fun n h0 h1=>beq_false_of_ne (by omega)
 unfold onS
 simp_all
def YU (h:Int):List PV:=match Ax (fun i=>cond (atI DU i 0==h) (some [.int (pvI (AD DU i 0)),.str (pvS (AD DU i 1)),.bool (pvB (AD DU i 2)),.bool (pvB (AD DU i 3)),.bool (pvB (AD DU i 4)),.bool (pvB (AD DU i 5)),.bool (pvB (AD DU i 6))]) none) 11 0 with
 |some r=>r
 |none=>[.int 0,.str ⟨#[]⟩,.bool false,.bool false,.bool false,.bool false,.bool false]
theorem Sh {ans:Nat→Option (List PV)} {r:List PV}:∀(k i:Nat),Ax ans k i=some r→∃j,i≤j∧j<i+k∧ans j=some r
 |0,i,h=>by cases h
 |k+1,i,h=>by
  simp only[Ax]at h;cases ha:ans i with
  |some x=>grind
  |none =>
   rw[ha]at h;obtain⟨j,h1,h2,h3⟩:=Sh k (i+1) h
   grind
theorem zR (h:Int):∃a b c d e f g,YU h=[.int a,.str b,.bool c,.bool d,.bool e,.bool f,.bool g]:=by
 unfold YU;generalize hf:Ax _ 11 0=o;cases o with
 |none=>simp_all
 |some r =>
  obtain⟨j,_,_,h3⟩:=Sh _ _ hf
  grind
theorem kl {N:Nat} {h:Int} (hN:2097152<N):IE N [.int h]=some (YU h):=by
 show Lc (std (NJ N) N) (xOf _)=_;simp only[Lc,PP,lq9,std,xOf,PXb,PXc,PXn,AE,SW];refine AN (B1 (len:=DU.length) (fun i=>cond (atI DU i 0==h) (some [.int (pvI (AD DU i 0)),.str (pvS (AD DU i 1)),.bool (pvB (AD DU i 2)),.bool (pvB (AD DU i 3)),.bool (pvB (AD DU i 4)),.bool (pvB (AD DU i 5)),.bool (pvB (AD DU i 6))]) none) ?_ ?_ DU.length 0 N (by omega) (by rw[fX];omega)) ?_
 ·intro self;rfl
 ·intro i self hi;have hi2:i<11:=hi;simp only[PXb,PXc,PXn,AE,A9 (show i≤1099511627776 by omega),Aa hi,AJ hi,Dc]
  grind
 unfold YU;rw[fX];generalize hf:Ax _ 11 0=o;cases o with
 |none=>rfl
 |some r =>
  obtain⟨j,_,_,h3⟩:=Sh _ _ hf;cases hb:atI DU j 0==h
  ·simp_all
  rw[hb]at h3;cases h3;rfl
theorem xE (h:Int):pvB (AA (YU h) 5)=jO h∧pvB (AA (YU h) 6)=TB h:=by
 by_cases hr:0≤h∧h≤10
 ·obtain⟨k,rfl⟩:∃k:Nat,h=k:=⟨h.toNat,by omega⟩;have:k=0∨k=1∨k=2∨k=3∨k=4∨k=5∨k=6∨k=7∨k=8∨k=9∨k=10:=by omega
  rcases this with h|h|h|h|h|h|h|h|h|h|h<;>subst h<;>exact⟨rfl,rfl⟩
 have e:∀n:Int,0≤n→n≤10→(h==n)=false:=fun n h0 h1=>beq_false_of_ne (by omega)
 have key:∀j,j<11→atI DU j 0=j:=by
  trivial
 unfold YU;generalize hf:Ax _ 11 0=o;cases o with
 |none =>
  unfold jO TB;rw[e 2 (by omega) (by omega),e 4 (by omega) (by omega),e 6 (by omega) (by omega),e 8 (by omega) (by omega)];trivial
 |some r =>
  obtain⟨j,_,hj,h3⟩:=Sh _ _ hf
  grind
def Qw (d:Del) (m:Bool):Bool :=
 !(!(m==btw d.fielder 1 11) || !m && !(d.fielder==0))&&(d.second==0||d.how==6&&btw d.second 1 11 && !(d.second==d.fielder))
theorem YO {N:Nat} {d5 d10:Bool} {a:Int} {n:ByteArray} {b:Bool} {c:Bool} {e:Bool} {f:Bool} {g:Bool}  : Ds N [.int d0,.int d1,.int d2,.int d3,.int d4,.bool d5,.int d6,.int d7,.int d8,.int d9,.bool d10,.int d11,.int a,.str n,.bool b,.bool c,.bool e,.bool f,.bool g]=some [.bool (Qw (⟨d0,d1,d2,d3,d4,d5,d6,d7,d8,d9,d10,d11⟩:Del) f)]:=by
 show Fe (std (Hj N) N) (xOf _)=_;generalize hres:(some [.bool (Qw (⟨d0,d1,d2,d3,d4,d5,d6,d7,d8,d9,d10,d11⟩:Del) f)]:Option (List PV))=RR;simp only[Fe,Ii,lq9,std,xOf,PXb,PXc,PXn,PXm,Nat.reduceAdd,Int.reduceBEq,V1];subst hres;simp only[Qw];cases d9==0<;>cases d6==6<;>cases f<;>cases btw d8 1 11<;>cases d8==0<;>first|rfl|(cases btw d9 1 11<;>rfl)
theorem AC5 {α:Type} (a b:Bool) (x y:α):cond (a||b) x y=cond a x (cond b x y):=by grind
theorem sj (d:Del) (m:Bool):(!Qw d m)=((m && !btw d.fielder 1 11 || !m && !(d.fielder==0))||(!(d.second==0)&&(!(d.how==6) || !btw d.second 1 11||d.second==d.fielder))):=by
 unfold Qw;cases hb:btw d.fielder 1 11<;>cases hf:d.fielder==0
 ·simp_all
 ·simp_all
 ·simp_all
 rw[beq_iff_eq.1 hf]at hb;trivial
theorem Yi {N:Nat} {d5 d10:Bool} {f:Bool} (hN:2097152<N):Dl N [.int d0,.int d1,.int d2,.int d3,.int d4,.bool d5,.int d6,.int d7,.int d8,.int d9,.bool d10,.int d11,.bool f]=some [.int (Vr (⟨d0,d1,d2,d3,d4,d5,d6,d7,d8,d9,d10,d11⟩:Del) f)]:=by
 show FX (std (CY N) N) (xOf _)=_;generalize hres:(some [.int (Vr (⟨d0,d1,d2,d3,d4,d5,d6,d7,d8,d9,d10,d11⟩:Del) f)]:Option (List PV))=RR;have hl:=f9 d0 f 11;obtain⟨a,b,c,d,e,m,g,hline⟩:=zR d6;have hbits:=xE d6;rw[hline]at hbits;have hm:m=jO d6:=hbits.1;have hg:g=TB d6:=hbits.2;have h1:(JK d0 f 11).length<N:=by omega
 have h2:(JK d0 f 11).length≤1048576:=by omega
 simp only[FX,MS,I1,L1,JW,lq9,std,xOf,PXb,PXc,PXn,PXm,Nat.reduceAdd,Int.reduceBEq,kl hN,hline,eX hN,Wu h1 h2,zP,YO,sj];subst hres;simp only[Vr,AC5];rw[hm,hg];unfold TB
 simp_all
theorem aF {N:Nat} {a:Int} {b:Int} {c:Int}  : Ef N [.int a,.int b,.int c]=some [.bool (btw a b c)]:=by
 show Kx (std (OO N) N) (xOf _)=_;show some [PV.bool (cond (iLe b a) (iLe a c) false)]=_;rw[jN];rfl
theorem iL {N:Nat} {a:Int} {b:Int} {c:Int}  : HW N [.int a,.int b,.int c]=some [.bool (btw a b c)]:=by
 show Oo (std (SS N) N) (xOf _)=_;show some [PV.bool (cond (iLe b a) (iLe a c) false)]=_;rw[jN];rfl
def vb (d:Del):Int :=
  cond (iLt d.type 1||iLt 3 d.type||iLt 3 d.source||iLt 10 d.how) 3
    (cond (!btw d.runs 0 7 || !btw d.short 0 d.runs||(!(d.boundary==0) && !(d.boundary==4) && !(d.boundary==6)) || !btw d.victim 0 2 || !btw d.fielder 0 11 || !btw d.second 0 11 || !btw d.sector 0 8) 2 0)
theorem eM {N:Nat} {d5 d10:Bool}  : GK N [.int d0,.int d1,.int d2,.int d3,.int d4,.bool d5,.int d6,.int d7,.int d8,.int d9,.bool d10,.int d11]=some [.int (vb (⟨d0,d1,d2,d3,d4,d5,d6,d7,d8,d9,d10,d11⟩:Del))]:=by
 show JF (std (K9 N) N) (xOf _)=_;generalize hres:(some [.int (vb (⟨d0,d1,d2,d3,d4,d5,d6,d7,d8,d9,d10,d11⟩:Del))]:Option (List PV))=RR;simp only[JF,Mg,lq9,std,xOf,PXb,PXc,PXn,PXm,Nat.reduceAdd,Int.reduceBEq,aF];trivial
def loS (k:Int):Int:=cond (k==7) 0 (cond (k==13) 1 0)
def hiS (k:Int):Int:=cond (k==7) 11 (cond (k==13) 99 100000)
theorem km {N:Nat} {k:Int}  : H6 N [.int k]=some [.int (loS k),.int (hiS k)]:=by
 show LU (std (UY N) N) (xOf _)=_;simp only[LU,lq9,std,xOf,PXb,PXc,PXn,PXm,Nat.reduceAdd,Int.reduceBEq];unfold loS hiS
 grind
def uS (k:Int):Bool:=k==1||k==12||k==14||k==11||k==13
def uP (k:Int):Bool:=k==2||k==3||k==8||k==5||k==6||k==9
def uO (k:Int):Bool:=k==2
def uY (k:Int):Bool:=k==1||k==12||k==14||k==5||k==6||k==9
def uR (k:Int):Bool:=k==7||k==13||k==15
def uV (k:Int):Bool:=k==15
def uB (k:Int):Bool:=k==4
theorem lj {k:Int} (h:(iLt k 1||iLt 16 k)=false):k=1∨k=2∨k=3∨k=4∨k=5∨k=6∨k=7∨k=8∨k=9∨k=10∨k=11∨k=12∨k=13∨k=14∨k=15∨k=16:=by
 simp only[iLt,Bool.or_eq_false_iff,decide_eq_false_iff_not]at h;omega
def vB:Rows:=match Gl 0 []with
 |some [.rows l]=>l
 |_=>[]
theorem nH {N:Nat}:Gl N []=some [.rows vB]:=rfl
def D6 (k f:Int):Bool:=iLe 0 (Lib.indexByte (pvS (AD vB (IntKind.u8.wrap (k-1)).toNat 1)).data.toList f.toNat.toUInt8)||(k==5&&f==121)
theorem ZV {N:Nat} {s:ByteArray} {f:Int}  : ED N [.str s,.int f]=some [.int (Lib.indexByte s.data.toList f.toNat.toUInt8)]:=by
 rfl
theorem aY {N:Nat} {k:Int} {f:Int} (h:(iLt k 1||iLt 16 k)=false):K6 N [.int k,.int f]=some [.bool (D6 k f)]:=by
 show Ok (std (L5 N) N) (xOf _)=_;have hi:iIn (IntKind.u8.wrap (k-1)) (vB.length:Int)=true:=by
  rcases lj h with h|h|h|h|h|h|h|h|h|h|h|h|h|h|h|h<;>subst h<;>rfl
 simp only[Ok,Oi,TR,lq9,std,xOf,PXb,PXc,PXn,PXm,Nat.reduceAdd,Int.reduceBEq,nH,ZV,hi,D6]
theorem ACf {k:Int} (h:(iLt k 1||iLt 16 k)=false):D6 k 115=uS k∧D6 k 112=uP k∧D6 k 111=uO k∧D6 k 121=uY k∧D6 k 114=uR k∧D6 k 118=uV k∧D6 k 98=uB k:=by
 rcases lj h with h|h|h|h|h|h|h|h|h|h|h|h|h|h|h|h<;>subst h<;>exact⟨rfl,rfl,rfl,rfl,rfl,rfl,rfl⟩
def ve (d:Del):Bool:=d.type==0&&(d.source==0&&(d.runs==0&&(d.short==0&&(d.boundary==0&&(d.crossed==false&&(d.how==0&&(d.victim==0&&(d.fielder==0&&(d.second==0&&(d.sub==false&&d.sector==0))))))))))
def oj (e:Ev):Bool:=(!(e.side==0) && !uS e.kind)||((!(e.player==0) && !uP e.kind)||((!(e.other==0) && !uO e.kind)||((e.yes && !uY e.kind)||((!(e.runs==0) && !uR e.kind)||((!(e.overs==0) && !uV e.kind)||(!ve e.ball && !uB e.kind))))))
def fM (e:Ev):Bool:=(!btw e.side 1 2&&uS e.kind)||((!btw e.player 1 11&&uP e.kind)||((!btw e.other 1 11&&uO e.kind)||((!btw e.runs (loS e.kind) (hiS e.kind)&&uR e.kind)||(!btw e.overs 0 90&&uV e.kind))))
def evS (e:Ev):Int:=cond (iLt e.kind 1||iLt 16 e.kind) 3 (cond (oj e) 1 (cond (fM e) 2 (cond (e.kind==4) (vb e.ball) 0)))
def evT (e:Ev):Rows:=[[.int 115,.bool (e.side==0),.bool (btw e.side 1 2)],[.int 112,.bool (e.player==0),.bool (btw e.player 1 11)],[.int 111,.bool (e.other==0),.bool (btw e.other 1 11)],[.int 121,.bool (!e.yes),.bool true],[.int 114,.bool (e.runs==0),.bool (btw e.runs (loS e.kind) (hiS e.kind))],[.int 118,.bool (e.overs==0),.bool (btw e.overs 0 90)],[.int 98,.bool (ve e.ball),.bool true]]
theorem Y2 {N:Nat} {e4 e12 e17:Bool} (hN:2097152<N):D4 N [.int e0,.int e1,.int e2,.int e3,.bool e4,.int e5,.int e6,.int e7,.int e8,.int e9,.int e10,.int e11,.bool e12,.int e13,.int e14,.int e15,.int e16,.bool e17,.int e18]=some [.int (evS (⟨e0,e1,e2,e3,e4,e5,e6,⟨e7,e8,e9,e10,e11,e12,e13,e14,e15,e16,e17,e18⟩⟩:Ev))]:=by
 show Jc (std (Eu N) N) (xOf _)=_;generalize hres:(some [.int (evS (⟨e0,e1,e2,e3,e4,e5,e6,⟨e7,e8,e9,e10,e11,e12,e13,e14,e15,e16,e17,e18⟩⟩:Ev))]:Option (List PV))=RR;cases hk:iLt e0 1||iLt 16 e0
 ·simp only[Jc,EM,JV,Im,K5,lq9,std,xOf,PXb,PXc,AE,hk,km,iL];subst hres;obtain⟨g1,g2,g3,g4,g5,g6,g7⟩:=ACf hk;refine AN (NL (len:=7) (fun i => !pvB (AD (evT (⟨e0,e1,e2,e3,e4,e5,e6,⟨e7,e8,e9,e10,e11,e12,e13,e14,e15,e16,e17,e18⟩⟩:Ev)) i 1) && !D6 e0 (pvI (AD (evT (⟨e0,e1,e2,e3,e4,e5,e6,⟨e7,e8,e9,e10,e11,e12,e13,e14,e15,e16,e17,e18⟩⟩:Ev)) i 0))) [.int 1] ?_ ?_ N (by omega)) ?_
  ·intro self;rfl
  ·intro i self hi;simp only[PXb,PXc,AE,A9 (show i≤1099511627776 by omega),List.length_cons,List.length_nil,Nat.reduceAdd,Aa hi,AJ hi,aY hk];change cond (!pvB (AD (evT (⟨e0,e1,e2,e3,e4,e5,e6,⟨e7,e8,e9,e10,e11,e12,e13,e14,e15,e16,e17,e18⟩⟩:Ev)) i 1) && !(!pvB (AD (evT (⟨e0,e1,e2,e3,e4,e5,e6,⟨e7,e8,e9,e10,e11,e12,e13,e14,e15,e16,e17,e18⟩⟩:Ev)) i 1)&&D6 e0 (pvI (AD (evT (⟨e0,e1,e2,e3,e4,e5,e6,⟨e7,e8,e9,e10,e11,e12,e13,e14,e15,e16,e17,e18⟩⟩:Ev)) i 0)))) _ _=_
   grind
  have a1:A8 (fun i => !pvB (AD (evT (⟨e0,e1,e2,e3,e4,e5,e6,⟨e7,e8,e9,e10,e11,e12,e13,e14,e15,e16,e17,e18⟩⟩:Ev)) i 1) && !D6 e0 (pvI (AD (evT (⟨e0,e1,e2,e3,e4,e5,e6,⟨e7,e8,e9,e10,e11,e12,e13,e14,e15,e16,e17,e18⟩⟩:Ev)) i 0))) 7 0=oj (⟨e0,e1,e2,e3,e4,e5,e6,⟨e7,e8,e9,e10,e11,e12,e13,e14,e15,e16,e17,e18⟩⟩:Ev):=by
   simp only[Bz,Kn];change(!(e1==0) && !D6 e0 115||(!(e2==0) && !D6 e0 112||(!(e3==0) && !D6 e0 111||(!(!e4) && !D6 e0 121||(!(e5==0) && !D6 e0 114||(!(e6==0) && !D6 e0 118||(!(ve (⟨e0,e1,e2,e3,e4,e5,e6,⟨e7,e8,e9,e10,e11,e12,e13,e14,e15,e16,e17,e18⟩⟩:Ev).ball) && !D6 e0 98||false)))))))=_;rw[g1,g2,g3,g4,g5,g6,g7,Bool.not_not,Bool.or_false];rfl
  rw[a1];simp only[evS,hk,cond_false];cases oj (⟨e0,e1,e2,e3,e4,e5,e6,⟨e7,e8,e9,e10,e11,e12,e13,e14,e15,e16,e17,e18⟩⟩:Ev)
  ·simp only[PXb,PXc,AE];refine AN (NL (len:=7) (fun i => !pvB (AD (evT (⟨e0,e1,e2,e3,e4,e5,e6,⟨e7,e8,e9,e10,e11,e12,e13,e14,e15,e16,e17,e18⟩⟩:Ev)) i 2)&&D6 e0 (pvI (AD (evT (⟨e0,e1,e2,e3,e4,e5,e6,⟨e7,e8,e9,e10,e11,e12,e13,e14,e15,e16,e17,e18⟩⟩:Ev)) i 0))) [.int 2] ?_ ?_ N (by omega)) ?_
   ·intro self;rfl
   ·intro i self hi;simp only[PXb,PXc,AE,A9 (show i≤1099511627776 by omega),List.length_cons,List.length_nil,Nat.reduceAdd,Aa hi,AJ hi,aY hk];rfl
   have a2:A8 (fun i => !pvB (AD (evT (⟨e0,e1,e2,e3,e4,e5,e6,⟨e7,e8,e9,e10,e11,e12,e13,e14,e15,e16,e17,e18⟩⟩:Ev)) i 2)&&D6 e0 (pvI (AD (evT (⟨e0,e1,e2,e3,e4,e5,e6,⟨e7,e8,e9,e10,e11,e12,e13,e14,e15,e16,e17,e18⟩⟩:Ev)) i 0))) 7 0=fM (⟨e0,e1,e2,e3,e4,e5,e6,⟨e7,e8,e9,e10,e11,e12,e13,e14,e15,e16,e17,e18⟩⟩:Ev):=by
    simp only[Bz,Kn];change(!(btw e1 1 2)&&D6 e0 115||(!(btw e2 1 11)&&D6 e0 112||(!(btw e3 1 11)&&D6 e0 111||(!true&&D6 e0 121||(!(btw e5 (loS e0) (hiS e0))&&D6 e0 114||(!(btw e6 0 90)&&D6 e0 118||(!true&&D6 e0 98||false)))))))=_;rw[g1,g2,g3,g4,g5,g6,g7];simp only[Bool.not_true,Bool.false_and,Bool.false_or,Bool.or_false];rfl
   rw[a2];cases fM (⟨e0,e1,e2,e3,e4,e5,e6,⟨e7,e8,e9,e10,e11,e12,e13,e14,e15,e16,e17,e18⟩⟩:Ev)
   ·simp only[PXb,PXc,PXn,PXm,Nat.reduceAdd,Int.reduceBEq,EM,eM]
   rfl
  rfl
 simp only[Jc,EM,JV,Im,K5,lq9,std,xOf,PXb,PXc,AE,hk,←hres,evS]
theorem c4 {c x x' y y':Bool} {a b d z z':Int} (h1:x=x') (h2:y=y') (h3:z=z'):(some [PV.int (cond c a (cond x b (cond y d z)))]:Option (List PV))=some [PV.int (cond c a (cond x' b (cond y' d z')))]:=by simp_all
structure Lens (s t:Inn):Prop where
 bt:t.batters.length=s.batters.length
 bd:t.bowled.length=s.bowled.length
 sb:t.subs.length=s.subs.length
 bw:t.bowlers.length≤s.bowlers.length+1
 bf:t.before.length≤s.before.length+s.bowlers.length+1
theorem Lens.refl (s:Inn):Lens s s:=⟨rfl,rfl,rfl,by omega,by omega⟩
theorem P_c {α:Type} {P:α→Prop} (b:Bool) (x y:α) (hx:P x) (hy:P y):P (cond b x y):=by grind
theorem pM (s:Inn) (d:Del):Lens s (Au s d):=by
 have hb:∀(b:Bool),(cond b (Pw s.batters s.striker 2) s.batters).length=s.batters.length:=fun b=>by cases b<;>simp[NS]
 have hc:∀(b:Bool),(cond b (Pw s.batters s.other 2) s.batters).length=s.batters.length:=fun b=>by cases b<;>simp[NS]
 unfold Au;cases(!(d.runs.tmod 2==0) != d.crossed)<;>refine P_c _ _ _ ⟨hb _,rfl,rfl,?_,?_⟩ (P_c _ _ _ ⟨hc _,rfl,rfl,?_,?_⟩ ⟨rfl,rfl,rfl,?_,?_⟩)<;>simp<;>omega
theorem mh (r:Rul) (s:Inn) (c:Bool):Lens s (A5 r s c).1:=by
 have hl:(cond (O1 s.bowlers s.bowlers.length s.bowler) s.bowlers (s.bowlers++[[.int s.bowler]])).length≤s.bowlers.length+1:=by
  grind
 have hd:(cond c (Pw s.bowled s.bowler (inc (atI s.bowled (ix s.bowler) 0))) s.bowled).length=s.bowled.length:=by cases c<;>simp[NS]
 unfold A5;refine P_c (P:=fun x:Inn×Bool=>Lens s x.1) _ _ _ (Lens.refl s) (P_c (P:=fun x:Inn×Bool=>Lens s x.1) _ _ _ ⟨rfl,hd,rfl,hl,by simp;omega⟩ ⟨rfl,hd,rfl,by simp,?_⟩)
 grind
def ga (a b c d:Int):Int:=cond (!(a==0)) a (cond (!(b==0)) b (cond (!(c==0)) c (cond (!(d==0)) d 0)))
def IB (r:Rul) (s:Inn) (d:Del):Int :=
 cond (JN s.batters s.striker s.other) 6 (cond (s.bowler==0) 7 (ga (XH r s) (Dt d) (Vr d s.freehit) (W5 s d)))
theorem ct {N:Nat} {r8:Bool} {r0:ByteArray} {r13:Rows} {s18 s20:Bool} {d5 d10:Bool} (h:Fit s14 s16 s17 s19 s24) (hN:2097152<N) (h13:r13.length≤1048576):FO N [.str r0,.int r1,.int r2,.int r3,.int r4,.int r5,.int r6,.int r7,.bool r8,.int r9,.int r10,.int r11,.int r12,.rows r13,.int s0,.int s1,.int s2,.int s3,.int s4,.int s5,.int s6,.int s7,.int s8,.int s9,.int s10,.int s11,.int s12,.int s13,.rows s14,.int s15,.rows s16,.rows s17,.bool s18,.rows s19,.bool s20,.int s21,.int s22,.int s23,.rows s24,.int s25,.int s26,.int s27,.int d0,.int d1,.int d2,.int d3,.int d4,.bool d5,.int d6,.int d7,.int d8,.int d9,.bool d10,.int d11]=some [.int (IB (⟨r0,r1,r2,r3,r4,r5,r6,r7,r8,r9,r10,r11,r12,r13⟩:Rul) (⟨s0,s1,s2,s3,s4,s5,s6,s7,s8,s9,s10,s11,s12,s13,s14,s15,s16,s17,s18,s19,s20,s21,s22,s23,s24,s25,s26,s27⟩:Inn) (⟨d0,d1,d2,d3,d4,d5,d6,d7,d8,d9,d10,d11⟩:Del))]:=by
 show H0 (std (Cf N) N) (xOf _)=_;generalize hres:(some [.int (IB (⟨r0,r1,r2,r3,r4,r5,r6,r7,r8,r9,r10,r11,r12,r13⟩:Rul) (⟨s0,s1,s2,s3,s4,s5,s6,s7,s8,s9,s10,s11,s12,s13,s14,s15,s16,s17,s18,s19,s20,s21,s22,s23,s24,s25,s26,s27⟩:Inn) (⟨d0,d1,d2,d3,d4,d5,d6,d7,d8,d9,d10,d11⟩:Del))]:Option (List PV))=RR;simp only[H0,NN,N6,Pb,KY,Pd,lq9,std,xOf,PXb,Vw h.bt hN,nP h hN h13,TI,Yi hN,nY h];subst hres;simp only[IB];cases JN s14 s12 s13<;>try rfl
 cases s15==0<;>try rfl
 simp only[PXb];generalize XH (⟨r0,r1,r2,r3,r4,r5,r6,r7,r8,r9,r10,r11,r12,r13⟩:Rul) (⟨s0,s1,s2,s3,s4,s5,s6,s7,s8,s9,s10,s11,s12,s13,s14,s15,s16,s17,s18,s19,s20,s21,s22,s23,s24,s25,s26,s27⟩:Inn)=a;generalize Dt (⟨d0,d1,d2,d3,d4,d5,d6,d7,d8,d9,d10,d11⟩:Del)=b;generalize Vr (⟨d0,d1,d2,d3,d4,d5,d6,d7,d8,d9,d10,d11⟩:Del) s20=c;generalize W5 (⟨s0,s1,s2,s3,s4,s5,s6,s7,s8,s9,s10,s11,s12,s13,s14,s15,s16,s17,s18,s19,s20,s21,s22,s23,s24,s25,s26,s27⟩:Inn) (⟨d0,d1,d2,d3,d4,d5,d6,d7,d8,d9,d10,d11⟩:Del)=e;refine AN (B1 (len:=4) (fun i=>cond (!(atI [[.int a],[.int b],[.int c],[.int e]] i 0==0)) (some [.int (atI [[.int a],[.int b],[.int c],[.int e]] i 0)]) none) ?_ ?_ 4 0 N (by omega) (by omega)) ?_
 ·intro self;rfl
 ·intro i self hi;simp only[PXb,A9 (show i≤1099511627776 by omega),List.length_cons,List.length_nil,Nat.reduceAdd,Aa hi,AJ hi,Dc]
  grind
 refine(gh _).trans (congrArg (fun z=>some [PV.int z]) ?_);unfold ga;simp only[Ax];rw[show atI [[.int a],[.int b],[.int c],[.int e]] 0 0=a from rfl,show atI [[.int a],[.int b],[.int c],[.int e]] (0+1) 0=b from rfl,show atI [[.int a],[.int b],[.int c],[.int e]] (0+1+1) 0=c from rfl,show atI [[.int a],[.int b],[.int c],[.int e]] (0+1+1+1) 0=e from rfl];cases a==0<;>try rfl
 cases b==0<;>try rfl
 cases c==0<;>try rfl
 cases e==0<;>rfl
theorem TN {s t:Inn} (l:Lens s t) (h:s.Fit) (hw:s.before.length+s.bowlers.length≤1048575):t.Fit:=⟨l.bt▸h.bt,by have:=l.bw;omega,by have:=l.bf;omega,l.bd▸h.bd,l.sb▸h.sb⟩
theorem xw (s:Inn) (d:Del):(Au s d).bowlers=s.bowlers:=by
 unfold Au
 grind
theorem xm (s:Inn) (d:Del):(Au s d).before=s.before:=by
 unfold Au
 grind
@[reducible] def bv (t:Inn) (a b e f g:Int):Inn:=⟨t.side,t.target,t.overs,a,t.wickets,b,e,f,g,t.pens,t.complete,t.inover,t.striker,t.other,t.batters,t.bowler,t.bowlers,t.before,t.fresh,t.bowled,t.freehit,t.ballage,t.keeper,t.outside,t.subs,t.rev1,t.rev2,t.ending⟩
def NE (r:Rul) (s:Inn) (d:Del):Inn×Int :=
  cond (!(IB r s d==0)) (s,IB r s d)
    (let c:=AF r d
     let t:=Au s d
     let o:=A5 r (bv t (IntKind.i64.wrap (t.runs+Da c)) (IntKind.i64.wrap (t.wides+c.wides)) (IntKind.i64.wrap (t.noballs+c.noballs)) (IntKind.i64.wrap (t.byes+c.byes)) (IntKind.i64.wrap (t.legbyes+c.legbyes))) c.counts
     let t:Inn:=cond o.2 (L8 o.1) o.1
     ({ t with freehit:=cond (d.type==1) false (cond (d.type==3&&r.freehit) true o.1.freehit) },0))
theorem jw {N:Nat} {r8:Bool} {r0:ByteArray} {r13:Rows} {s18 s20:Bool} {d5 d10:Bool} (h:Fit s14 s16 s17 s19 s24) (hw:s17.length+s16.length≤1000000) (hN:2097152<N) (hs:r0.size≤1048576) (h13:r13.length≤1048576):ID N [.str r0,.int r1,.int r2,.int r3,.int r4,.int r5,.int r6,.int r7,.bool r8,.int r9,.int r10,.int r11,.int r12,.rows r13,.int s0,.int s1,.int s2,.int s3,.int s4,.int s5,.int s6,.int s7,.int s8,.int s9,.int s10,.int s11,.int s12,.int s13,.rows s14,.int s15,.rows s16,.rows s17,.bool s18,.rows s19,.bool s20,.int s21,.int s22,.int s23,.rows s24,.int s25,.int s26,.int s27,.int d0,.int d1,.int d2,.int d3,.int d4,.bool d5,.int d6,.int d7,.int d8,.int d9,.bool d10,.int d11]=some (BZ (NE (⟨r0,r1,r2,r3,r4,r5,r6,r7,r8,r9,r10,r11,r12,r13⟩:Rul) (⟨s0,s1,s2,s3,s4,s5,s6,s7,s8,s9,s10,s11,s12,s13,s14,s15,s16,s17,s18,s19,s20,s21,s22,s23,s24,s25,s26,s27⟩:Inn) (⟨d0,d1,d2,d3,d4,d5,d6,d7,d8,d9,d10,d11⟩:Del))):=by
 show Lg (std (CM N) N) (xOf _)=_;generalize hres:(some (BZ (NE (⟨r0,r1,r2,r3,r4,r5,r6,r7,r8,r9,r10,r11,r12,r13⟩:Rul) (⟨s0,s1,s2,s3,s4,s5,s6,s7,s8,s9,s10,s11,s12,s13,s14,s15,s16,s17,s18,s19,s20,s21,s22,s23,s24,s25,s26,s27⟩:Inn) (⟨d0,d1,d2,d3,d4,d5,d6,d7,d8,d9,d10,d11⟩:Del))):Option (List PV))=RR;have l1:=pM (⟨s0,s1,s2,s3,s4,s5,s6,s7,s8,s9,s10,s11,s12,s13,s14,s15,s16,s17,s18,s19,s20,s21,s22,s23,s24,s25,s26,s27⟩:Inn) (⟨d0,d1,d2,d3,d4,d5,d6,d7,d8,d9,d10,d11⟩:Del);have f1:=TN l1 h (by grind);have w1:(Au (⟨s0,s1,s2,s3,s4,s5,s6,s7,s8,s9,s10,s11,s12,s13,s14,s15,s16,s17,s18,s19,s20,s21,s22,s23,s24,s25,s26,s27⟩:Inn) (⟨d0,d1,d2,d3,d4,d5,d6,d7,d8,d9,d10,d11⟩:Del)).bowlers.length=s16.length:=congrArg List.length (xw _ _);have w2:(Au (⟨s0,s1,s2,s3,s4,s5,s6,s7,s8,s9,s10,s11,s12,s13,s14,s15,s16,s17,s18,s19,s20,s21,s22,s23,s24,s25,s26,s27⟩:Inn) (⟨d0,d1,d2,d3,d4,d5,d6,d7,d8,d9,d10,d11⟩:Del)).before.length=s17.length:=congrArg List.length (xm _ _);have l2:=fun (x:Rul) (c:Bool) (a b e f g:Int)=>mh x (bv (Au (⟨s0,s1,s2,s3,s4,s5,s6,s7,s8,s9,s10,s11,s12,s13,s14,s15,s16,s17,s18,s19,s20,s21,s22,s23,s24,s25,s26,s27⟩:Inn) (⟨d0,d1,d2,d3,d4,d5,d6,d7,d8,d9,d10,d11⟩:Del)) a b e f g) c
 have f2:=fun (x:Rul) (c:Bool) (a b e f g:Int)=>TN (l2 x c a b e f g) f1 (show(Au (⟨s0,s1,s2,s3,s4,s5,s6,s7,s8,s9,s10,s11,s12,s13,s14,s15,s16,s17,s18,s19,s20,s21,s22,s23,s24,s25,s26,s27⟩:Inn) (⟨d0,d1,d2,d3,d4,d5,d6,d7,d8,d9,d10,d11⟩:Del)).before.length+(Au (⟨s0,s1,s2,s3,s4,s5,s6,s7,s8,s9,s10,s11,s12,s13,s14,s15,s16,s17,s18,s19,s20,s21,s22,s23,s24,s25,s26,s27⟩:Inn) (⟨d0,d1,d2,d3,d4,d5,d6,d7,d8,d9,d10,d11⟩:Del)).bowlers.length≤1048575 by omega)
 simp only[Lg,OV,Pf,Pu,PS,S0,Sk,P4,lq9,std,xOf,PXb,PXc,PXn,PXm,Nat.reduceAdd,Int.reduceBEq,ct h hN h13,Cj h,SR,qG h,fG,Cre.ls,qQ f1 (show(Au (⟨s0,s1,s2,s3,s4,s5,s6,s7,s8,s9,s10,s11,s12,s13,s14,s15,s16,s17,s18,s19,s20,s21,s22,s23,s24,s25,s26,s27⟩:Inn) (⟨d0,d1,d2,d3,d4,d5,d6,d7,d8,d9,d10,d11⟩:Del)).bowlers.length≤1048575 by omega) hN hs,yR,hG (f2 _ _ _ _ _ _ _)];subst hres;simp only[NE,bv];cases IB (⟨r0,r1,r2,r3,r4,r5,r6,r7,r8,r9,r10,r11,r12,r13⟩:Rul) (⟨s0,s1,s2,s3,s4,s5,s6,s7,s8,s9,s10,s11,s12,s13,s14,s15,s16,s17,s18,s19,s20,s21,s22,s23,s24,s25,s26,s27⟩:Inn) (⟨d0,d1,d2,d3,d4,d5,d6,d7,d8,d9,d10,d11⟩:Del)==0
 ·rfl
 obtain⟨o,ho⟩:∃o,o=A5 (⟨r0,r1,r2,r3,r4,r5,r6,r7,r8,r9,r10,r11,r12,r13⟩:Rul) (bv (Au (⟨s0,s1,s2,s3,s4,s5,s6,s7,s8,s9,s10,s11,s12,s13,s14,s15,s16,s17,s18,s19,s20,s21,s22,s23,s24,s25,s26,s27⟩:Inn) (⟨d0,d1,d2,d3,d4,d5,d6,d7,d8,d9,d10,d11⟩:Del)) (IntKind.i64.wrap ((Au (⟨s0,s1,s2,s3,s4,s5,s6,s7,s8,s9,s10,s11,s12,s13,s14,s15,s16,s17,s18,s19,s20,s21,s22,s23,s24,s25,s26,s27⟩:Inn) (⟨d0,d1,d2,d3,d4,d5,d6,d7,d8,d9,d10,d11⟩:Del)).runs+Da (AF (⟨r0,r1,r2,r3,r4,r5,r6,r7,r8,r9,r10,r11,r12,r13⟩:Rul) (⟨d0,d1,d2,d3,d4,d5,d6,d7,d8,d9,d10,d11⟩:Del)))) (IntKind.i64.wrap ((Au (⟨s0,s1,s2,s3,s4,s5,s6,s7,s8,s9,s10,s11,s12,s13,s14,s15,s16,s17,s18,s19,s20,s21,s22,s23,s24,s25,s26,s27⟩:Inn) (⟨d0,d1,d2,d3,d4,d5,d6,d7,d8,d9,d10,d11⟩:Del)).wides+(AF (⟨r0,r1,r2,r3,r4,r5,r6,r7,r8,r9,r10,r11,r12,r13⟩:Rul) (⟨d0,d1,d2,d3,d4,d5,d6,d7,d8,d9,d10,d11⟩:Del)).wides)) (IntKind.i64.wrap ((Au (⟨s0,s1,s2,s3,s4,s5,s6,s7,s8,s9,s10,s11,s12,s13,s14,s15,s16,s17,s18,s19,s20,s21,s22,s23,s24,s25,s26,s27⟩:Inn) (⟨d0,d1,d2,d3,d4,d5,d6,d7,d8,d9,d10,d11⟩:Del)).noballs+(AF (⟨r0,r1,r2,r3,r4,r5,r6,r7,r8,r9,r10,r11,r12,r13⟩:Rul) (⟨d0,d1,d2,d3,d4,d5,d6,d7,d8,d9,d10,d11⟩:Del)).noballs)) (IntKind.i64.wrap ((Au (⟨s0,s1,s2,s3,s4,s5,s6,s7,s8,s9,s10,s11,s12,s13,s14,s15,s16,s17,s18,s19,s20,s21,s22,s23,s24,s25,s26,s27⟩:Inn) (⟨d0,d1,d2,d3,d4,d5,d6,d7,d8,d9,d10,d11⟩:Del)).byes+(AF (⟨r0,r1,r2,r3,r4,r5,r6,r7,r8,r9,r10,r11,r12,r13⟩:Rul) (⟨d0,d1,d2,d3,d4,d5,d6,d7,d8,d9,d10,d11⟩:Del)).byes)) (IntKind.i64.wrap ((Au (⟨s0,s1,s2,s3,s4,s5,s6,s7,s8,s9,s10,s11,s12,s13,s14,s15,s16,s17,s18,s19,s20,s21,s22,s23,s24,s25,s26,s27⟩:Inn) (⟨d0,d1,d2,d3,d4,d5,d6,d7,d8,d9,d10,d11⟩:Del)).legbyes+(AF (⟨r0,r1,r2,r3,r4,r5,r6,r7,r8,r9,r10,r11,r12,r13⟩:Rul) (⟨d0,d1,d2,d3,d4,d5,d6,d7,d8,d9,d10,d11⟩:Del)).legbyes))) (AF (⟨r0,r1,r2,r3,r4,r5,r6,r7,r8,r9,r10,r11,r12,r13⟩:Rul) (⟨d0,d1,d2,d3,d4,d5,d6,d7,d8,d9,d10,d11⟩:Del)).counts:=⟨_,rfl⟩;simp only[bv,Da]at ho⊢;simp only[←ho];obtain⟨o1,o2⟩:=o;cases o2<;>cases d0==1<;>cases d0==3<;>cases r8<;>rfl
theorem oh (r:Rul) (s:Inn) (b:Bool) (a c d e f:Int):A5 r (bv s a c d e f) b=(bv (A5 r s b).1 a c d e f,(A5 r s b).2):=by
 unfold A5 bv
 grind
def KX (r:Rul) (s:Inn) (side:Int):Inn×Int:=cond (!(side==s.side)) (s,2) (cond (!(r.overs==0)) (s,20) ({ s with ending:=4 },0))
theorem cX {N:Nat} {r8:Bool} {r0:ByteArray} {r13:Rows} {s18 s20:Bool} {e4 e12 e17:Bool} (h:Fit s14 s16 s17 s19 s24):FI N [.str r0,.int r1,.int r2,.int r3,.int r4,.int r5,.int r6,.int r7,.bool r8,.int r9,.int r10,.int r11,.int r12,.rows r13,.int s0,.int s1,.int s2,.int s3,.int s4,.int s5,.int s6,.int s7,.int s8,.int s9,.int s10,.int s11,.int s12,.int s13,.rows s14,.int s15,.rows s16,.rows s17,.bool s18,.rows s19,.bool s20,.int s21,.int s22,.int s23,.rows s24,.int s25,.int s26,.int s27,.int e0,.int e1,.int e2,.int e3,.bool e4,.int e5,.int e6,.int e7,.int e8,.int e9,.int e10,.int e11,.bool e12,.int e13,.int e14,.int e15,.int e16,.bool e17,.int e18]=some (BZ (KX (⟨r0,r1,r2,r3,r4,r5,r6,r7,r8,r9,r10,r11,r12,r13⟩:Rul) (⟨s0,s1,s2,s3,s4,s5,s6,s7,s8,s9,s10,s11,s12,s13,s14,s15,s16,s17,s18,s19,s20,s21,s22,s23,s24,s25,s26,s27⟩:Inn) e1)):=by
 show Hx (std (Js N) N) (xOf _)=_;generalize hres:(some (BZ (KX (⟨r0,r1,r2,r3,r4,r5,r6,r7,r8,r9,r10,r11,r12,r13⟩:Rul) (⟨s0,s1,s2,s3,s4,s5,s6,s7,s8,s9,s10,s11,s12,s13,s14,s15,s16,s17,s18,s19,s20,s21,s22,s23,s24,s25,s26,s27⟩:Inn) e1)):Option (List PV))=RR;simp only[Hx,N4,lq9,std,xOf,PXb,PXc,PXn,PXm,Nat.reduceAdd,Int.reduceBEq,Cj h];subst hres;simp only[KX];cases e1==s0<;>cases r3==0<;>rfl
def MI (s:Inn):Inn:={ s with runs:=IntKind.i64.wrap (s.runs+5),pens:=IntKind.i64.wrap (s.pens+5) }
theorem ST {N:Nat} {s18 s20:Bool} (h:Fit s14 s16 s17 s19 s24):Ca N [.int s0,.int s1,.int s2,.int s3,.int s4,.int s5,.int s6,.int s7,.int s8,.int s9,.int s10,.int s11,.int s12,.int s13,.rows s14,.int s15,.rows s16,.rows s17,.bool s18,.rows s19,.bool s20,.int s21,.int s22,.int s23,.rows s24,.int s25,.int s26,.int s27]=some (MI (⟨s0,s1,s2,s3,s4,s5,s6,s7,s8,s9,s10,s11,s12,s13,s14,s15,s16,s17,s18,s19,s20,s21,s22,s23,s24,s25,s26,s27⟩:Inn)).ls:=by
 show H3 (std (Jn N) N) (xOf _)=_;generalize hres:(some (MI (⟨s0,s1,s2,s3,s4,s5,s6,s7,s8,s9,s10,s11,s12,s13,s14,s15,s16,s17,s18,s19,s20,s21,s22,s23,s24,s25,s26,s27⟩:Inn)).ls:Option (List PV))=RR;simp only[H3,N7,lq9,std,xOf,PXb,PXc,PXn,PXm,Nat.reduceAdd,Int.reduceBEq,Cj h];trivial
def Ha (s:Inn) (side runs:Int):Inn×Int :=
 cond (!(runs==5)) (s,23) (cond (side==s.side) (MI s,0) ({ s with target:=cond (iLt 0 s.target) (IntKind.i64.wrap (s.target+5)) s.target },0))
theorem cw {N:Nat} {s18 s20:Bool} {e4 e12 e17:Bool} (h:Fit s14 s16 s17 s19 s24):FR N [.int s0,.int s1,.int s2,.int s3,.int s4,.int s5,.int s6,.int s7,.int s8,.int s9,.int s10,.int s11,.int s12,.int s13,.rows s14,.int s15,.rows s16,.rows s17,.bool s18,.rows s19,.bool s20,.int s21,.int s22,.int s23,.rows s24,.int s25,.int s26,.int s27,.int e0,.int e1,.int e2,.int e3,.bool e4,.int e5,.int e6,.int e7,.int e8,.int e9,.int e10,.int e11,.bool e12,.int e13,.int e14,.int e15,.int e16,.bool e17,.int e18]=some (BZ (Ha (⟨s0,s1,s2,s3,s4,s5,s6,s7,s8,s9,s10,s11,s12,s13,s14,s15,s16,s17,s18,s19,s20,s21,s22,s23,s24,s25,s26,s27⟩:Inn) e1 e5)):=by
 show Hz (std (Gb N) N) (xOf _)=_;generalize hres:(some (BZ (Ha (⟨s0,s1,s2,s3,s4,s5,s6,s7,s8,s9,s10,s11,s12,s13,s14,s15,s16,s17,s18,s19,s20,s21,s22,s23,s24,s25,s26,s27⟩:Inn) e1 e5)):Option (List PV))=RR;simp only[Hz,N2,MZ,lq9,std,xOf,PXb,PXc,PXn,PXm,Nat.reduceAdd,Int.reduceBEq,Cj h,ST h];subst hres;simp only[Ha];cases e5==5<;>cases e1==s0<;>cases iLt 0 s1<;>rfl
def Ly (r:Rul) (s:Inn) (side:Int) (yes:Bool):Inn×Int :=
 cond (!s.fresh||iLe r.reviews (cond (side==2) s.rev2 s.rev1)) (s,24) (cond (!yes) ({ s with rev1:=cond (side==1) (inc s.rev1) s.rev1,rev2:=cond (side==2) (inc s.rev2) s.rev2 },0) (s,0))
theorem wr1:IntKind.i64.wrap (1-1)=0:=rfl
theorem wr2:IntKind.i64.wrap (2-1)=1:=rfl
theorem wD:iIn 0 2=true:=rfl
theorem wL:iIn 1 2=true:=rfl
theorem eP {N:Nat} {r8:Bool} {r0:ByteArray} {r13:Rows} {s18 s20:Bool} {e4 e12 e17:Bool} (h:Fit s14 s16 s17 s19 s24) (he:e1=1∨e1=2):GR N [.str r0,.int r1,.int r2,.int r3,.int r4,.int r5,.int r6,.int r7,.bool r8,.int r9,.int r10,.int r11,.int r12,.rows r13,.int s0,.int s1,.int s2,.int s3,.int s4,.int s5,.int s6,.int s7,.int s8,.int s9,.int s10,.int s11,.int s12,.int s13,.rows s14,.int s15,.rows s16,.rows s17,.bool s18,.rows s19,.bool s20,.int s21,.int s22,.int s23,.rows s24,.int s25,.int s26,.int s27,.int e0,.int e1,.int e2,.int e3,.bool e4,.int e5,.int e6,.int e7,.int e8,.int e9,.int e10,.int e11,.bool e12,.int e13,.int e14,.int e15,.int e16,.bool e17,.int e18]=some (BZ (Ly (⟨r0,r1,r2,r3,r4,r5,r6,r7,r8,r9,r10,r11,r12,r13⟩:Rul) (⟨s0,s1,s2,s3,s4,s5,s6,s7,s8,s9,s10,s11,s12,s13,s14,s15,s16,s17,s18,s19,s20,s21,s22,s23,s24,s25,s26,s27⟩:Inn) e1 e4)):=by
 show F6 (std (LR N) N) (xOf _)=_;generalize hres:(some (BZ (Ly (⟨r0,r1,r2,r3,r4,r5,r6,r7,r8,r9,r10,r11,r12,r13⟩:Rul) (⟨s0,s1,s2,s3,s4,s5,s6,s7,s8,s9,s10,s11,s12,s13,s14,s15,s16,s17,s18,s19,s20,s21,s22,s23,s24,s25,s26,s27⟩:Inn) e1 e4)):Option (List PV))=RR
 rcases he with he|he<;>subst he
 ·simp only[F6,HZ,lq9,std,xOf,PXb,PXc,PXn,PXm,Nat.reduceAdd,Int.reduceBEq,Cj h,wr1,wr2,wD,wL];subst hres;simp only[Ly,Int.reduceBEq,beq_self_eq_true,cond_true,cond_false];cases s18<;>cases e4<;>first|rfl|(cases iLe r11 s25<;>rfl)
 simp only[F6,HZ,lq9,std,xOf,PXb,PXc,PXn,PXm,Nat.reduceAdd,Int.reduceBEq,Cj h,wr1,wr2,wD,wL];subst hres;simp only[Ly,Int.reduceBEq,beq_self_eq_true,cond_true,cond_false];cases s18<;>cases e4<;>first|rfl|(cases iLe r11 s26<;>rfl)
theorem jJ {N:Nat} {r8:Bool} {r0:ByteArray} {r13:Rows} {s18 s20:Bool}  : HB N [.str r0,.int r1,.int r2,.int r3,.int r4,.int r5,.int r6,.int r7,.bool r8,.int r9,.int r10,.int r11,.int r12,.rows r13,.int s0,.int s1,.int s2,.int s3,.int s4,.int s5,.int s6,.int s7,.int s8,.int s9,.int s10,.int s11,.int s12,.int s13,.rows s14,.int s15,.rows s16,.rows s17,.bool s18,.rows s19,.bool s20,.int s21,.int s22,.int s23,.rows s24,.int s25,.int s26,.int s27]=some [.int (DH r4 s10 s11)]:=by
 rfl
def Ng (r:Rul) (s:Inn) (runs overs:Int):Inn×Int :=
  cond (r.overs==0||(runs==0&&overs==0)) (s,25) (cond (iLt 0 runs&&(s.target==0||iLe runs s.runs)) (s,25)
    (cond (iLt 0 overs&&(iLt r.overs overs||iLt (IntKind.i64.wrap (overs*r.balls)) (DH r.balls s.complete s.inover))) (s,25)
      ({ s with target:=cond (iLt 0 runs) runs s.target,overs:=cond (iLt 0 overs) overs s.overs },0)))
theorem er {N:Nat} {r8:Bool} {r0:ByteArray} {r13:Rows} {s18 s20:Bool} {e4 e12 e17:Bool} (h:Fit s14 s16 s17 s19 s24):F3 N [.str r0,.int r1,.int r2,.int r3,.int r4,.int r5,.int r6,.int r7,.bool r8,.int r9,.int r10,.int r11,.int r12,.rows r13,.int s0,.int s1,.int s2,.int s3,.int s4,.int s5,.int s6,.int s7,.int s8,.int s9,.int s10,.int s11,.int s12,.int s13,.rows s14,.int s15,.rows s16,.rows s17,.bool s18,.rows s19,.bool s20,.int s21,.int s22,.int s23,.rows s24,.int s25,.int s26,.int s27,.int e0,.int e1,.int e2,.int e3,.bool e4,.int e5,.int e6,.int e7,.int e8,.int e9,.int e10,.int e11,.bool e12,.int e13,.int e14,.int e15,.int e16,.bool e17,.int e18]=some (BZ (Ng (⟨r0,r1,r2,r3,r4,r5,r6,r7,r8,r9,r10,r11,r12,r13⟩:Rul) (⟨s0,s1,s2,s3,s4,s5,s6,s7,s8,s9,s10,s11,s12,s13,s14,s15,s16,s17,s18,s19,s20,s21,s22,s23,s24,s25,s26,s27⟩:Inn) e5 e6)):=by
 show JD (std (G9 N) N) (xOf _)=_;generalize hres:(some (BZ (Ng (⟨r0,r1,r2,r3,r4,r5,r6,r7,r8,r9,r10,r11,r12,r13⟩:Rul) (⟨s0,s1,s2,s3,s4,s5,s6,s7,s8,s9,s10,s11,s12,s13,s14,s15,s16,s17,s18,s19,s20,s21,s22,s23,s24,s25,s26,s27⟩:Inn) e5 e6)):Option (List PV))=RR;simp only[JD,PQ,PK,lq9,std,xOf,PXb,PXc,PXn,PXm,Nat.reduceAdd,Int.reduceBEq,Cj h,jJ];subst hres;simp only[Ng];cases(r3==0||e5==0&&e6==0)<;>try rfl
 cases(iLt 0 e5&&(s1==0||iLe e5 s3))<;>try rfl
 cases iLt 0 e6<;>cases iLt r3 e6<;>try rfl
 simp only[PXb,PXc,PXn,PXm,Nat.reduceAdd,Int.reduceBEq]
 grind
def Bs (r:Rul) (s:Inn) (e:Ev):Inn×Int :=
  cond (e.kind==2) (LZ s e.player e.other) (cond (e.kind==3) (Uu r s e.player) (cond (e.kind==4) (NE r s e.ball)
    (cond (e.kind==5) (cond e.yes (E7 s e.player) (Kf s e.player)) (cond (e.kind==6) (Fr s e.player e.yes) (cond (e.kind==7) (K2 s e.runs)
      (cond (e.kind==8) (Nk s e.player) (cond (e.kind==9) (RE s e.player e.yes) (cond (e.kind==10) (Ko r s) (cond (e.kind==11) (KX r s e.side)
        (cond (e.kind==13) (Ha s e.side e.runs) (cond (e.kind==14) (Ly r s e.side e.yes) (Ng r s e.runs e.overs))))))))))))
theorem lD {e:Ev} (h:(evS e==0)=true):(iLt e.kind 1||iLt 16 e.kind)=false:=by
 unfold evS at h
 grind
theorem AAh {e:Ev} (h:(evS e==0)=true) (hk:e.kind=14):e.side=1∨e.side=2:=by
 have h0:=lD h;unfold evS at h;rw[h0]at h;cases h1:oj e
 ·cases h2:fM e
  ·unfold fM at h2;rw[Bool.or_eq_false_iff]at h2;have h3:=h2.1;rw[hk,show uS 14=true from rfl,Bool.and_true]at h3;simp only[btw,iLe,Bool.not_eq_false',zzj,decide_eq_true_eq]at h3;omega
  simp_all
 simp_all
set_option maxHeartbeats 4000000 in
theorem cg {N:Nat} {r8:Bool} {r0:ByteArray} {r13:Rows} {s18 s20:Bool} {e4 e12 e17:Bool} (h:Fit s14 s16 s17 s19 s24) (hw:s17.length+s16.length≤1000000) (hN:2097152<N) (hs:r0.size≤1048576) (h13:r13.length≤1048576) (he:(evS (⟨e0,e1,e2,e3,e4,e5,e6,⟨e7,e8,e9,e10,e11,e12,e13,e14,e15,e16,e17,e18⟩⟩:Ev)==0)=true):FQ N [.str r0,.int r1,.int r2,.int r3,.int r4,.int r5,.int r6,.int r7,.bool r8,.int r9,.int r10,.int r11,.int r12,.rows r13,.int s0,.int s1,.int s2,.int s3,.int s4,.int s5,.int s6,.int s7,.int s8,.int s9,.int s10,.int s11,.int s12,.int s13,.rows s14,.int s15,.rows s16,.rows s17,.bool s18,.rows s19,.bool s20,.int s21,.int s22,.int s23,.rows s24,.int s25,.int s26,.int s27,.int e0,.int e1,.int e2,.int e3,.bool e4,.int e5,.int e6,.int e7,.int e8,.int e9,.int e10,.int e11,.bool e12,.int e13,.int e14,.int e15,.int e16,.bool e17,.int e18]=some (BZ (Bs (⟨r0,r1,r2,r3,r4,r5,r6,r7,r8,r9,r10,r11,r12,r13⟩:Rul) (⟨s0,s1,s2,s3,s4,s5,s6,s7,s8,s9,s10,s11,s12,s13,s14,s15,s16,s17,s18,s19,s20,s21,s22,s23,s24,s25,s26,s27⟩:Inn) (⟨e0,e1,e2,e3,e4,e5,e6,⟨e7,e8,e9,e10,e11,e12,e13,e14,e15,e16,e17,e18⟩⟩:Ev))):=by
  show FW (std (Aq N) N) (xOf _)=_;generalize hres:(some (BZ (Bs (⟨r0,r1,r2,r3,r4,r5,r6,r7,r8,r9,r10,r11,r12,r13⟩:Rul) (⟨s0,s1,s2,s3,s4,s5,s6,s7,s8,s9,s10,s11,s12,s13,s14,s15,s16,s17,s18,s19,s20,s21,s22,s23,s24,s25,s26,s27⟩:Inn) (⟨e0,e1,e2,e3,e4,e5,e6,⟨e7,e8,e9,e10,e11,e12,e13,e14,e15,e16,e17,e18⟩⟩:Ev))):Option (List PV))=RR;have hsd:e0=14→e1=1∨e1=2:=AAh (e:=(⟨e0,e1,e2,e3,e4,e5,e6,⟨e7,e8,e9,e10,e11,e12,e13,e14,e15,e16,e17,e18⟩⟩:Ev)) he
  rcases lj (lD he)with hk|hk|hk|hk|hk|hk|hk|hk|hk|hk|hk|hk|hk|hk|hk|hk<;>simp only at hk<;>subst hk<;>clear he
  all_goals (first
    | (have hsd := hsd rfl
       simp only[FW,Ho,IM,G8,F5,HA,Ge,Gf,HN,FL,Gc,Fl,Fn,F9,F7,lq9,std,xOf,PXb,PXc,PXn,PXm,Nat.reduceAdd,Int.reduceBEq,eP h hsd];subst hres;rfl)
    | (simp only [FW, Ho, IM, G8, F5, HA, Ge, Gf, HN, FL, Gc, Fl, Fn, F9, F7, lq9,std,xOf, PXb, PXc, PXn, PXm, Nat.reduceAdd, Int.reduceBEq, nV h hN, rN h hN hs, jw h hw hN hs h13, fT h hN, lC h hN, gt h hN, gZ h, kC h, aD h, gO h hN hs, cX h, cw h, er h]
       subst hres
       first
       |rfl
       |(cases e4<;>rfl)))
theorem Lens.of {s t:Inn} (h1:t.batters.length=s.batters.length) (h2:t.bowled.length=s.bowled.length) (h3:t.subs.length=s.subs.length) (h4:t.bowlers=s.bowlers) (h5:t.before=s.before):Lens s t:=⟨h1,h2,h3,by simp_all,by grind⟩
theorem L_c {s:Inn} (b:Bool) (x y:Inn×Int) (hx:Lens s x.1) (hy:Lens s y.1):Lens s (cond b x y).1:=by grind
theorem xz (s:Inn) (p q:Int):Lens s (LZ s p q).1:=by
 unfold LZ;exact L_c _ _ _ (Lens.refl s) (L_c _ _ _ (Lens.refl s) (L_c _ _ _ (Lens.refl s) (Lens.of (by simp[NS]) rfl rfl rfl rfl)))
theorem wm (r:Rul) (s:Inn) (p:Int):Lens s (Uu r s p).1:=by
 unfold Uu;exact P_c (P:=fun x:Inn=>Lens s x) _ _ _ (Lens.of rfl rfl rfl rfl rfl) (Lens.refl s)
theorem yH (r:Rul) (s:Inn) (d:Del):Lens s (NE r s d).1:=by
 unfold NE;refine L_c _ _ _ (Lens.refl s) ?_;have l1:=pM s d;have w1:=xw s d;have w2:=xm s d;simp only[oh];have l2:=mh r (Au s d) (AF r d).counts;cases(A5 r (Au s d) (AF r d).counts).2
 ·exact⟨l2.bt.trans l1.bt,l2.bd.trans l1.bd,l2.sb.trans l1.sb,by have:=l2.bw;simp_all,by have:=l2.bf;simp_all⟩
 exact⟨l2.bt.trans l1.bt,l2.bd.trans l1.bd,l2.sb.trans l1.sb,by have:=l2.bw;rw[w1]at this;exact this,by have:=l2.bf;rw[w1,w2]at this;exact this⟩
theorem pD (s:Inn) (p:Int):Lens s (E7 s p).1:=by
 unfold E7;exact L_c _ _ _ (Lens.of (by simp[NS]) rfl rfl rfl rfl) (Lens.refl s)
theorem vD (s:Inn) (p:Int):Lens s (Kf s p).1:=by
 unfold Kf;exact L_c _ _ _ (Lens.of (by simp[NS]) rfl rfl rfl rfl) (Lens.refl s)
theorem sR (s:Inn) (p:Int) (b:Bool):Lens s (Fr s p b).1:=by
 unfold Fr;exact L_c _ _ _ (Lens.refl s) (L_c _ _ _ (Lens.refl s) (L_c _ _ _ (Lens.refl s) (L_c _ _ _ (Lens.refl s) (Lens.of (by simp[NS]) rfl rfl rfl rfl))))
theorem pu (s:Inn) (n:Int):Lens s (K2 s n).1:=by
 unfold K2;exact L_c _ _ _ (Lens.refl s) (Lens.of rfl rfl rfl rfl rfl)
theorem sq (s:Inn) (n:Int):Lens s (Nk s n).1:=by
 unfold Nk;exact L_c _ _ _ (Lens.refl s) (L_c _ _ _ (Lens.refl s) (L_c _ _ _ (Lens.refl s) (Lens.of rfl rfl rfl rfl rfl)))
theorem vQ (s:Inn) (n:Int) (b:Bool):Lens s (RE s n b).1:=by
 unfold RE;exact L_c _ _ _ (Lens.refl s) (L_c _ _ _ (Lens.refl s) (Lens.of rfl rfl (by simp[zM]) rfl rfl))
theorem qM (r:Rul) (s:Inn):Lens s (Ko r s).1:=by
 unfold Ko;exact L_c _ _ _ (Lens.refl s) (Lens.of rfl rfl rfl rfl rfl)
theorem qH (r:Rul) (s:Inn) (n:Int):Lens s (KX r s n).1:=by
 unfold KX;exact L_c _ _ _ (Lens.refl s) (L_c _ _ _ (Lens.refl s) (Lens.of rfl rfl rfl rfl rfl))
theorem q9 (s:Inn) (n m:Int):Lens s (Ha s n m).1:=by
 unfold Ha;exact L_c _ _ _ (Lens.refl s) (L_c _ _ _ (Lens.of rfl rfl rfl rfl rfl) (Lens.of rfl rfl rfl rfl rfl))
theorem tN (r:Rul) (s:Inn) (n:Int) (b:Bool):Lens s (Ly r s n b).1:=by
 unfold Ly;exact L_c _ _ _ (Lens.refl s) (L_c _ _ _ (Lens.of rfl rfl rfl rfl rfl) (Lens.refl s))
theorem tM (r:Rul) (s:Inn) (n m:Int):Lens s (Ng r s n m).1:=by
 unfold Ng;exact L_c _ _ _ (Lens.refl s) (L_c _ _ _ (Lens.refl s) (L_c _ _ _ (Lens.refl s) (Lens.of rfl rfl rfl rfl rfl)))
theorem aQ (r:Rul) (s:Inn) (e:Ev):Lens s (Bs r s e).1:=by
  unfold Bs;exact L_c _ _ _ (xz ..) (L_c _ _ _ (wm ..) (L_c _ _ _ (yH ..) (L_c _ _ _ (L_c _ _ _ (pD ..) (vD ..)) (L_c _ _ _ (sR ..) (L_c _ _ _ (pu ..)
    (L_c _ _ _ (sq ..) (L_c _ _ _ (vQ ..) (L_c _ _ _ (qM ..) (L_c _ _ _ (qH ..) (L_c _ _ _ (q9 ..) (L_c _ _ _ (tN ..) (tM ..))))))))))))
def LD (r:Rul) (s:Inn):Bool:=Zs r.name r.side r.innings r.overs r.balls r.quota r.wide r.noball r.newball r.followon r.reviews r.outside r.power s.batters s.bowlers s.before s.bowled s.subs s.side s.target s.overs s.runs s.wickets s.wides s.noballs s.byes s.legbyes s.pens s.complete s.inover s.striker s.other s.bowler s.ballage s.keeper s.outside s.rev1 s.rev2 s.ending
def ACl (r:Rul) (s:Inn):Int:=y4 (LD r s) s.batters s.striker s.other s.target s.overs s.runs s.complete
theorem Uw {N:Nat} {r8:Bool} {r0:ByteArray} {r13:Rows} {s18 s20:Bool} (h:Fit s14 s16 s17 s19 s24) (hN:2097152<N) (hs:r0.size≤1048576):Bc N [.str r0,.int r1,.int r2,.int r3,.int r4,.int r5,.int r6,.int r7,.bool r8,.int r9,.int r10,.int r11,.int r12,.rows r13,.int s0,.int s1,.int s2,.int s3,.int s4,.int s5,.int s6,.int s7,.int s8,.int s9,.int s10,.int s11,.int s12,.int s13,.rows s14,.int s15,.rows s16,.rows s17,.bool s18,.rows s19,.bool s20,.int s21,.int s22,.int s23,.rows s24,.int s25,.int s26,.int s27]=some [.bool (LD (⟨r0,r1,r2,r3,r4,r5,r6,r7,r8,r9,r10,r11,r12,r13⟩:Rul) (⟨s0,s1,s2,s3,s4,s5,s6,s7,s8,s9,s10,s11,s12,s13,s14,s15,s16,s17,s18,s19,s20,s21,s22,s23,s24,s25,s26,s27⟩:Inn))]:=by
 exact TK N _ _ _ _ _ _ _ _ _ _ _ _ _ _ _ _ _ _ _ _ _ _ _ _ _ _ _ _ _ _ _ _ _ _ _ _ _ _ _ _ _ _ hN hs h.bt h.bw h.bf h.bd
theorem fp {N:Nat} {r8:Bool} {r0:ByteArray} {r13:Rows} {s18 s20:Bool} (h:Fit s14 s16 s17 s19 s24) (hN:2097152<N) (hs:r0.size≤1048576):EN N [.str r0,.int r1,.int r2,.int r3,.int r4,.int r5,.int r6,.int r7,.bool r8,.int r9,.int r10,.int r11,.int r12,.rows r13,.int s0,.int s1,.int s2,.int s3,.int s4,.int s5,.int s6,.int s7,.int s8,.int s9,.int s10,.int s11,.int s12,.int s13,.rows s14,.int s15,.rows s16,.rows s17,.bool s18,.rows s19,.bool s20,.int s21,.int s22,.int s23,.rows s24,.int s25,.int s26,.int s27]=some [.int (ACl (⟨r0,r1,r2,r3,r4,r5,r6,r7,r8,r9,r10,r11,r12,r13⟩:Rul) (⟨s0,s1,s2,s3,s4,s5,s6,s7,s8,s9,s10,s11,s12,s13,s14,s15,s16,s17,s18,s19,s20,s21,s22,s23,s24,s25,s26,s27⟩:Inn))]:=by
 exact cu N _ _ _ _ _ _ _ _ _ _ _ _ _ _ _ _ _ _ _ _ _ _ _ _ _ _ _ _ _ _ _ _ _ _ _ _ _ _ _ _ _ _ hN hs h.bt h.bw h.bf h.bd
def qw (t:Inn) (b:Bool):Inn:=⟨t.side,t.target,t.overs,t.runs,t.wickets,t.wides,t.noballs,t.byes,t.legbyes,t.pens,t.complete,t.inover,t.striker,t.other,t.batters,t.bowler,t.bowlers,t.before,b,t.bowled,t.freehit,t.ballage,t.keeper,t.outside,t.subs,t.rev1,t.rev2,t.ending⟩
def CH (r:Rul) (t:Inn) (b:Bool):Inn:={ qw t b with ending:=cond (t.ending==0) (ACl r (qw t b)) t.ending }
def gX (s:Inn) (e:Ev):Bool:=e.kind==1||e.kind==12||e.kind==16||(!DX s.batters && !(e.kind==2))
def Az (r:Rul) (s:Inn) (e:Ev):Inn×Int :=
  cond (!LD r s || !(evS e==0)) (s,1) (cond (!(s.ending==0)) (s,26) (cond (gX s e) (s,1)
    (cond (!((Bs r s e).2==0)) (s,(Bs r s e).2) (CH r (Bs r s e).1 (e.kind==4),0))))
set_option maxHeartbeats 4000000 in
theorem QW {N:Nat} {r8:Bool} {r0:ByteArray} {r13:Rows} {s18 s20:Bool} {e4 e12 e17:Bool} (h:Fit s14 s16 s17 s19 s24) (hw:s17.length+s16.length≤1000000) (hN:2097152<N) (hs:r0.size≤1048576) (h13:r13.length≤1048576):IQ N [.str r0,.int r1,.int r2,.int r3,.int r4,.int r5,.int r6,.int r7,.bool r8,.int r9,.int r10,.int r11,.int r12,.rows r13,.int s0,.int s1,.int s2,.int s3,.int s4,.int s5,.int s6,.int s7,.int s8,.int s9,.int s10,.int s11,.int s12,.int s13,.rows s14,.int s15,.rows s16,.rows s17,.bool s18,.rows s19,.bool s20,.int s21,.int s22,.int s23,.rows s24,.int s25,.int s26,.int s27,.int e0,.int e1,.int e2,.int e3,.bool e4,.int e5,.int e6,.int e7,.int e8,.int e9,.int e10,.int e11,.bool e12,.int e13,.int e14,.int e15,.int e16,.bool e17,.int e18]=some (BZ (Az (⟨r0,r1,r2,r3,r4,r5,r6,r7,r8,r9,r10,r11,r12,r13⟩:Rul) (⟨s0,s1,s2,s3,s4,s5,s6,s7,s8,s9,s10,s11,s12,s13,s14,s15,s16,s17,s18,s19,s20,s21,s22,s23,s24,s25,s26,s27⟩:Inn) (⟨e0,e1,e2,e3,e4,e5,e6,⟨e7,e8,e9,e10,e11,e12,e13,e14,e15,e16,e17,e18⟩⟩:Ev))):=by
 show L7 (std (Cs N) N) (xOf _)=_;generalize hres:(some (BZ (Az (⟨r0,r1,r2,r3,r4,r5,r6,r7,r8,r9,r10,r11,r12,r13⟩:Rul) (⟨s0,s1,s2,s3,s4,s5,s6,s7,s8,s9,s10,s11,s12,s13,s14,s15,s16,s17,s18,s19,s20,s21,s22,s23,s24,s25,s26,s27⟩:Inn) (⟨e0,e1,e2,e3,e4,e5,e6,⟨e7,e8,e9,e10,e11,e12,e13,e14,e15,e16,e17,e18⟩⟩:Ev))):Option (List PV))=RR;have l1:=aQ (⟨r0,r1,r2,r3,r4,r5,r6,r7,r8,r9,r10,r11,r12,r13⟩:Rul) (⟨s0,s1,s2,s3,s4,s5,s6,s7,s8,s9,s10,s11,s12,s13,s14,s15,s16,s17,s18,s19,s20,s21,s22,s23,s24,s25,s26,s27⟩:Inn) (⟨e0,e1,e2,e3,e4,e5,e6,⟨e7,e8,e9,e10,e11,e12,e13,e14,e15,e16,e17,e18⟩⟩:Ev);have f1:=TN l1 h (by grind);simp only[L7,Rk,QK,QN,QV,HL,Hn,lq9,std,xOf,PXb,Uw h hN hs,Y2 hN,Cj h,jH h.bt hN];subst hres;simp only[Az,gX];cases LD (⟨r0,r1,r2,r3,r4,r5,r6,r7,r8,r9,r10,r11,r12,r13⟩:Rul) (⟨s0,s1,s2,s3,s4,s5,s6,s7,s8,s9,s10,s11,s12,s13,s14,s15,s16,s17,s18,s19,s20,s21,s22,s23,s24,s25,s26,s27⟩:Inn)
 ·rfl
 cases he:evS (⟨e0,e1,e2,e3,e4,e5,e6,⟨e7,e8,e9,e10,e11,e12,e13,e14,e15,e16,e17,e18⟩⟩:Ev)==0
 ·simp only[PXb,PXc,PXn,PXm,Nat.reduceAdd,Int.reduceBEq,he]
 simp only[PXb,PXc,PXn,PXm,Nat.reduceAdd,Int.reduceBEq,he];cases s27==0<;>try rfl
 cases(e0==1||e0==12||e0==16)<;>cases DX s14<;>cases e0==2<;>try rfl
 all_goals (simp only[PXb,PXc,PXn,PXm,Nat.reduceAdd,Int.reduceBEq,HL,Hn,cg h hw hN hs h13 he,fp f1 hN hs])
 all_goals (unfold CH qw;grind)
theorem sY {s t:Inn} (r:Rul) (b:Bool) (h:Lens s t):Lens s (CH r t b):=⟨h.bt,h.bd,h.sb,h.bw,h.bf⟩
theorem Vo (r:Rul) (s:Inn) (e:Ev):Lens s (Az r s e).1:=by
 unfold Az;exact L_c _ _ _ (Lens.refl s) (L_c _ _ _ (Lens.refl s) (L_c _ _ _ (Lens.refl s) (L_c _ _ _ (Lens.refl s) (sY r _ (aQ r s e)))))
theorem Pq {r:Rul} {s:Inn} {e:Ev} (h:((Az r s e).2==0)=true) :
    LD r s=true∧(evS e==0)=true∧(s.ending==0)=true∧gX s e=false∧((Bs r s e).2==0)=true∧(Az r s e).1=CH r (Bs r s e).1 (e.kind==4):=by
  unfold Az at h⊢
  grind
theorem XI {x a b:Int}:btw x a b=true↔a≤x∧x≤b:=by simp[btw,iLe]
structure RulOk (r:Rul):Prop where
 side:2≤r.side∧r.side≤11
 innings:1≤r.innings∧r.innings≤2
 overs:0≤r.overs∧r.overs≤90
 balls:4≤r.balls∧r.balls≤8
 quota:0≤r.quota∧r.quota≤90
 wide:1≤r.wide∧r.wide≤5
 noball:1≤r.noball∧r.noball≤5
 newball:0≤r.newball∧r.newball≤200
 followon:0≤r.followon∧r.followon≤1000
 reviews:0≤r.reviews∧r.reviews≤9
 outside:0≤r.outside∧r.outside≤11
theorem Dw {r:Rul} (h:BA r=0):RulOk r:=by
 unfold BA Nm at h;cases hn:GC r.name
 ·simp_all
 cases hr:Ty r.side r.innings r.overs r.balls r.quota r.wide r.noball r.newball r.followon r.reviews r.outside
 ·simp_all
 unfold Ty at hr;simp only[zzj,XI]at hr;obtain⟨⟨⟨⟨⟨⟨⟨⟨⟨⟨h1,h2⟩,h3⟩,h4⟩,h5⟩,h6⟩,h7⟩,h8⟩,h9⟩,h10⟩,h11⟩:=hr;exact⟨h1,h2,h3,h4,h5,h6,h7,h8,h9,h10,h11⟩
def B2 (x:Int):Prop:=0≤x∧x≤1000000000
structure InnOk (r:Rul) (s:Inn):Prop where
 code:BA r=0
 side:1≤s.side∧s.side≤2
 lb:(s.batters.length:Int)=r.side
 ld:(s.bowled.length:Int)=r.side
 lz:(s.subs.length:Int)=r.side
 ending:s.ending≤5
 st:0≤s.striker∧s.striker≤r.side
 ot:0≤s.other∧s.other≤r.side
 bat:gf s.batters s.striker s.other s.wickets=true
 bow:0≤s.bowler∧s.bowler≤r.side
 kee:0≤s.keeper∧s.keeper≤r.side
 dw:Q8 s.bowlers r.side=true
 df:Q8 s.before r.side=true
 ov:kh r.overs s.overs=true
 io:0≤s.inover∧s.inover≤r.balls-1
 target:B2 s.target
 runs:B2 s.runs
 wides:B2 s.wides
 noballs:B2 s.noballs
 byes:B2 s.byes
 legbyes:B2 s.legbyes
 pens:B2 s.pens
 complete:B2 s.complete
 ballage:B2 s.ballage
 outside:B2 s.outside
 rev1:B2 s.rev1
 rev2:B2 s.rev2
 bowled:MF LM s.bowled=false
theorem AA1 {x:Int}:LM x=false↔B2 x:=by
 unfold LM B2;rw[Bool.not_eq_false',XI]
theorem zC (a b c d e f g h i j k l:Int):MF LM (qE a b c d e f g h i j k l)=false↔B2 a∧B2 b∧B2 c∧B2 d∧B2 e∧B2 f∧B2 g∧B2 h∧B2 i∧B2 j∧B2 k∧B2 l:=by
 rw[Pp];simp only[qE,List.any_cons,List.any_nil,Bool.or_false,xf,AAf,Bool.or_eq_false_iff,AA1]
theorem gm {r:Rul} (h:RulOk r):IntKind.i64.wrap (r.balls-1)=r.balls-1:=by
 have:=h.balls;exact A6 (by omega) (by omega)
theorem tV {x:Int}:(!iLt 5 x)=true↔x≤5:=by
 rw[Bool.not_eq_true'];simp only[iLt,decide_eq_false_iff_not];omega
theorem K7 {r:Rul} {s:Inn}:LD r s=true↔InnOk r s:=by
 unfold LD Zs;simp only[zzj,Bool.not_eq_true',zC,XI];constructor
 ·intro⟨h1,h2,h3,h4,h5,h6,h7,h8,h9,h10,h11,h12,h13,h14,h15,⟨n1,n2,n3,n4,n5,n6,n7,n8,n9,n10,n11,n12⟩,h17⟩;have hc:BA r=0:=beq_iff_eq.1 h1;exact⟨hc,h2,beq_iff_eq.1 h3,beq_iff_eq.1 h4,beq_iff_eq.1 h5,tV.1 (by grind),h7,h8,h9,h10,h11,h12,h13,h14,by rw[gm (Dw hc)]at h15;exact h15,n1,n2,n3,n4,n5,n6,n7,n8,n9,n10,n11,n12,h17⟩
 intro h;have h6:=tV.2 h.ending;rw[Bool.not_eq_true']at h6;exact⟨beq_iff_eq.2 h.code,h.side,beq_iff_eq.2 h.lb,beq_iff_eq.2 h.ld,beq_iff_eq.2 h.lz,h6,h.st,h.ot,h.bat,h.bow,h.kee,h.dw,h.df,h.ov,by rw[gm (Dw h.code)];exact h.io,
  ⟨h.target,h.runs,h.wides,h.noballs,h.byes,h.legbyes,h.pens,h.complete,h.ballage,h.outside,h.rev1,h.rev2⟩,h.bowled⟩
theorem Jm (n:Int):IntKind.i64.wrap n=(n+9223372036854775808)%18446744073709551616-9223372036854775808:=by
 unfold IntKind.wrap;simp only[IntKind.signed,IntKind.bits]
 grind
theorem Iq (n:Int):IntKind.i64.wrap (IntKind.i64.wrap n)=IntKind.i64.wrap n:=by
 simp only[Jm];omega
theorem Nn (a b:Int):IntKind.i64.wrap (IntKind.i64.wrap (a+b)-a)=IntKind.i64.wrap b:=by
 simp only[Jm];omega
theorem Yo (a:Int):IntKind.i64.wrap (a-a)=0:=by rw[Int.sub_self];rfl
theorem eD (s:Inn) (d:Del):(Au s d).runs=s.runs∧(Au s d).wides=s.wides∧(Au s d).noballs=s.noballs∧(Au s d).byes=s.byes∧(Au s d).legbyes=s.legbyes∧(Au s d).pens=s.pens∧(Au s d).complete=s.complete∧(Au s d).inover=s.inover∧(Au s d).bowler=s.bowler∧(Au s d).bowled=s.bowled:=by
 unfold Au
 grind
def IG (r:Rul) (s:Inn) (d:Del):Inn :=
 let o:=A5 r (Au s d) (AF r d).counts
 let t:Inn:=cond o.2 (L8 o.1) o.1
 { t with runs:=IntKind.i64.wrap (s.runs+Da (AF r d)),wides:=IntKind.i64.wrap (s.wides+(AF r d).wides),noballs:=IntKind.i64.wrap (s.noballs+(AF r d).noballs),byes:=IntKind.i64.wrap (s.byes+(AF r d).byes),legbyes:=IntKind.i64.wrap (s.legbyes+(AF r d).legbyes),freehit:=cond (d.type==1) false (cond (d.type==3&&r.freehit) true o.1.freehit) }
theorem cU {r:Rul} {s:Inn} {d:Del} (h:((NE r s d).2==0)=true):(IB r s d==0)=true∧(NE r s d).1=IG r s d:=by
 unfold NE at h⊢;cases hr:IB r s d==0
 ·simp_all
 refine⟨rfl,?_⟩;obtain⟨k1,k2,k3,k4,k5,_⟩:=eD s d;simp only[Bool.not_true,cond_false,oh,k1,k2,k3,k4,k5,IG];generalize A5 r (Au s d) (AF r d).counts=o;obtain⟨o1,o2⟩:=o;cases o2<;>rfl
theorem Nw {r:Rul} {s:Inn} {d:Del} (h:(IB r s d==0)=true):JN s.batters s.striker s.other=false∧(s.bowler==0)=false∧(XH r s==0)=true∧(Dt d==0)=true∧(Vr d s.freehit==0)=true∧(W5 s d==0)=true:=by
 unfold IB at h;cases h1:JN s.batters s.striker s.other
 ·cases h2:s.bowler==0
  ·rw[h1,h2]at h;change(ga _ _ _ _==0)=true at h;unfold ga at h
   grind
  simp_all
 simp_all
theorem dh {d:Del} {f:Bool} (h:(Vr d f==0)=true) (hd:(d.how==0)=false):(d.victim==1)=true∨(d.victim==2)=true:=by
 unfold Vr at h
 grind
theorem fo {s:Inn} {e:Ev} (h:gX s e=false) (hk:(e.kind==2)=false):DX s.batters=true:=by
 unfold gX at h
 simp_all
theorem tS {s:Inn} {d:Del} (h1:(s.striker==0)=false) (h2:(s.other==0)=false) (hv:(d.how==0)=false→(d.victim==1)=true∨(d.victim==2)=true) :
    (Au s d).wickets=cond (d.how==0) s.wickets (inc s.wickets):=by
  unfold Au;rw[h1,h2];cases hd:d.how==0
  · rcases hv hd with h|h<;>rw[h]<;>cases(!(d.runs.tmod 2==0) != d.crossed)<;>cases d.victim==1<;>rfl
  grind
theorem uj (r:Rul) (s:Inn) (b:Bool):(A5 r s b).1.wickets=s.wickets∧(A5 r s b).1.pens=s.pens:=by
 unfold A5
 grind
theorem vm {r:Rul} {s:Inn} {b:Bool} (hr:RulOk r) (hc:BA r=0) (hb:inR s.bowler s.bowled.length=true) (hi:0≤s.inover∧s.inover≤r.balls - 1) (hn:B2 s.complete) :
    IntKind.i64.wrap (DH r.balls (A5 r s b).1.complete (A5 r s b).1.inover-DH r.balls s.complete s.inover)=cond b 1 0:=by
  have hk:∃k:Nat,r.balls=k:=⟨r.balls.toNat,by omega⟩;have hz:=hr.balls;unfold B2 at hn;unfold A5 DH;rw[hb,hc];cases b
  · have h1:iLt s.inover r.balls=true:=by simp only[iLt,decide_eq_true_eq];omega
    simp only[cond_false,h1,beq_self_eq_true,Bool.not_true,Bool.or_false,cond_true];exact Yo _
  have h2:inc s.inover=s.inover+1:=A6 (by omega) (by omega);simp only[cond_true,h2,beq_self_eq_true,Bool.not_true,Bool.or_false,cond_false];have h3:inc s.complete=s.complete+1:=A6 (by omega) (by omega);have hb5:r.balls=4∨r.balls=5∨r.balls=6∨r.balls=7∨r.balls=8:=by omega
  cases h1:iLt (s.inover+1) r.balls
  · simp only[iLt,decide_eq_false_iff_not]at h1;simp only[cond_false,h3]
    rcases hb5 with e|e|e|e|e<;>rw[e]at hi h1⊢<;>simp only[Jm]<;>omega
  simp only[cond_true]
  rcases hb5 with e|e|e|e|e<;>rw[e]at hi⊢<;>simp only[Jm]<;>omega
theorem fV {L:Rows} {s n:Int} (h:JN L s n=false) (hb:DX L=true):(s==0)=false∧(n==0)=false:=by
 unfold JN at h
 simp_all
theorem we {r:Rul} {s:Inn} (h:InnOk r s) (hb:(s.bowler==0)=false):inR s.bowler s.bowled.length=true:=by
 have h1:=h.bow;have h2:=h.ld;rw[beq_eq_false_iff_ne]at hb;simp only[inR,iLe,zzj,decide_eq_true_eq];omega
theorem yL {r:Rul} {s:Inn} {e:Ev} (hk:(e.kind==4)=true) (h:((Az r s e).2==0)=true) :
    IntKind.i64.wrap ((Az r s e).1.runs-s.runs)=Da (AF r e.ball)∧IntKind.i64.wrap ((Az r s e).1.wides-s.wides)=(AF r e.ball).wides∧IntKind.i64.wrap ((Az r s e).1.noballs-s.noballs)=(AF r e.ball).noballs ∧
    IntKind.i64.wrap ((Az r s e).1.byes-s.byes)=(AF r e.ball).byes∧IntKind.i64.wrap ((Az r s e).1.legbyes-s.legbyes)=(AF r e.ball).legbyes∧(Az r s e).1.pens=s.pens ∧
    IntKind.i64.wrap (DH r.balls (Az r s e).1.complete (Az r s e).1.inover-DH r.balls s.complete s.inover)=cond (AF r e.ball).counts 1 0 ∧
    IntKind.i64.wrap ((Az r s e).1.wickets-s.wickets)=cond (e.ball.how==0) 0 1∧(Az r s e).1.fresh=true∧IntKind.i64.wrap (Az r s e).1.runs=(Az r s e).1.runs:=by
  obtain⟨hv,he,hn,hw,hp,hs⟩:=Pq h;have k4:=beq_iff_eq.1 hk;have hpb:Bs r s e=NE r s e.ball:=by unfold Bs;grind
  obtain⟨d,hd0⟩:∃d,d=e.ball:=⟨_,rfl⟩;rw[←hd0]at hpb⊢;rw[hpb]at hp hs;obtain⟨hr,hb⟩:=cU hp;obtain⟨q1,q2,q3,q4,q5,q6⟩:=Nw hr;have ok:=K7.1 hv;have rk:=Dw ok.code;have hbeg:DX s.batters=true:=fo hw (by grind);obtain⟨z1,z2⟩:=fV q1 hbeg;have hin:=we ok q2;have hout:=tS (d:=d) z1 z2 (fun hd=>dh q5 hd);obtain⟨k1,k2,k3,k4,k5,k6,k7,k8,k9,k10⟩:=eD s d;have hbl:=vm (b:=(AF r d).counts) (s:=Au s d) rk ok.code (by simp_all) (by rw[k8];exact ok.io) (by rw[k7];exact ok.complete);rw[k7,k8]at hbl;obtain⟨w1,w2⟩:=uj r (Au s d) (AF r d).counts;rw[hs,hb];have hc:AF r d=J7 r d:=by unfold AF;grind
  have ht:IntKind.i64.wrap (Da (AF r d))=Da (AF r d):=Iq _;have c1:IntKind.i64.wrap (AF r d).wides=(AF r d).wides:=by rw[hc];unfold J7;simp only;cases d.type==2<;>first|rfl|exact Iq _
  have c2:IntKind.i64.wrap (AF r d).noballs=(AF r d).noballs:=by
    have:=rk.noball;rw[hc];unfold J7;simp only;cases d.type==3<;>first|rfl|exact A6 (n:=r.noball) (by omega) (by omega)
  have c3:IntKind.i64.wrap (AF r d).byes=(AF r d).byes:=by rw[hc];unfold J7;simp only;cases(!(d.type==2)&&d.source==2)<;>first|rfl|exact Iq _
  have c4:IntKind.i64.wrap (AF r d).legbyes=(AF r d).legbyes:=by rw[hc];unfold J7;simp only;cases(!(d.type==2)&&d.source==3)<;>first|rfl|exact Iq _
  refine⟨(Nn _ _).trans ht,(Nn _ _).trans c1,(Nn _ _).trans c2,(Nn _ _).trans c3,(Nn _ _).trans c4,?_,?_,?_,hk,Iq _⟩
  · have:(CH r (IG r s d) (e.kind==4)).pens=(A5 r (Au s d) (AF r d).counts).1.pens:=by
      show(cond (A5 r (Au s d) (AF r d).counts).2 (L8 (A5 r (Au s d) (AF r d).counts).1) (A5 r (Au s d) (AF r d).counts).1).pens=_;cases(A5 r (Au s d) (AF r d).counts).2<;>rfl
    omega
  · have e1:(CH r (IG r s d) (e.kind==4)).complete=(A5 r (Au s d) (AF r d).counts).1.complete:=by
      show(cond (A5 r (Au s d) (AF r d).counts).2 (L8 (A5 r (Au s d) (AF r d).counts).1) (A5 r (Au s d) (AF r d).counts).1).complete=_;cases(A5 r (Au s d) (AF r d).counts).2<;>rfl
    have e2:(CH r (IG r s d) (e.kind==4)).inover=(A5 r (Au s d) (AF r d).counts).1.inover:=by
      show(cond (A5 r (Au s d) (AF r d).counts).2 (L8 (A5 r (Au s d) (AF r d).counts).1) (A5 r (Au s d) (AF r d).counts).1).inover=_;cases(A5 r (Au s d) (AF r d).counts).2<;>rfl
    simp_all
  have:(CH r (IG r s d) (e.kind==4)).wickets=(A5 r (Au s d) (AF r d).counts).1.wickets:=by
    show(cond (A5 r (Au s d) (AF r d).counts).2 (L8 (A5 r (Au s d) (AF r d).counts).1) (A5 r (Au s d) (AF r d).counts).1).wickets=_;cases(A5 r (Au s d) (AF r d).counts).2<;>rfl
  rw[this,w1,hout];unfold inc;cases d.how==0
  · exact(Nn s.wickets 1).trans rfl
  exact Yo _
def AAV:Inn:=⟨0,0,0,0,0,0,0,0,0,0,0,0,0,0,[],0,[],[],false,[],false,0,0,0,[],0,0,0⟩
def ADB (n:Nat) (overs side t p:Int):Inn:=⟨side,t,overs,p,0,0,0,0,0,p,0,0,0,0,List.replicate n [.int 0],0,[],[],false,List.replicate n [.int 0],false,0,0,0,List.replicate n [.bool false],0,0,0⟩
def Ct (r:Rul) (side t p:Int):Inn×Int :=
 cond (!(BA r==0)) (AAV,BA r) (cond (!btw side 1 2 || !btw t 0 1000000 || !btw p 0 1000000) (AAV,2) (ADB r.side.toNat r.overs side t p,0))
theorem Vp {N:Nat} {r8:Bool} {r0:ByteArray} {r13:Rows} {a:Int} {b:Int} {c:Int} (hN:2097152<N) (hs:r0.size≤1048576):HY N [.str r0,.int r1,.int r2,.int r3,.int r4,.int r5,.int r6,.int r7,.bool r8,.int r9,.int r10,.int r11,.int r12,.rows r13,.int a,.int b,.int c]=some (BZ (Ct (⟨r0,r1,r2,r3,r4,r5,r6,r7,r8,r9,r10,r11,r12,r13⟩:Rul) a b c)):=by
 show J5 (std (H2 N) N) (xOf _)=_;generalize hres:(some (BZ (Ct (⟨r0,r1,r2,r3,r4,r5,r6,r7,r8,r9,r10,r11,r12,r13⟩:Rul) a b c)):Option (List PV))=RR;simp only[J5,RO,N9,lq9,std,xOf,PXb,DP hN hs,Ei];subst hres;simp only[Ct];cases hc:BA (⟨r0,r1,r2,r3,r4,r5,r6,r7,r8,r9,r10,r11,r12,r13⟩:Rul)==0
 ·rfl
 have rk:=(Dw (beq_iff_eq.1 hc)).side;obtain⟨k,hk⟩:∃k:Nat,r1=k:=⟨r1.toNat,by grind⟩;subst hk;simp only at rk;have h1:iSm (k:Int) 1=true:=C4 (by omega) (by omega);have h8:iSm (k:Int) 8=true:=C4 (by omega) (by omega);simp only[PXb,PXc,PXn,PXm,Nat.reduceAdd,Int.reduceBEq,h1,h8];cases btw a 1 2<;>cases btw b 0 1000000<;>cases btw c 0 1000000<;>rfl
theorem Sv (r:Rul) (side t p:Int):(Ct r side t p).1.Fit∧(Ct r side t p).1.before=[]∧(Ct r side t p).1.bowlers=[]:=by
 unfold Ct;cases hc:BA r==0
 ·exact⟨⟨by show 0≤1048576;omega,by show 0≤1048576;omega,by show 0≤1048576;omega,by show 0≤1048576;omega,by show 0≤1048576;omega⟩,rfl,rfl⟩
 have hs:=(Dw (beq_iff_eq.1 hc)).side;have hl:∀x:List PV,(List.replicate r.side.toNat x).length≤1048576:=fun x=>by grind
 cases(!btw side 1 2 || !btw t 0 1000000 || !btw p 0 1000000)
 ·exact⟨⟨hl _,by show 0≤1048576;omega,by show 0≤1048576;omega,hl _,hl _⟩,rfl,rfl⟩
 exact⟨⟨by show 0≤1048576;omega,by show 0≤1048576;omega,by show 0≤1048576;omega,by show 0≤1048576;omega,by show 0≤1048576;omega⟩,rfl,rfl⟩
theorem AA3 {s:Inn} (h:s.Fit):(MI s).Fit:=⟨h.bt,h.bw,h.bf,h.bd,h.sb⟩
def Shp (L:Rows):Prop:=∀r∈L,r≠[]
structure BatOk (L:Rows) (s n wk:Int):Prop where
 le:∀i,i<L.length→atI L i 0≤3
 at1:∀i,i<L.length→(atI L i 0=1↔(s=(i:Int)+1∨n=(i:Int)+1))
 here:DX L=true→s≠0∨n≠0
 ne:s≠0→s≠n
 wk:wk=bq L
theorem ABK {r:Rul} {s:Inn} (h:InnOk r s):2≤r.side∧r.side≤11:=(Dw h.code).side
theorem xI {s:Inn} {p:Int} {hurt:Bool} (h:((Fr s p hurt).2==0)=true):inR p s.batters.length=true∧s.striker≠0∧s.other≠0∧(p=s.striker∨p=s.other)∧(hurt&&((Fd s.batters s.batters.length).length:Int)==0)=false:=by
 unfold Fr at h
 grind
end Go.Px
end
