/- Part 11. -/
import Derived.Test.YtejjoflbpnjohaaGreatDoorPart10
set_option linter.unusedVariables false
set_option linter.unusedSimpArgs false
variable {s0 s1 s2 s3 s4 s5 s6 s7 s8 s9 s10 s11 s12 s13 s15 s21 s22 s23 s25 s26 s27:Int}
variable {s14 s16 s17 s19 s24:Go.Px.Rows}
variable {r1 r2 r3 r4 r5 r6 r7 r9 r10 r11 r12:Int}
variable {d0 d1 d2 d3 d4 d6 d7 d8 d9 d11:Int}
variable {e0 e1 e2 e3 e5 e6 e7 e8 e9 e10 e11 e13 e14 e15 e16 e18:Int}
section
namespace Go.Px
set_option maxRecDepth 100000
def onS (h t:Int):Bool :=
 cond (h==1||h==2||h==3) (t==1) (cond (h==4||h==5) (t==1||t==2) (cond (h==7) (t==1||t==3) (cond (h==6||h==8) (t==1||t==2||t==3) false)))
def gV (h:Int):Bool:=h==6||h==7||h==8
def Nm (h:Int):Bool:=h==6||h==8
def aN (h:Int):Bool:=h==2||h==4||h==6
def Qo (d:Del) (free:Bool):Int :=
  cond (d.how==0) (cond (!(d.victim==0)) 14 (cond (!(d.fielder==0) || !(d.second==0)||d.sub) 15 0))
    (cond (!onS d.how d.type||free && !gV d.how) 13 (cond (!Nm d.how&&(!(d.source==0) || !(d.runs==0))) 12
      (cond (!(d.victim==1) && !(d.victim==2&&Nm d.how)) 14
        (cond (aN d.how && !btw d.fielder 1 11 || !aN d.how && !(d.fielder==0)) 15
          (cond (!(d.second==0)&&(!(d.how==6) || !btw d.second 1 11||d.second==d.fielder)) 15
            (cond (d.sub && !(d.how==2) && !(d.how==6)) 18 0))))))
def Bn:Rows:=match Bi 0 [] with
 | some [.rows l]=>l
 | _=>[]
theorem Pu {N:Nat}:Bi N []=some [.rows Bn]:=rfl
theorem ZK:Bn.length=11:=rfl
theorem Wd {N:Nat} {h:Int} {n:ByteArray} {b:Bool} {c:Bool} {d:Bool} {e:Bool} {x:Bool} {t:Int}  : Dp N [.int h,.str n,.bool b,.bool c,.bool d,.bool e,.bool x,.int t]=some [.bool (t==1&&b||t==2&&c||t==3&&d)]:=by
 show Fm (std (Mo N) N) (xOf _)=_;simp only [Fm,lq9,std,xOf,PXb,PXc,PXn,PXm,Nat.reduceAdd,Int.reduceBEq]
theorem TZ {N:Nat} {n:Int}  : Cg N [.int n]=some [.bool (btw n 1 11)]:=by
 show DZ (std (Jk N) N) (xOf _)=_;simp only [DZ,lq9,std,xOf,PXb,PXc,PXn,PXm,Nat.reduceAdd,Int.reduceBEq];rfl
def nF (i j:Nat):Bool:=pvB (AB Bn i j)
def wOk (t:Int) (free:Bool) (i:Nat):Bool :=
  (t==1&&nF i 2||t==2&&nF i 3||t==3&&nF i 4)&&(!free||atI Bn i 0==6||atI Bn i 0==7||atI Bn i 0==8)
def Hl (t:Int) (free:Bool):Nat→Rows
 | 0=>[]
 | i+1=>cond (wOk t free i) (Hl t free i++[[.int (atI Bn i 0)]]) (Hl t free i)
theorem ZN (t:Int) (free:Bool):∀ i,(Hl t free i).length≤i
 | 0=>Nat.le_refl _
 | i+1=>by
  have:=ZN t free i;unfold Hl;cases wOk t free i
  ·exact Nat.le_succ_of_le this
  ·simp;exact this
theorem Zk {N:Nat} {t:Int} {f:Bool} (hN:2097152<N):E7 N [.int t,.bool f]=some [.rows (Hl t f 11)]:=by
 show HW (std (GA N) N) (xOf _)=_;simp only [HW,Le,Kg,lq9,std,xOf,PXb,PXc,PXn,AG,Pu,Wd];refine AU (ED (len:=Bn.length) (fun i=>[.rows (Hl t f i),.int (i:Int)]) [.rows (Hl t f 11)] ?_ ?_ N (by rw [ZK];omega)) rfl
 ·intro self;simp only [PXb,PXc,PXn,AG,A2];rfl
 ·intro i self hi;have hi2:i<11:=hi;have h2:(Hl t f i++[[PV.int (atI Bn i 0)]]).length≤4194304:=by have:=ZN t f i;simp;omega
  simp only [PXb,PXc,AG,Ax (show i≤1099511627776 by omega),Av hi,AN hi,DU,Hl,DV h2 (show 1≤4096 by omega)];unfold wOk nF;cases ((t==1&&pvB (AB Bn i 2)||t==2&&pvB (AB Bn i 3)||t==3&&pvB (AB Bn i 4))&&(!f||atI Bn i 0==6||atI Bn i 0==7||atI Bn i 0==8))<;>rfl
theorem Wo {N:Nat} {L:Rows} {v:Int} (hN:L.length<N) (hl:L.length≤1048576):Df N [.rows L,.int v]=some [.int (NB (fun j=>v==atI L j 0) L.length)]:=by
 show F6 (std (NE N) N) (xOf _)=_;simp only [F6,lq9,std,xOf,PXb,PXc,PXn,AG];refine AU (Bp (len:=L.length) (Ef fun j=>v==atI L j 0) ?_ ?_ L.length 0 N (by omega) (by omega)) ?_
 ·intro self;simp only [PXb,PXc,PXn,AG,A2]
 ·intro i self hi;simp only [PXb,PXc,PXn,AG,Ax (show i≤1099511627776 by omega),Av hi,AN hi,Ef,DU];cases v==atI L i 0<;>rfl
 ·unfold NB;cases A5 (Ef fun j=>v==atI L j 0) L.length 0<;>rfl
theorem Tz {N:Nat} {L:Rows} {v:Int} (hN:L.length<N) (hl:L.length≤1048576):Cs N [.rows L,.int v]=some [.bool (KR L L.length v)]:=by
 show Dz (std (FR N) N) (xOf _)=_;simp only [Dz,Ib,lq9,std,xOf,PXb,PXc,PXn,AG,Wo hN hl,Hp,KR]
theorem qI (L:Rows) (v:Int):KR L L.length v=KM (fun x=>v==x) L:=rfl
theorem vN (p:Int→Bool) (b:Bool) (L:Rows) (x:Int):KM p (cond b (L++[[.int x]]) L)=(KM p L||(b&&p x)):=by
 cases b with
 | false=>simp
 | true=>rw [cond_true,kQ,Bool.true_and];congr 1;rw [Nv];simp [AA,pvI]
theorem gp (t:Int) (free:Bool) (p:Int→Bool):∀ i,KM p (Hl t free i)=BI (fun j=>wOk t free j&&p (atI Bn j 0)) i 0
 | 0=>rfl
 | i+1=>by rw [XY,← gp t free p i,Hl,vN,Nat.zero_add]
theorem qL (t h:Int) (free:Bool):KR (Hl t free 11) (Hl t free 11).length h=(onS h t&&(!free||gV h)):=by
 rw [qI,gp];have key:∀ j,j<11→atI Bn j 0=j:=by
  intro j hj;have:j=0∨j=1∨j=2∨j=3∨j=4∨j=5∨j=6∨j=7∨j=8∨j=9∨j=10:=by omega
  rcases this with h | h | h | h | h | h | h | h | h | h | h<;>subst h<;>rfl
 by_cases hr:0≤h∧h≤10
 ·obtain ⟨k,rfl⟩:∃ k:Nat,h=k:=⟨h.toNat,by omega⟩;have:k=0∨k=1∨k=2∨k=3∨k=4∨k=5∨k=6∨k=7∨k=8∨k=9∨k=10:=by omega
  rcases this with h | h | h | h | h | h | h | h | h | h | h<;>subst h<;>simp only [Bq,HJ,wOk,onS]<;>cases free<;>cases t==1<;>cases t==2<;>cases t==3<;>rfl
 ·rw [Jq.2 fun j _ hj=>by
   rw [key j (by omega),show (h==(j:Int))=false from beq_false_of_ne (by omega),Bool.and_false]]
  have e:∀ n:Int,0≤n→n≤10→(h==n)=false:=fun n h0 h1=>beq_false_of_ne (by omega)
  unfold onS;rw [e 1 (by omega) (by omega),e 2 (by omega) (by omega),e 3 (by omega) (by omega),e 4 (by omega) (by omega),e 5 (by omega) (by omega),e 6 (by omega) (by omega),e 7 (by omega) (by omega),e 8 (by omega) (by omega)];rfl
def QU (h:Int):List PV:=match A5 (fun i=>cond (atI Bn i 0==h) (some [.int (pvI (AB Bn i 0)),.str (pvS (AB Bn i 1)),.bool (pvB (AB Bn i 2)),.bool (pvB (AB Bn i 3)),.bool (pvB (AB Bn i 4)),.bool (pvB (AB Bn i 5)),.bool (pvB (AB Bn i 6))]) none) 11 0 with
 | some r=>r
 | none=>[.int 0,.str ⟨#[]⟩,.bool false,.bool false,.bool false,.bool false,.bool false]
theorem Ha {ans:Nat→Option (List PV)} {r:List PV}:∀ (k i:Nat),A5 ans k i=some r→∃ j,i≤j∧j<i+k∧ans j=some r
 | 0,i,h=>by cases h
 | k+1,i,h=>by
  simp only [A5] at h;cases ha:ans i with
  | some x=>rw [ha] at h;cases h;exact ⟨i,Nat.le_refl _,by omega,ha⟩
  | none =>
   rw [ha] at h;obtain ⟨j,h1,h2,h3⟩:=Ha k (i+1) h;exact ⟨j,by omega,by omega,h3⟩
theorem rq (h:Int):∃ a b c d e f g,QU h=[.int a,.str b,.bool c,.bool d,.bool e,.bool f,.bool g]:=by
 unfold QU;generalize hf:A5 _ 11 0=o;cases o with
 | none=>exact ⟨_,_,_,_,_,_,_,rfl⟩
 | some r =>
  obtain ⟨j,_,_,h3⟩:=Ha _ _ hf;cases hb:atI Bn j 0==h with
  | false=>rw [hb] at h3;cases h3
  | true=>rw [hb] at h3;cases h3;exact ⟨_,_,_,_,_,_,_,rfl⟩
theorem UL {N:Nat} {h:Int} (hN:2097152<N):Cr N [.int h]=some (QU h):=by
 show J8 (std (LY N) N) (xOf _)=_;simp only [J8,MW,lq9,std,xOf,PXb,PXc,PXn,AG,Pu];refine AU (Bp (len:=Bn.length) (fun i=>cond (atI Bn i 0==h) (some [.int (pvI (AB Bn i 0)),.str (pvS (AB Bn i 1)),.bool (pvB (AB Bn i 2)),.bool (pvB (AB Bn i 3)),.bool (pvB (AB Bn i 4)),.bool (pvB (AB Bn i 5)),.bool (pvB (AB Bn i 6))]) none) ?_ ?_ Bn.length 0 N (by omega) (by rw [ZK];omega)) ?_
 ·intro self;simp only [PXb,PXc,PXn,AG,A2]
 ·intro i self hi;have hi2:i<11:=hi;simp only [PXb,PXc,PXn,AG,Ax (show i≤1099511627776 by omega),Av hi,AN hi,DU];cases atI Bn i 0==h<;>rfl
 ·unfold QU;rw [ZK];generalize hf:A5 _ 11 0=o;cases o with
  | none=>rfl
  | some r =>
   obtain ⟨j,_,_,h3⟩:=Ha _ _ hf;cases hb:atI Bn j 0==h with
   | false=>rw [hb] at h3;cases h3
   | true=>rw [hb] at h3;cases h3;rfl
theorem pk (h:Int):pvB (AA (QU h) 5)=aN h∧pvB (AA (QU h) 6)=Nm h:=by
 by_cases hr:0≤h∧h≤10
 ·obtain ⟨k,rfl⟩:∃ k:Nat,h=k:=⟨h.toNat,by omega⟩;have:k=0∨k=1∨k=2∨k=3∨k=4∨k=5∨k=6∨k=7∨k=8∨k=9∨k=10:=by omega
  rcases this with h | h | h | h | h | h | h | h | h | h | h<;>subst h<;>exact ⟨rfl,rfl⟩
 ·have e:∀ n:Int,0≤n→n≤10→(h==n)=false:=fun n h0 h1=>beq_false_of_ne (by omega)
  have key:∀ j,j<11→atI Bn j 0=j:=by
   intro j hj;have:j=0∨j=1∨j=2∨j=3∨j=4∨j=5∨j=6∨j=7∨j=8∨j=9∨j=10:=by omega
   rcases this with h | h | h | h | h | h | h | h | h | h | h<;>subst h<;>rfl
  unfold QU;generalize hf:A5 _ 11 0=o;cases o with
  | none =>
   unfold aN Nm;rw [e 2 (by omega) (by omega),e 4 (by omega) (by omega),e 6 (by omega) (by omega),e 8 (by omega) (by omega)];exact ⟨rfl,rfl⟩
  | some r =>
   obtain ⟨j,_,hj,h3⟩:=Ha _ _ hf;rw [key j (by omega),show ((j:Int)==h)=false from beq_false_of_ne (by omega)] at h3;cases h3
def PT (d:Del) (m:Bool):Bool :=
 !(!(m==btw d.fielder 1 11) || !m && !(d.fielder==0))&&(d.second==0||d.how==6&&btw d.second 1 11 && !(d.second==d.fielder))
theorem Va {N:Nat} {d5 d10:Bool} {a:Int} {n:ByteArray} {b:Bool} {c:Bool} {e:Bool} {f:Bool} {g:Bool}  : Cz N [.int d0,.int d1,.int d2,.int d3,.int d4,.bool d5,.int d6,.int d7,.int d8,.int d9,.bool d10,.int d11,.int a,.str n,.bool b,.bool c,.bool e,.bool f,.bool g]=some [.bool (PT (⟨d0,d1,d2,d3,d4,d5,d6,d7,d8,d9,d10,d11⟩:Del) f)]:=by
 show Ee (std (GH N) N) (xOf _)=_;generalize hres:(some [.bool (PT (⟨d0,d1,d2,d3,d4,d5,d6,d7,d8,d9,d10,d11⟩:Del) f)]:Option (List PV))=RR;simp only [Ee,HG,lq9,std,xOf,PXb,PXc,PXn,PXm,Nat.reduceAdd,Int.reduceBEq,TZ];subst hres;simp only [PT];cases d9==0<;>cases d6==6<;>cases f<;>cases btw d8 1 11<;>cases d8==0<;>first | rfl | (cases btw d9 1 11<;>rfl)
theorem vU {α:Type} (a b:Bool) (x y:α):cond (a||b) x y=cond a x (cond b x y):=by cases a<;>rfl
theorem lV (d:Del) (m:Bool):(!PT d m)=((m && !btw d.fielder 1 11 || !m && !(d.fielder==0))||(!(d.second==0)&&(!(d.how==6) || !btw d.second 1 11||d.second==d.fielder))):=by
 unfold PT;cases hb:btw d.fielder 1 11<;>cases hf:d.fielder==0
 ·cases m<;>cases d.second==0<;>cases d.how==6<;>cases btw d.second 1 11<;>cases d.second==d.fielder<;>rfl
 ·cases m<;>cases d.second==0<;>cases d.how==6<;>cases btw d.second 1 11<;>cases d.second==d.fielder<;>rfl
 ·cases m<;>cases d.second==0<;>cases d.how==6<;>cases btw d.second 1 11<;>cases d.second==d.fielder<;>rfl
 ·rw [beq_iff_eq.1 hf] at hb;exact absurd hb (by decide)
theorem Uk {N:Nat} {d5 d10:Bool} {f:Bool} (hN:2097152<N):C1 N [.int d0,.int d1,.int d2,.int d3,.int d4,.bool d5,.int d6,.int d7,.int d8,.int d9,.bool d10,.int d11,.bool f]=some [.int (Qo (⟨d0,d1,d2,d3,d4,d5,d6,d7,d8,d9,d10,d11⟩:Del) f)]:=by
 show Ed (std (B5 N) N) (xOf _)=_;generalize hres:(some [.int (Qo (⟨d0,d1,d2,d3,d4,d5,d6,d7,d8,d9,d10,d11⟩:Del) f)]:Option (List PV))=RR;have hl:=ZN d0 f 11;obtain ⟨a,b,c,d,e,m,g,hline⟩:=rq d6;have hbits:=pk d6;rw [hline] at hbits;have hm:m=aN d6:=hbits.1;have hg:g=Nm d6:=hbits.2;have h1:(Hl d0 f 11).length<N:=by omega
 have h2:(Hl d0 f 11).length≤1048576:=by omega
 simp only [Ed,Kp,Hj,KF,Hy,lq9,std,xOf,PXb,PXc,PXn,PXm,Nat.reduceAdd,Int.reduceBEq,UL hN,hline,Zk hN,Tz h1 h2,qL,Va,lV];subst hres;simp only [Qo,vU];rw [hm,hg];unfold Nm;cases d6==0<;>cases onS d6 d0<;>cases f<;>cases gV d6<;>try rfl
 all_goals (cases d6==6<;>cases d6==8<;>cases d7==2<;>rfl)
theorem XQ {N:Nat} {a:Int} {b:Int} {c:Int}  : Dv N [.int a,.int b,.int c]=some [.bool (btw a b c)]:=by
 show JH (std (M6 N) N) (xOf _)=_;show some [PV.bool (cond (iLe b a) (iLe a c) false)]=_;rw [dC];rfl
theorem bu {N:Nat} {a:Int} {b:Int} {c:Int}  : Fv N [.int a,.int b,.int c]=some [.bool (btw a b c)]:=by
 show Mk (std (QE N) N) (xOf _)=_;show some [PV.bool (cond (iLe b a) (iLe a c) false)]=_;rw [dC];rfl
def gd (d:Del):Int :=
  cond (iLt d.type 1||iLt 3 d.type||iLt 3 d.source||iLt 10 d.how) 3
    (cond (!btw d.runs 0 7 || !btw d.short 0 d.runs||(!(d.boundary==0) && !(d.boundary==4) && !(d.boundary==6)) || !btw d.victim 0 2 || !btw d.fielder 0 11 || !btw d.second 0 11 || !btw d.sector 0 8) 2 0)
theorem Zx {N:Nat} {d5 d10:Bool}  : Es N [.int d0,.int d1,.int d2,.int d3,.int d4,.bool d5,.int d6,.int d7,.int d8,.int d9,.bool d10,.int d11]=some [.int (gd (⟨d0,d1,d2,d3,d4,d5,d6,d7,d8,d9,d10,d11⟩:Del))]:=by
 show HR (std (JS N) N) (xOf _)=_;generalize hres:(some [.int (gd (⟨d0,d1,d2,d3,d4,d5,d6,d7,d8,d9,d10,d11⟩:Del))]:Option (List PV))=RR;simp only [HR,KZ,lq9,std,xOf,PXb,PXc,PXn,PXm,Nat.reduceAdd,Int.reduceBEq,XQ];subst hres;simp only [gd]
def loS (k:Int):Int:=cond (k==7) 0 (cond (k==13) 1 0)
def hiS (k:Int):Int:=cond (k==7) 11 (cond (k==13) 99 100000)
theorem eV {N:Nat} {k:Int}  : Gz N [.int k]=some [.int (loS k),.int (hiS k)]:=by
 show J7 (std (Q2 N) N) (xOf _)=_;simp only [J7,lq9,std,xOf,PXb,PXc,PXn,PXm,Nat.reduceAdd,Int.reduceBEq];unfold loS hiS;cases k==7<;>cases k==13<;>rfl
def uS (k:Int):Bool:=k==1||k==12||k==14||k==11||k==13
def uP (k:Int):Bool:=k==2||k==3||k==8||k==5||k==6||k==9
def uO (k:Int):Bool:=k==2
def uY (k:Int):Bool:=k==1||k==12||k==14||k==5||k==6||k==9
def uR (k:Int):Bool:=k==7||k==13||k==15
def uV (k:Int):Bool:=k==15
def uB (k:Int):Bool:=k==4
theorem dy {k:Int} (h:(iLt k 1||iLt 16 k)=false):k=1∨k=2∨k=3∨k=4∨k=5∨k=6∨k=7∨k=8∨k=9∨k=10∨k=11∨k=12∨k=13∨k=14∨k=15∨k=16:=by
 simp only [iLt,Bool.or_eq_false_iff,decide_eq_false_iff_not] at h;omega
def nR:Rows:=match FW 0 [] with
 | some [.rows l]=>l
 | _=>[]
theorem gL {N:Nat}:FW N []=some [.rows nR]:=rfl
def DD (k f:Int):Bool:=iLe 0 (Lib.indexByte (pvS (AB nR (IntKind.u8.wrap (k - 1)).toNat 1)).data.toList f.toNat.toUInt8)||(k==5&&f==121)
theorem WM {N:Nat} {s:ByteArray} {f:Int}  : DP N [.str s,.int f]=some [.int (Lib.indexByte s.data.toList f.toNat.toUInt8)]:=by
 show FI (std (Gf N) N) (xOf _)=_;simp only [FI,HF,lq9,std,xOf,PXb,PXc,PXn,PXm,Nat.reduceAdd,Int.reduceBEq,CP,aG]
theorem W5 {N:Nat} {k:Int} {f:Int} (h:(iLt k 1||iLt 16 k)=false):JK N [.int k,.int f]=some [.bool (DD k f)]:=by
 show Ma (std (J2 N) N) (xOf _)=_;have hi:iIn (IntKind.u8.wrap (k - 1)) (nR.length:Int)=true:=by
  rcases dy h with h | h | h | h | h | h | h | h | h | h | h | h | h | h | h | h<;>subst h<;>rfl
 simp only [Ma,Mh,Ro,lq9,std,xOf,PXb,PXc,PXn,PXm,Nat.reduceAdd,Int.reduceBEq,gL,WM,hi,DD]
theorem uu {k:Int} (h:(iLt k 1||iLt 16 k)=false):DD k 115=uS k∧DD k 112=uP k∧DD k 111=uO k∧DD k 121=uY k∧DD k 114=uR k∧DD k 118=uV k∧DD k 98=uB k:=by
 rcases dy h with h | h | h | h | h | h | h | h | h | h | h | h | h | h | h | h<;>subst h<;>exact ⟨rfl,rfl,rfl,rfl,rfl,rfl,rfl⟩
def mc (d:Del):Bool:=d.type==0&&(d.source==0&&(d.runs==0&&(d.short==0&&(d.boundary==0&&(d.crossed==false&&(d.how==0&&(d.victim==0&&(d.fielder==0&&(d.second==0&&(d.sub==false&&d.sector==0))))))))))
def jU (e:Ev):Bool:=(!(e.side==0) && !uS e.kind)||((!(e.player==0) && !uP e.kind)||((!(e.other==0) && !uO e.kind)||((e.yes && !uY e.kind)||((!(e.runs==0) && !uR e.kind)||((!(e.overs==0) && !uV e.kind)||(!mc e.ball && !uB e.kind))))))
def Zv (e:Ev):Bool:=(!btw e.side 1 2&&uS e.kind)||((!btw e.player 1 11&&uP e.kind)||((!btw e.other 1 11&&uO e.kind)||((!btw e.runs (loS e.kind) (hiS e.kind)&&uR e.kind)||(!btw e.overs 0 90&&uV e.kind))))
def evS (e:Ev):Int:=cond (iLt e.kind 1||iLt 16 e.kind) 3 (cond (jU e) 1 (cond (Zv e) 2 (cond (e.kind==4) (gd e.ball) 0)))
def evT (e:Ev):Rows:=[[.int 115,.bool (e.side==0),.bool (btw e.side 1 2)],[.int 112,.bool (e.player==0),.bool (btw e.player 1 11)],[.int 111,.bool (e.other==0),.bool (btw e.other 1 11)],[.int 121,.bool (!e.yes),.bool true],[.int 114,.bool (e.runs==0),.bool (btw e.runs (loS e.kind) (hiS e.kind))],[.int 118,.bool (e.overs==0),.bool (btw e.overs 0 90)],[.int 98,.bool (mc e.ball),.bool true]]
theorem V2 {N:Nat} {e4 e12 e17:Bool} (hN:2097152<N):DB N [.int e0,.int e1,.int e2,.int e3,.bool e4,.int e5,.int e6,.int e7,.int e8,.int e9,.int e10,.int e11,.bool e12,.int e13,.int e14,.int e15,.int e16,.bool e17,.int e18]=some [.int (evS (⟨e0,e1,e2,e3,e4,e5,e6,⟨e7,e8,e9,e10,e11,e12,e13,e14,e15,e16,e17,e18⟩⟩:Ev))]:=by
 show H1 (std (D1 N) N) (xOf _)=_;generalize hres:(some [.int (evS (⟨e0,e1,e2,e3,e4,e5,e6,⟨e7,e8,e9,e10,e11,e12,e13,e14,e15,e16,e17,e18⟩⟩:Ev))]:Option (List PV))=RR;cases hk:iLt e0 1||iLt 16 e0 with
 | true =>
  simp only [H1,IB,HO,JZ,DS,lq9,std,xOf,PXb,PXc,AG,hk,← hres,evS]
 | false =>
  simp only [H1,IB,HO,JZ,DS,lq9,std,xOf,PXb,PXc,AG,hk,eV,bu];subst hres;obtain ⟨g1,g2,g3,g4,g5,g6,g7⟩:=uu hk;refine AU (JR (len:=7) (fun i => !pvB (AB (evT (⟨e0,e1,e2,e3,e4,e5,e6,⟨e7,e8,e9,e10,e11,e12,e13,e14,e15,e16,e17,e18⟩⟩:Ev)) i 1) && !DD e0 (pvI (AB (evT (⟨e0,e1,e2,e3,e4,e5,e6,⟨e7,e8,e9,e10,e11,e12,e13,e14,e15,e16,e17,e18⟩⟩:Ev)) i 0))) [.int 1] ?_ ?_ N (by omega)) ?_
  ·intro self;rfl
  ·intro i self hi;simp only [PXb,PXc,AG,Ax (show i≤1099511627776 by omega),List.length_cons,List.length_nil,Nat.reduceAdd,Av hi,AN hi,W5 hk];change cond (!pvB (AB (evT (⟨e0,e1,e2,e3,e4,e5,e6,⟨e7,e8,e9,e10,e11,e12,e13,e14,e15,e16,e17,e18⟩⟩:Ev)) i 1) && !(!pvB (AB (evT (⟨e0,e1,e2,e3,e4,e5,e6,⟨e7,e8,e9,e10,e11,e12,e13,e14,e15,e16,e17,e18⟩⟩:Ev)) i 1)&&DD e0 (pvI (AB (evT (⟨e0,e1,e2,e3,e4,e5,e6,⟨e7,e8,e9,e10,e11,e12,e13,e14,e15,e16,e17,e18⟩⟩:Ev)) i 0)))) _ _=_;cases pvB (AB (evT (⟨e0,e1,e2,e3,e4,e5,e6,⟨e7,e8,e9,e10,e11,e12,e13,e14,e15,e16,e17,e18⟩⟩:Ev)) i 1)<;>rfl
  ·have a1:BI (fun i => !pvB (AB (evT (⟨e0,e1,e2,e3,e4,e5,e6,⟨e7,e8,e9,e10,e11,e12,e13,e14,e15,e16,e17,e18⟩⟩:Ev)) i 1) && !DD e0 (pvI (AB (evT (⟨e0,e1,e2,e3,e4,e5,e6,⟨e7,e8,e9,e10,e11,e12,e13,e14,e15,e16,e17,e18⟩⟩:Ev)) i 0))) 7 0=jU (⟨e0,e1,e2,e3,e4,e5,e6,⟨e7,e8,e9,e10,e11,e12,e13,e14,e15,e16,e17,e18⟩⟩:Ev):=by
    simp only [Bq,HJ];change (!(e1==0) && !DD e0 115||(!(e2==0) && !DD e0 112||(!(e3==0) && !DD e0 111||(!(!e4) && !DD e0 121||(!(e5==0) && !DD e0 114||(!(e6==0) && !DD e0 118||(!(mc (⟨e0,e1,e2,e3,e4,e5,e6,⟨e7,e8,e9,e10,e11,e12,e13,e14,e15,e16,e17,e18⟩⟩:Ev).ball) && !DD e0 98||false)))))))=_;rw [g1,g2,g3,g4,g5,g6,g7,Bool.not_not,Bool.or_false];rfl
   rw [a1];simp only [evS,hk,cond_false];cases jU (⟨e0,e1,e2,e3,e4,e5,e6,⟨e7,e8,e9,e10,e11,e12,e13,e14,e15,e16,e17,e18⟩⟩:Ev) with
   | true=>rfl
   | false =>
    simp only [PXb,PXc,AG];refine AU (JR (len:=7) (fun i => !pvB (AB (evT (⟨e0,e1,e2,e3,e4,e5,e6,⟨e7,e8,e9,e10,e11,e12,e13,e14,e15,e16,e17,e18⟩⟩:Ev)) i 2)&&DD e0 (pvI (AB (evT (⟨e0,e1,e2,e3,e4,e5,e6,⟨e7,e8,e9,e10,e11,e12,e13,e14,e15,e16,e17,e18⟩⟩:Ev)) i 0))) [.int 2] ?_ ?_ N (by omega)) ?_
    ·intro self;rfl
    ·intro i self hi;simp only [PXb,PXc,AG,Ax (show i≤1099511627776 by omega),List.length_cons,List.length_nil,Nat.reduceAdd,Av hi,AN hi,W5 hk];rfl
    ·have a2:BI (fun i => !pvB (AB (evT (⟨e0,e1,e2,e3,e4,e5,e6,⟨e7,e8,e9,e10,e11,e12,e13,e14,e15,e16,e17,e18⟩⟩:Ev)) i 2)&&DD e0 (pvI (AB (evT (⟨e0,e1,e2,e3,e4,e5,e6,⟨e7,e8,e9,e10,e11,e12,e13,e14,e15,e16,e17,e18⟩⟩:Ev)) i 0))) 7 0=Zv (⟨e0,e1,e2,e3,e4,e5,e6,⟨e7,e8,e9,e10,e11,e12,e13,e14,e15,e16,e17,e18⟩⟩:Ev):=by
      simp only [Bq,HJ];change (!(btw e1 1 2)&&DD e0 115||(!(btw e2 1 11)&&DD e0 112||(!(btw e3 1 11)&&DD e0 111||(!true&&DD e0 121||(!(btw e5 (loS e0) (hiS e0))&&DD e0 114||(!(btw e6 0 90)&&DD e0 118||(!true&&DD e0 98||false)))))))=_;rw [g1,g2,g3,g4,g5,g6,g7];simp only [Bool.not_true,Bool.false_and,Bool.false_or,Bool.or_false];rfl
     rw [a2];cases Zv (⟨e0,e1,e2,e3,e4,e5,e6,⟨e7,e8,e9,e10,e11,e12,e13,e14,e15,e16,e17,e18⟩⟩:Ev) with
     | true=>rfl
     | false =>
      simp only [PXb,PXc,PXn,PXm,Nat.reduceAdd,Int.reduceBEq,DS,Zx]
theorem c4 {c x x' y y':Bool} {a b d z z':Int} (h1:x=x') (h2:y=y') (h3:z=z'):(some [PV.int (cond c a (cond x b (cond y d z)))]:Option (List PV))=some [PV.int (cond c a (cond x' b (cond y' d z')))]:=by subst h1;subst h2;subst h3;rfl
structure Lens (s t:Inn):Prop where
 bt:t.batters.length=s.batters.length
 bd:t.bowled.length=s.bowled.length
 sb:t.subs.length=s.subs.length
 bw:t.bowlers.length≤s.bowlers.length+1
 bf:t.before.length≤s.before.length+s.bowlers.length+1
theorem Lens.refl (s:Inn):Lens s s:=⟨rfl,rfl,rfl,by omega,by omega⟩
theorem P_c {α:Type} {P:α→Prop} (b:Bool) (x y:α) (hx:P x) (hy:P y):P (cond b x y):=by cases b<;>assumption
theorem iu (s:Inn) (d:Del):Lens s (Aj s d):=by
 have hb:∀ (b:Bool),(cond b (ON s.batters s.striker 2) s.batters).length=s.batters.length:=fun b=>by cases b<;>simp [Lw]
 have hc:∀ (b:Bool),(cond b (ON s.batters s.other 2) s.batters).length=s.batters.length:=fun b=>by cases b<;>simp [Lw]
 unfold Aj;cases (!(d.runs.tmod 2==0) != d.crossed)<;>refine P_c _ _ _ ⟨hb _,rfl,rfl,?_,?_⟩ (P_c _ _ _ ⟨hc _,rfl,rfl,?_,?_⟩ ⟨rfl,rfl,rfl,?_,?_⟩)<;>simp<;>omega
theorem em (r:Rul) (s:Inn) (c:Bool):Lens s (Ao r s c).1:=by
 have hl:(cond (KR s.bowlers s.bowlers.length s.bowler) s.bowlers (s.bowlers++[[.int s.bowler]])).length≤s.bowlers.length+1:=by
  cases KR s.bowlers s.bowlers.length s.bowler<;>simp
 have hd:(cond c (ON s.bowled s.bowler (inc (atI s.bowled (ix s.bowler) 0))) s.bowled).length=s.bowled.length:=by cases c<;>simp [Lw]
 unfold Ao;refine P_c (P:=fun x:Inn×Bool=>Lens s x.1) _ _ _ (Lens.refl s) (P_c (P:=fun x:Inn×Bool=>Lens s x.1) _ _ _ ⟨rfl,hd,rfl,hl,by simp;omega⟩ ⟨rfl,hd,rfl,by simp,?_⟩);simp only;omega
def cR (a b c d:Int):Int:=cond (!(a==0)) a (cond (!(b==0)) b (cond (!(c==0)) c (cond (!(d==0)) d 0)))
def Gt (r:Rul) (s:Inn) (d:Del):Int :=
 cond (Gq s.batters s.striker s.other) 6 (cond (s.bowler==0) 7 (cR (Rz r s) (EY d) (Qo d s.freehit) (Q5 s d)))
theorem YM {N:Nat} {r8:Bool} {r0:ByteArray} {r13:Rows} {s18 s20:Bool} {d5 d10:Bool} (h:Fit s14 s16 s17 s19 s24) (hN:2097152<N) (h13:r13.length≤1048576):EN N [.str r0,.int r1,.int r2,.int r3,.int r4,.int r5,.int r6,.int r7,.bool r8,.int r9,.int r10,.int r11,.int r12,.rows r13,.int s0,.int s1,.int s2,.int s3,.int s4,.int s5,.int s6,.int s7,.int s8,.int s9,.int s10,.int s11,.int s12,.int s13,.rows s14,.int s15,.rows s16,.rows s17,.bool s18,.rows s19,.bool s20,.int s21,.int s22,.int s23,.rows s24,.int s25,.int s26,.int s27,.int d0,.int d1,.int d2,.int d3,.int d4,.bool d5,.int d6,.int d7,.int d8,.int d9,.bool d10,.int d11]=some [.int (Gt (⟨r0,r1,r2,r3,r4,r5,r6,r7,r8,r9,r10,r11,r12,r13⟩:Rul) (⟨s0,s1,s2,s3,s4,s5,s6,s7,s8,s9,s10,s11,s12,s13,s14,s15,s16,s17,s18,s19,s20,s21,s22,s23,s24,s25,s26,s27⟩:Inn) (⟨d0,d1,d2,d3,d4,d5,d6,d7,d8,d9,d10,d11⟩:Del))]:=by
 show GV (std (B8 N) N) (xOf _)=_;generalize hres:(some [.int (Gt (⟨r0,r1,r2,r3,r4,r5,r6,r7,r8,r9,r10,r11,r12,r13⟩:Rul) (⟨s0,s1,s2,s3,s4,s5,s6,s7,s8,s9,s10,s11,s12,s13,s14,s15,s16,s17,s18,s19,s20,s21,s22,s23,s24,s25,s26,s27⟩:Inn) (⟨d0,d1,d2,d3,d4,d5,d6,d7,d8,d9,d10,d11⟩:Del))]:Option (List PV))=RR;simp only [GV,Lr,MF,NQ,JX,NV,lq9,std,xOf,PXb,Su h.bt hN,fh h hN h13,Ri,Uk hN,gI h];subst hres;simp only [Gt];cases Gq s14 s12 s13<;>try rfl
 cases s15==0<;>try rfl
 simp only [PXb];generalize Rz (⟨r0,r1,r2,r3,r4,r5,r6,r7,r8,r9,r10,r11,r12,r13⟩:Rul) (⟨s0,s1,s2,s3,s4,s5,s6,s7,s8,s9,s10,s11,s12,s13,s14,s15,s16,s17,s18,s19,s20,s21,s22,s23,s24,s25,s26,s27⟩:Inn)=a;generalize EY (⟨d0,d1,d2,d3,d4,d5,d6,d7,d8,d9,d10,d11⟩:Del)=b;generalize Qo (⟨d0,d1,d2,d3,d4,d5,d6,d7,d8,d9,d10,d11⟩:Del) s20=c;generalize Q5 (⟨s0,s1,s2,s3,s4,s5,s6,s7,s8,s9,s10,s11,s12,s13,s14,s15,s16,s17,s18,s19,s20,s21,s22,s23,s24,s25,s26,s27⟩:Inn) (⟨d0,d1,d2,d3,d4,d5,d6,d7,d8,d9,d10,d11⟩:Del)=e;refine AU (Bp (len:=4) (fun i=>cond (!(atI [[.int a],[.int b],[.int c],[.int e]] i 0==0)) (some [.int (atI [[.int a],[.int b],[.int c],[.int e]] i 0)]) none) ?_ ?_ 4 0 N (by omega) (by omega)) ?_
 ·intro self;rfl
 ·intro i self hi;simp only [PXb,Ax (show i≤1099511627776 by omega),List.length_cons,List.length_nil,Nat.reduceAdd,Av hi,AN hi,DU];cases atI [[.int a],[.int b],[.int c],[.int e]] i 0==0<;>rfl
 ·refine (aQ _).trans (congrArg (fun z=>some [PV.int z]) ?_);unfold cR;simp only [A5];rw [show atI [[.int a],[.int b],[.int c],[.int e]] 0 0=a from rfl,show atI [[.int a],[.int b],[.int c],[.int e]] (0+1) 0=b from rfl,show atI [[.int a],[.int b],[.int c],[.int e]] (0+1+1) 0=c from rfl,show atI [[.int a],[.int b],[.int c],[.int e]] (0+1+1+1) 0=e from rfl];cases a==0<;>try rfl
  cases b==0<;>try rfl
  cases c==0<;>try rfl
  cases e==0<;>rfl
theorem Rw {s t:Inn} (l:Lens s t) (h:s.Fit) (hw:s.before.length+s.bowlers.length≤1048575):t.Fit:=⟨l.bt▸h.bt,by have:=l.bw;omega,by have:=l.bf;omega,l.bd▸h.bd,l.sb▸h.sb⟩
theorem ox (s:Inn) (d:Del):(Aj s d).bowlers=s.bowlers:=by
 unfold Aj;cases (!(d.runs.tmod 2==0) != d.crossed)<;>exact P_c (P:=fun x:Inn=>x.bowlers=s.bowlers) _ _ _ rfl (P_c (P:=fun x:Inn=>x.bowlers=s.bowlers) _ _ _ rfl rfl)
theorem pS (s:Inn) (d:Del):(Aj s d).before=s.before:=by
 unfold Aj;cases (!(d.runs.tmod 2==0) != d.crossed)<;>exact P_c (P:=fun x:Inn=>x.before=s.before) _ _ _ rfl (P_c (P:=fun x:Inn=>x.before=s.before) _ _ _ rfl rfl)
@[reducible] def Wv (t:Inn) (a b e f g:Int):Inn:=⟨t.side,t.target,t.overs,a,t.wickets,b,e,f,g,t.pens,t.complete,t.inover,t.striker,t.other,t.batters,t.bowler,t.bowlers,t.before,t.fresh,t.bowled,t.freehit,t.ballage,t.keeper,t.outside,t.subs,t.rev1,t.rev2,t.ending⟩
def LB (r:Rul) (s:Inn) (d:Del):Inn×Int :=
  cond (!(Gt r s d==0)) (s,Gt r s d)
    (let c:=AE r d
     let t:=Aj s d
     let o:=Ao r (Wv t (IntKind.i64.wrap (t.runs+Ew c)) (IntKind.i64.wrap (t.wides+c.wides)) (IntKind.i64.wrap (t.noballs+c.noballs)) (IntKind.i64.wrap (t.byes+c.byes)) (IntKind.i64.wrap (t.legbyes+c.legbyes))) c.counts
     let t:Inn:=cond o.2 (IJ o.1) o.1
     ({ t with freehit:=cond (d.type==1) false (cond (d.type==3&&r.freehit) true o.1.freehit) },0))
theorem eF {N:Nat} {r8:Bool} {r0:ByteArray} {r13:Rows} {s18 s20:Bool} {d5 d10:Bool} (h:Fit s14 s16 s17 s19 s24) (hw:s17.length+s16.length≤1000000) (hN:2097152<N) (hs:r0.size≤1048576) (h13:r13.length≤1048576):Gx N [.str r0,.int r1,.int r2,.int r3,.int r4,.int r5,.int r6,.int r7,.bool r8,.int r9,.int r10,.int r11,.int r12,.rows r13,.int s0,.int s1,.int s2,.int s3,.int s4,.int s5,.int s6,.int s7,.int s8,.int s9,.int s10,.int s11,.int s12,.int s13,.rows s14,.int s15,.rows s16,.rows s17,.bool s18,.rows s19,.bool s20,.int s21,.int s22,.int s23,.rows s24,.int s25,.int s26,.int s27,.int d0,.int d1,.int d2,.int d3,.int d4,.bool d5,.int d6,.int d7,.int d8,.int d9,.bool d10,.int d11]=some (BM (LB (⟨r0,r1,r2,r3,r4,r5,r6,r7,r8,r9,r10,r11,r12,r13⟩:Rul) (⟨s0,s1,s2,s3,s4,s5,s6,s7,s8,s9,s10,s11,s12,s13,s14,s15,s16,s17,s18,s19,s20,s21,s22,s23,s24,s25,s26,s27⟩:Inn) (⟨d0,d1,d2,d3,d4,d5,d6,d7,d8,d9,d10,d11⟩:Del))):=by
 show J4 (std (Bt N) N) (xOf _)=_;generalize hres:(some (BM (LB (⟨r0,r1,r2,r3,r4,r5,r6,r7,r8,r9,r10,r11,r12,r13⟩:Rul) (⟨s0,s1,s2,s3,s4,s5,s6,s7,s8,s9,s10,s11,s12,s13,s14,s15,s16,s17,s18,s19,s20,s21,s22,s23,s24,s25,s26,s27⟩:Inn) (⟨d0,d1,d2,d3,d4,d5,d6,d7,d8,d9,d10,d11⟩:Del))):Option (List PV))=RR;have l1:=iu (⟨s0,s1,s2,s3,s4,s5,s6,s7,s8,s9,s10,s11,s12,s13,s14,s15,s16,s17,s18,s19,s20,s21,s22,s23,s24,s25,s26,s27⟩:Inn) (⟨d0,d1,d2,d3,d4,d5,d6,d7,d8,d9,d10,d11⟩:Del);have f1:=Rw l1 h (by simp only;omega);have w1:(Aj (⟨s0,s1,s2,s3,s4,s5,s6,s7,s8,s9,s10,s11,s12,s13,s14,s15,s16,s17,s18,s19,s20,s21,s22,s23,s24,s25,s26,s27⟩:Inn) (⟨d0,d1,d2,d3,d4,d5,d6,d7,d8,d9,d10,d11⟩:Del)).bowlers.length=s16.length:=congrArg List.length (ox _ _);have w2:(Aj (⟨s0,s1,s2,s3,s4,s5,s6,s7,s8,s9,s10,s11,s12,s13,s14,s15,s16,s17,s18,s19,s20,s21,s22,s23,s24,s25,s26,s27⟩:Inn) (⟨d0,d1,d2,d3,d4,d5,d6,d7,d8,d9,d10,d11⟩:Del)).before.length=s17.length:=congrArg List.length (pS _ _);have l2:=fun (x:Rul) (c:Bool) (a b e f g:Int)=>em x (Wv (Aj (⟨s0,s1,s2,s3,s4,s5,s6,s7,s8,s9,s10,s11,s12,s13,s14,s15,s16,s17,s18,s19,s20,s21,s22,s23,s24,s25,s26,s27⟩:Inn) (⟨d0,d1,d2,d3,d4,d5,d6,d7,d8,d9,d10,d11⟩:Del)) a b e f g) c
 have f2:=fun (x:Rul) (c:Bool) (a b e f g:Int)=>Rw (l2 x c a b e f g) f1 (show (Aj (⟨s0,s1,s2,s3,s4,s5,s6,s7,s8,s9,s10,s11,s12,s13,s14,s15,s16,s17,s18,s19,s20,s21,s22,s23,s24,s25,s26,s27⟩:Inn) (⟨d0,d1,d2,d3,d4,d5,d6,d7,d8,d9,d10,d11⟩:Del)).before.length+(Aj (⟨s0,s1,s2,s3,s4,s5,s6,s7,s8,s9,s10,s11,s12,s13,s14,s15,s16,s17,s18,s19,s20,s21,s22,s23,s24,s25,s26,s27⟩:Inn) (⟨d0,d1,d2,d3,d4,d5,d6,d7,d8,d9,d10,d11⟩:Del)).bowlers.length≤1048575 by omega)
 simp only [J4,M7,NS,OE,M2,QL,Qd,N7,lq9,std,xOf,PXb,PXc,PXn,PXm,Nat.reduceAdd,Int.reduceBEq,YM h hN h13,B9 h,P2,gq h,Zy,Cre.ls,jW f1 (show (Aj (⟨s0,s1,s2,s3,s4,s5,s6,s7,s8,s9,s10,s11,s12,s13,s14,s15,s16,s17,s18,s19,s20,s21,s22,s23,s24,s25,s26,s27⟩:Inn) (⟨d0,d1,d2,d3,d4,d5,d6,d7,d8,d9,d10,d11⟩:Del)).bowlers.length≤1048575 by omega) hN hs,ro,aW (f2 _ _ _ _ _ _ _)];subst hres;simp only [LB,Wv];cases Gt (⟨r0,r1,r2,r3,r4,r5,r6,r7,r8,r9,r10,r11,r12,r13⟩:Rul) (⟨s0,s1,s2,s3,s4,s5,s6,s7,s8,s9,s10,s11,s12,s13,s14,s15,s16,s17,s18,s19,s20,s21,s22,s23,s24,s25,s26,s27⟩:Inn) (⟨d0,d1,d2,d3,d4,d5,d6,d7,d8,d9,d10,d11⟩:Del)==0 with
 | false=>rfl
 | true =>
  obtain ⟨o,ho⟩:∃ o,o=Ao (⟨r0,r1,r2,r3,r4,r5,r6,r7,r8,r9,r10,r11,r12,r13⟩:Rul) (Wv (Aj (⟨s0,s1,s2,s3,s4,s5,s6,s7,s8,s9,s10,s11,s12,s13,s14,s15,s16,s17,s18,s19,s20,s21,s22,s23,s24,s25,s26,s27⟩:Inn) (⟨d0,d1,d2,d3,d4,d5,d6,d7,d8,d9,d10,d11⟩:Del)) (IntKind.i64.wrap ((Aj (⟨s0,s1,s2,s3,s4,s5,s6,s7,s8,s9,s10,s11,s12,s13,s14,s15,s16,s17,s18,s19,s20,s21,s22,s23,s24,s25,s26,s27⟩:Inn) (⟨d0,d1,d2,d3,d4,d5,d6,d7,d8,d9,d10,d11⟩:Del)).runs+Ew (AE (⟨r0,r1,r2,r3,r4,r5,r6,r7,r8,r9,r10,r11,r12,r13⟩:Rul) (⟨d0,d1,d2,d3,d4,d5,d6,d7,d8,d9,d10,d11⟩:Del)))) (IntKind.i64.wrap ((Aj (⟨s0,s1,s2,s3,s4,s5,s6,s7,s8,s9,s10,s11,s12,s13,s14,s15,s16,s17,s18,s19,s20,s21,s22,s23,s24,s25,s26,s27⟩:Inn) (⟨d0,d1,d2,d3,d4,d5,d6,d7,d8,d9,d10,d11⟩:Del)).wides+(AE (⟨r0,r1,r2,r3,r4,r5,r6,r7,r8,r9,r10,r11,r12,r13⟩:Rul) (⟨d0,d1,d2,d3,d4,d5,d6,d7,d8,d9,d10,d11⟩:Del)).wides)) (IntKind.i64.wrap ((Aj (⟨s0,s1,s2,s3,s4,s5,s6,s7,s8,s9,s10,s11,s12,s13,s14,s15,s16,s17,s18,s19,s20,s21,s22,s23,s24,s25,s26,s27⟩:Inn) (⟨d0,d1,d2,d3,d4,d5,d6,d7,d8,d9,d10,d11⟩:Del)).noballs+(AE (⟨r0,r1,r2,r3,r4,r5,r6,r7,r8,r9,r10,r11,r12,r13⟩:Rul) (⟨d0,d1,d2,d3,d4,d5,d6,d7,d8,d9,d10,d11⟩:Del)).noballs)) (IntKind.i64.wrap ((Aj (⟨s0,s1,s2,s3,s4,s5,s6,s7,s8,s9,s10,s11,s12,s13,s14,s15,s16,s17,s18,s19,s20,s21,s22,s23,s24,s25,s26,s27⟩:Inn) (⟨d0,d1,d2,d3,d4,d5,d6,d7,d8,d9,d10,d11⟩:Del)).byes+(AE (⟨r0,r1,r2,r3,r4,r5,r6,r7,r8,r9,r10,r11,r12,r13⟩:Rul) (⟨d0,d1,d2,d3,d4,d5,d6,d7,d8,d9,d10,d11⟩:Del)).byes)) (IntKind.i64.wrap ((Aj (⟨s0,s1,s2,s3,s4,s5,s6,s7,s8,s9,s10,s11,s12,s13,s14,s15,s16,s17,s18,s19,s20,s21,s22,s23,s24,s25,s26,s27⟩:Inn) (⟨d0,d1,d2,d3,d4,d5,d6,d7,d8,d9,d10,d11⟩:Del)).legbyes+(AE (⟨r0,r1,r2,r3,r4,r5,r6,r7,r8,r9,r10,r11,r12,r13⟩:Rul) (⟨d0,d1,d2,d3,d4,d5,d6,d7,d8,d9,d10,d11⟩:Del)).legbyes))) (AE (⟨r0,r1,r2,r3,r4,r5,r6,r7,r8,r9,r10,r11,r12,r13⟩:Rul) (⟨d0,d1,d2,d3,d4,d5,d6,d7,d8,d9,d10,d11⟩:Del)).counts:=⟨_,rfl⟩;simp only [Wv,Ew] at ho ⊢;simp only [← ho];obtain ⟨o1,o2⟩:=o;cases o2<;>cases d0==1<;>cases d0==3<;>cases r8<;>rfl
theorem jQ (r:Rul) (s:Inn) (b:Bool) (a c d e f:Int):Ao r (Wv s a c d e f) b=(Wv (Ao r s b).1 a c d e f,(Ao r s b).2):=by
 unfold Ao Wv;simp only;cases (!inR s.bowler s.bowled.length || !(BK r==0)) with
 | true=>rfl
 | false =>
  simp only [cond_false];cases iLt (cond b (inc s.inover) s.inover) r.balls<;>rfl
def Lc (r:Rul) (s:Inn) (side:Int):Inn×Int:=cond (!(side==s.side)) (s,2) (cond (!(r.overs==0)) (s,20) ({ s with ending:=4 },0))
theorem YH {N:Nat} {r8:Bool} {r0:ByteArray} {r13:Rows} {s18 s20:Bool} {e4 e12 e17:Bool} (h:Fit s14 s16 s17 s19 s24):EW N [.str r0,.int r1,.int r2,.int r3,.int r4,.int r5,.int r6,.int r7,.bool r8,.int r9,.int r10,.int r11,.int r12,.rows r13,.int s0,.int s1,.int s2,.int s3,.int s4,.int s5,.int s6,.int s7,.int s8,.int s9,.int s10,.int s11,.int s12,.int s13,.rows s14,.int s15,.rows s16,.rows s17,.bool s18,.rows s19,.bool s20,.int s21,.int s22,.int s23,.rows s24,.int s25,.int s26,.int s27,.int e0,.int e1,.int e2,.int e3,.bool e4,.int e5,.int e6,.int e7,.int e8,.int e9,.int e10,.int e11,.bool e12,.int e13,.int e14,.int e15,.int e16,.bool e17,.int e18]=some (BM (Lc (⟨r0,r1,r2,r3,r4,r5,r6,r7,r8,r9,r10,r11,r12,r13⟩:Rul) (⟨s0,s1,s2,s3,s4,s5,s6,s7,s8,s9,s10,s11,s12,s13,s14,s15,s16,s17,s18,s19,s20,s21,s22,s23,s24,s25,s26,s27⟩:Inn) e1)):=by
 show GR (std (IY N) N) (xOf _)=_;generalize hres:(some (BM (Lc (⟨r0,r1,r2,r3,r4,r5,r6,r7,r8,r9,r10,r11,r12,r13⟩:Rul) (⟨s0,s1,s2,s3,s4,s5,s6,s7,s8,s9,s10,s11,s12,s13,s14,s15,s16,s17,s18,s19,s20,s21,s22,s23,s24,s25,s26,s27⟩:Inn) e1)):Option (List PV))=RR;simp only [GR,MD,lq9,std,xOf,PXb,PXc,PXn,PXm,Nat.reduceAdd,Int.reduceBEq,B9 h];subst hres;simp only [Lc];cases e1==s0<;>cases r3==0<;>rfl
def Pk (s:Inn):Inn:={ s with runs:=IntKind.i64.wrap (s.runs+5),pens:=IntKind.i64.wrap (s.pens+5) }
theorem QH {N:Nat} {s18 s20:Bool} (h:Fit s14 s16 s17 s19 s24):B7 N [.int s0,.int s1,.int s2,.int s3,.int s4,.int s5,.int s6,.int s7,.int s8,.int s9,.int s10,.int s11,.int s12,.int s13,.rows s14,.int s15,.rows s16,.rows s17,.bool s18,.rows s19,.bool s20,.int s21,.int s22,.int s23,.rows s24,.int s25,.int s26,.int s27]=some (Pk (⟨s0,s1,s2,s3,s4,s5,s6,s7,s8,s9,s10,s11,s12,s13,s14,s15,s16,s17,s18,s19,s20,s21,s22,s23,s24,s25,s26,s27⟩:Inn)).ls:=by
 show GZ (std (Id N) N) (xOf _)=_;generalize hres:(some (Pk (⟨s0,s1,s2,s3,s4,s5,s6,s7,s8,s9,s10,s11,s12,s13,s14,s15,s16,s17,s18,s19,s20,s21,s22,s23,s24,s25,s26,s27⟩:Inn)).ls:Option (List PV))=RR;simp only [GZ,MH,lq9,std,xOf,PXb,PXc,PXn,PXm,Nat.reduceAdd,Int.reduceBEq,B9 h];subst hres;simp only [Pk];rfl
def Hr (s:Inn) (side runs:Int):Inn×Int :=
 cond (!(runs==5)) (s,23) (cond (side==s.side) (Pk s,0) ({ s with target:=cond (iLt 0 s.target) (IntKind.i64.wrap (s.target+5)) s.target },0))
theorem YX {N:Nat} {s18 s20:Bool} {e4 e12 e17:Bool} (h:Fit s14 s16 s17 s19 s24):EU N [.int s0,.int s1,.int s2,.int s3,.int s4,.int s5,.int s6,.int s7,.int s8,.int s9,.int s10,.int s11,.int s12,.int s13,.rows s14,.int s15,.rows s16,.rows s17,.bool s18,.rows s19,.bool s20,.int s21,.int s22,.int s23,.rows s24,.int s25,.int s26,.int s27,.int e0,.int e1,.int e2,.int e3,.bool e4,.int e5,.int e6,.int e7,.int e8,.int e9,.int e10,.int e11,.bool e12,.int e13,.int e14,.int e15,.int e16,.bool e17,.int e18]=some (BM (Hr (⟨s0,s1,s2,s3,s4,s5,s6,s7,s8,s9,s10,s11,s12,s13,s14,s15,s16,s17,s18,s19,s20,s21,s22,s23,s24,s25,s26,s27⟩:Inn) e1 e5)):=by
 show GP (std (FH N) N) (xOf _)=_;generalize hres:(some (BM (Hr (⟨s0,s1,s2,s3,s4,s5,s6,s7,s8,s9,s10,s11,s12,s13,s14,s15,s16,s17,s18,s19,s20,s21,s22,s23,s24,s25,s26,s27⟩:Inn) e1 e5)):Option (List PV))=RR;simp only [GP,ME,Kf,lq9,std,xOf,PXb,PXc,PXn,PXm,Nat.reduceAdd,Int.reduceBEq,B9 h,QH h];subst hres;simp only [Hr];cases e5==5<;>cases e1==s0<;>cases iLt 0 s1<;>rfl
def L8 (r:Rul) (s:Inn) (side:Int) (yes:Bool):Inn×Int :=
 cond (!s.fresh||iLe r.reviews (cond (side==2) s.rev2 s.rev1)) (s,24) (cond (!yes) ({ s with rev1:=cond (side==1) (inc s.rev1) s.rev1,rev2:=cond (side==2) (inc s.rev2) s.rev2 },0) (s,0))
theorem wr1:IntKind.i64.wrap (1 - 1)=0:=rfl
theorem wr2:IntKind.i64.wrap (2 - 1)=1:=rfl
theorem iB:iIn 0 2=true:=rfl
theorem iS:iIn 1 2=true:=rfl
theorem ZL {N:Nat} {r8:Bool} {r0:ByteArray} {r13:Rows} {s18 s20:Bool} {e4 e12 e17:Bool} (h:Fit s14 s16 s17 s19 s24) (he:e1=1∨e1=2):E2 N [.str r0,.int r1,.int r2,.int r3,.int r4,.int r5,.int r6,.int r7,.bool r8,.int r9,.int r10,.int r11,.int r12,.rows r13,.int s0,.int s1,.int s2,.int s3,.int s4,.int s5,.int s6,.int s7,.int s8,.int s9,.int s10,.int s11,.int s12,.int s13,.rows s14,.int s15,.rows s16,.rows s17,.bool s18,.rows s19,.bool s20,.int s21,.int s22,.int s23,.rows s24,.int s25,.int s26,.int s27,.int e0,.int e1,.int e2,.int e3,.bool e4,.int e5,.int e6,.int e7,.int e8,.int e9,.int e10,.int e11,.bool e12,.int e13,.int e14,.int e15,.int e16,.bool e17,.int e18]=some (BM (L8 (⟨r0,r1,r2,r3,r4,r5,r6,r7,r8,r9,r10,r11,r12,r13⟩:Rul) (⟨s0,s1,s2,s3,s4,s5,s6,s7,s8,s9,s10,s11,s12,s13,s14,s15,s16,s17,s18,s19,s20,s21,s22,s23,s24,s25,s26,s27⟩:Inn) e1 e4)):=by
 show Er (std (Jb N) N) (xOf _)=_;generalize hres:(some (BM (L8 (⟨r0,r1,r2,r3,r4,r5,r6,r7,r8,r9,r10,r11,r12,r13⟩:Rul) (⟨s0,s1,s2,s3,s4,s5,s6,s7,s8,s9,s10,s11,s12,s13,s14,s15,s16,s17,s18,s19,s20,s21,s22,s23,s24,s25,s26,s27⟩:Inn) e1 e4)):Option (List PV))=RR
 rcases he with he | he<;>subst he
 ·simp only [Er,Fu,lq9,std,xOf,PXb,PXc,PXn,PXm,Nat.reduceAdd,Int.reduceBEq,B9 h,wr1,wr2,iB,iS];subst hres;simp only [L8,Int.reduceBEq,beq_self_eq_true,cond_true,cond_false];cases s18<;>cases e4<;>first | rfl | (cases iLe r11 s25<;>rfl)
 ·simp only [Er,Fu,lq9,std,xOf,PXb,PXc,PXn,PXm,Nat.reduceAdd,Int.reduceBEq,B9 h,wr1,wr2,iB,iS];subst hres;simp only [L8,Int.reduceBEq,beq_self_eq_true,cond_true,cond_false];cases s18<;>cases e4<;>first | rfl | (cases iLe r11 s26<;>rfl)
theorem cM {N:Nat} {r8:Bool} {r0:ByteArray} {r13:Rows} {s18 s20:Bool}  : F7 N [.str r0,.int r1,.int r2,.int r3,.int r4,.int r5,.int r6,.int r7,.bool r8,.int r9,.int r10,.int r11,.int r12,.rows r13,.int s0,.int s1,.int s2,.int s3,.int s4,.int s5,.int s6,.int s7,.int s8,.int s9,.int s10,.int s11,.int s12,.int s13,.rows s14,.int s15,.rows s16,.rows s17,.bool s18,.rows s19,.bool s20,.int s21,.int s22,.int s23,.rows s24,.int s25,.int s26,.int s27]=some [.int (Cf r4 s10 s11)]:=by
 rfl
def N5 (r:Rul) (s:Inn) (runs overs:Int):Inn×Int :=
  cond (r.overs==0||(runs==0&&overs==0)) (s,25) (cond (iLt 0 runs&&(s.target==0||iLe runs s.runs)) (s,25)
    (cond (iLt 0 overs&&(iLt r.overs overs||iLt (IntKind.i64.wrap (overs * r.balls)) (Cf r.balls s.complete s.inover))) (s,25)
      ({ s with target:=cond (iLt 0 runs) runs s.target,overs:=cond (iLt 0 overs) overs s.overs },0)))
theorem Zt {N:Nat} {r8:Bool} {r0:ByteArray} {r13:Rows} {s18 s20:Bool} {e4 e12 e17:Bool} (h:Fit s14 s16 s17 s19 s24):E4 N [.str r0,.int r1,.int r2,.int r3,.int r4,.int r5,.int r6,.int r7,.bool r8,.int r9,.int r10,.int r11,.int r12,.rows r13,.int s0,.int s1,.int s2,.int s3,.int s4,.int s5,.int s6,.int s7,.int s8,.int s9,.int s10,.int s11,.int s12,.int s13,.rows s14,.int s15,.rows s16,.rows s17,.bool s18,.rows s19,.bool s20,.int s21,.int s22,.int s23,.rows s24,.int s25,.int s26,.int s27,.int e0,.int e1,.int e2,.int e3,.bool e4,.int e5,.int e6,.int e7,.int e8,.int e9,.int e10,.int e11,.bool e12,.int e13,.int e14,.int e15,.int e16,.bool e17,.int e18]=some (BM (N5 (⟨r0,r1,r2,r3,r4,r5,r6,r7,r8,r9,r10,r11,r12,r13⟩:Rul) (⟨s0,s1,s2,s3,s4,s5,s6,s7,s8,s9,s10,s11,s12,s13,s14,s15,s16,s17,s18,s19,s20,s21,s22,s23,s24,s25,s26,s27⟩:Inn) e5 e6)):=by
 show HZ (std (F8 N) N) (xOf _)=_;generalize hres:(some (BM (N5 (⟨r0,r1,r2,r3,r4,r5,r6,r7,r8,r9,r10,r11,r12,r13⟩:Rul) (⟨s0,s1,s2,s3,s4,s5,s6,s7,s8,s9,s10,s11,s12,s13,s14,s15,s16,s17,s18,s19,s20,s21,s22,s23,s24,s25,s26,s27⟩:Inn) e5 e6)):Option (List PV))=RR;simp only [HZ,NA,MX,lq9,std,xOf,PXb,PXc,PXn,PXm,Nat.reduceAdd,Int.reduceBEq,B9 h,cM];subst hres;simp only [N5];cases (r3==0||e5==0&&e6==0)<;>try rfl
 cases (iLt 0 e5&&(s1==0||iLe e5 s3))<;>try rfl
 cases iLt 0 e6<;>cases iLt r3 e6<;>try rfl
 simp only [PXb,PXc,PXn,PXm,Nat.reduceAdd,Int.reduceBEq];cases iLt (IntKind.i64.wrap (e6 * r4)) (Cf r4 s10 s11)<;>rfl
def Be (r:Rul) (s:Inn) (e:Ev):Inn×Int :=
  cond (e.kind==2) (Ol s e.player e.other) (cond (e.kind==3) (VO r s e.player) (cond (e.kind==4) (LB r s e.ball)
    (cond (e.kind==5) (cond e.yes (E6 s e.player) (Ka s e.player)) (cond (e.kind==6) (FU s e.player e.yes) (cond (e.kind==7) (LX s e.runs)
      (cond (e.kind==8) (N3 s e.player) (cond (e.kind==9) (Rn s e.player e.yes) (cond (e.kind==10) (Lj r s) (cond (e.kind==11) (Lc r s e.side)
        (cond (e.kind==13) (Hr s e.side e.runs) (cond (e.kind==14) (L8 r s e.side e.yes) (N5 r s e.runs e.overs))))))))))))
theorem dM {e:Ev} (h:(evS e==0)=true):(iLt e.kind 1||iLt 16 e.kind)=false:=by
 unfold evS at h;cases hk:(iLt e.kind 1||iLt 16 e.kind) with
 | false=>rfl
 | true=>rw [hk] at h;cases h
theorem sw {e:Ev} (h:(evS e==0)=true) (hk:e.kind=14):e.side=1∨e.side=2:=by
 have h0:=dM h;unfold evS at h;rw [h0] at h;cases h1:jU e with
 | true=>rw [h1] at h;cases h
 | false =>
  cases h2:Zv e with
  | true=>rw [h1,h2] at h;cases h
  | false =>
   unfold Zv at h2;rw [Bool.or_eq_false_iff] at h2;have h3:=h2.1;rw [hk,show uS 14=true from rfl,Bool.and_true] at h3;simp only [btw,iLe,Bool.not_eq_false',zzj,decide_eq_true_eq] at h3;omega
set_option maxHeartbeats 4000000 in
theorem YP {N:Nat} {r8:Bool} {r0:ByteArray} {r13:Rows} {s18 s20:Bool} {e4 e12 e17:Bool} (h:Fit s14 s16 s17 s19 s24) (hw:s17.length+s16.length≤1000000) (hN:2097152<N) (hs:r0.size≤1048576) (h13:r13.length≤1048576) (he:(evS (⟨e0,e1,e2,e3,e4,e5,e6,⟨e7,e8,e9,e10,e11,e12,e13,e14,e15,e16,e17,e18⟩⟩:Ev)==0)=true):EX N [.str r0,.int r1,.int r2,.int r3,.int r4,.int r5,.int r6,.int r7,.bool r8,.int r9,.int r10,.int r11,.int r12,.rows r13,.int s0,.int s1,.int s2,.int s3,.int s4,.int s5,.int s6,.int s7,.int s8,.int s9,.int s10,.int s11,.int s12,.int s13,.rows s14,.int s15,.rows s16,.rows s17,.bool s18,.rows s19,.bool s20,.int s21,.int s22,.int s23,.rows s24,.int s25,.int s26,.int s27,.int e0,.int e1,.int e2,.int e3,.bool e4,.int e5,.int e6,.int e7,.int e8,.int e9,.int e10,.int e11,.bool e12,.int e13,.int e14,.int e15,.int e16,.bool e17,.int e18]=some (BM (Be (⟨r0,r1,r2,r3,r4,r5,r6,r7,r8,r9,r10,r11,r12,r13⟩:Rul) (⟨s0,s1,s2,s3,s4,s5,s6,s7,s8,s9,s10,s11,s12,s13,s14,s15,s16,s17,s18,s19,s20,s21,s22,s23,s24,s25,s26,s27⟩:Inn) (⟨e0,e1,e2,e3,e4,e5,e6,⟨e7,e8,e9,e10,e11,e12,e13,e14,e15,e16,e17,e18⟩⟩:Ev))):=by
  show EL (std (Ah N) N) (xOf _)=_;generalize hres:(some (BM (Be (⟨r0,r1,r2,r3,r4,r5,r6,r7,r8,r9,r10,r11,r12,r13⟩:Rul) (⟨s0,s1,s2,s3,s4,s5,s6,s7,s8,s9,s10,s11,s12,s13,s14,s15,s16,s17,s18,s19,s20,s21,s22,s23,s24,s25,s26,s27⟩:Inn) (⟨e0,e1,e2,e3,e4,e5,e6,⟨e7,e8,e9,e10,e11,e12,e13,e14,e15,e16,e17,e18⟩⟩:Ev))):Option (List PV))=RR;have hsd:e0=14→e1=1∨e1=2:=sw (e:=(⟨e0,e1,e2,e3,e4,e5,e6,⟨e7,e8,e9,e10,e11,e12,e13,e14,e15,e16,e17,e18⟩⟩:Ev)) he
  rcases dy (dM he) with hk | hk | hk | hk | hk | hk | hk | hk | hk | hk | hk | hk | hk | hk | hk | hk<;>simp only at hk<;>subst hk<;>clear he
  all_goals (first
    | (have hsd := hsd rfl
       simp only [EL,GM,G8,Fw,Ez,Fp,FN,FO,GD,ET,FM,Ej,Ei,E0,FA,lq9,std,xOf,PXb,PXc,PXn,PXm,Nat.reduceAdd,Int.reduceBEq,ZL h hsd];subst hres;rfl)
    | (simp only [EL, GM, G8, Fw, Ez, Fp, FN, FO, GD, ET, FM, Ej, Ei, E0, FA, lq9,std,xOf, PXb, PXc, PXn, PXm, Nat.reduceAdd, Int.reduceBEq, fx h hN, jE h hN hs, eF h hw hN hs h13, ZZ h hN, dr h hN, dA h hN, cm h, eS h, W6 h, aR h hN hs, YH h, YX h, Zt h]
       subst hres
       first
       | rfl
       | (cases e4<;>rfl)))
theorem Lens.of {s t:Inn} (h1:t.batters.length=s.batters.length) (h2:t.bowled.length=s.bowled.length) (h3:t.subs.length=s.subs.length) (h4:t.bowlers=s.bowlers) (h5:t.before=s.before):Lens s t:=⟨h1,h2,h3,by rw [h4];omega,by rw [h5];omega⟩
theorem L_c {s:Inn} (b:Bool) (x y:Inn×Int) (hx:Lens s x.1) (hy:Lens s y.1):Lens s (cond b x y).1:=by cases b<;>assumption
theorem pF (s:Inn) (p q:Int):Lens s (Ol s p q).1:=by
 unfold Ol;exact L_c _ _ _ (Lens.refl s) (L_c _ _ _ (Lens.refl s) (L_c _ _ _ (Lens.refl s) (Lens.of (by simp [Lw]) rfl rfl rfl rfl)))
theorem oj (r:Rul) (s:Inn) (p:Int):Lens s (VO r s p).1:=by
 unfold VO;exact P_c (P:=fun x:Inn=>Lens s x) _ _ _ (Lens.of rfl rfl rfl rfl rfl) (Lens.refl s)
theorem pX (r:Rul) (s:Inn) (d:Del):Lens s (LB r s d).1:=by
 unfold LB;refine L_c _ _ _ (Lens.refl s) ?_;have l1:=iu s d;have w1:=ox s d;have w2:=pS s d;simp only [jQ];have l2:=em r (Aj s d) (AE r d).counts;cases (Ao r (Aj s d) (AE r d).counts).2
 ·exact ⟨l2.bt.trans l1.bt,l2.bd.trans l1.bd,l2.sb.trans l1.sb,by have:=l2.bw;rw [w1] at this;exact this,by have:=l2.bf;rw [w1,w2] at this;exact this⟩
 ·exact ⟨l2.bt.trans l1.bt,l2.bd.trans l1.bd,l2.sb.trans l1.sb,by have:=l2.bw;rw [w1] at this;exact this,by have:=l2.bf;rw [w1,w2] at this;exact this⟩
theorem jy (s:Inn) (p:Int):Lens s (E6 s p).1:=by
 unfold E6;exact L_c _ _ _ (Lens.of (by simp [Lw]) rfl rfl rfl rfl) (Lens.refl s)
theorem mq (s:Inn) (p:Int):Lens s (Ka s p).1:=by
 unfold Ka;exact L_c _ _ _ (Lens.of (by simp [Lw]) rfl rfl rfl rfl) (Lens.refl s)
theorem lB (s:Inn) (p:Int) (b:Bool):Lens s (FU s p b).1:=by
 unfold FU;exact L_c _ _ _ (Lens.refl s) (L_c _ _ _ (Lens.refl s) (L_c _ _ _ (Lens.refl s) (L_c _ _ _ (Lens.refl s) (Lens.of (by simp [Lw]) rfl rfl rfl rfl))))
theorem iP (s:Inn) (n:Int):Lens s (LX s n).1:=by
 unfold LX;exact L_c _ _ _ (Lens.refl s) (Lens.of rfl rfl rfl rfl rfl)
theorem lJ (s:Inn) (n:Int):Lens s (N3 s n).1:=by
 unfold N3;exact L_c _ _ _ (Lens.refl s) (L_c _ _ _ (Lens.refl s) (L_c _ _ _ (Lens.refl s) (Lens.of rfl rfl rfl rfl rfl)))
theorem oP (s:Inn) (n:Int) (b:Bool):Lens s (Rn s n b).1:=by
 unfold Rn;exact L_c _ _ _ (Lens.refl s) (L_c _ _ _ (Lens.refl s) (Lens.of rfl rfl (by simp [qX]) rfl rfl))
theorem jM (r:Rul) (s:Inn):Lens s (Lj r s).1:=by
 unfold Lj;exact L_c _ _ _ (Lens.refl s) (Lens.of rfl rfl rfl rfl rfl)
theorem kP (r:Rul) (s:Inn) (n:Int):Lens s (Lc r s n).1:=by
 unfold Lc;exact L_c _ _ _ (Lens.refl s) (L_c _ _ _ (Lens.refl s) (Lens.of rfl rfl rfl rfl rfl))
theorem jX (s:Inn) (n m:Int):Lens s (Hr s n m).1:=by
 unfold Hr;exact L_c _ _ _ (Lens.refl s) (L_c _ _ _ (Lens.of rfl rfl rfl rfl rfl) (Lens.of rfl rfl rfl rfl rfl))
theorem lE (r:Rul) (s:Inn) (n:Int) (b:Bool):Lens s (L8 r s n b).1:=by
 unfold L8;exact L_c _ _ _ (Lens.refl s) (L_c _ _ _ (Lens.of rfl rfl rfl rfl rfl) (Lens.refl s))
theorem kr (r:Rul) (s:Inn) (n m:Int):Lens s (N5 r s n m).1:=by
 unfold N5;exact L_c _ _ _ (Lens.refl s) (L_c _ _ _ (Lens.refl s) (L_c _ _ _ (Lens.refl s) (Lens.of rfl rfl rfl rfl rfl)))
theorem W1 (r:Rul) (s:Inn) (e:Ev):Lens s (Be r s e).1:=by
  unfold Be;exact L_c _ _ _ (pF ..) (L_c _ _ _ (oj ..) (L_c _ _ _ (pX ..) (L_c _ _ _ (L_c _ _ _ (jy ..) (mq ..)) (L_c _ _ _ (lB ..) (L_c _ _ _ (iP ..)
    (L_c _ _ _ (lJ ..) (L_c _ _ _ (oP ..) (L_c _ _ _ (jM ..) (L_c _ _ _ (kP ..) (L_c _ _ _ (jX ..) (L_c _ _ _ (lE ..) (kr ..))))))))))))
def Gr (r:Rul) (s:Inn):Bool:=UO r.name r.side r.innings r.overs r.balls r.quota r.wide r.noball r.newball r.followon r.reviews r.outside r.power s.batters s.bowlers s.before s.bowled s.subs s.side s.target s.overs s.runs s.wickets s.wides s.noballs s.byes s.legbyes s.pens s.complete s.inover s.striker s.other s.bowler s.ballage s.keeper s.outside s.rev1 s.rev2 s.ending
def uy (r:Rul) (s:Inn):Int:=rH (Gr r s) s.batters s.striker s.other s.target s.overs s.runs s.complete
theorem SO {N:Nat} {r8:Bool} {r0:ByteArray} {r13:Rows} {s18 s20:Bool} (h:Fit s14 s16 s17 s19 s24) (hN:2097152<N) (hs:r0.size≤1048576):BL N [.str r0,.int r1,.int r2,.int r3,.int r4,.int r5,.int r6,.int r7,.bool r8,.int r9,.int r10,.int r11,.int r12,.rows r13,.int s0,.int s1,.int s2,.int s3,.int s4,.int s5,.int s6,.int s7,.int s8,.int s9,.int s10,.int s11,.int s12,.int s13,.rows s14,.int s15,.rows s16,.rows s17,.bool s18,.rows s19,.bool s20,.int s21,.int s22,.int s23,.rows s24,.int s25,.int s26,.int s27]=some [.bool (Gr (⟨r0,r1,r2,r3,r4,r5,r6,r7,r8,r9,r10,r11,r12,r13⟩:Rul) (⟨s0,s1,s2,s3,s4,s5,s6,s7,s8,s9,s10,s11,s12,s13,s14,s15,s16,s17,s18,s19,s20,s21,s22,s23,s24,s25,s26,s27⟩:Inn))]:=by
 exact Rb N _ _ _ _ _ _ _ _ _ _ _ _ _ _ _ _ _ _ _ _ _ _ _ _ _ _ _ _ _ _ _ _ _ _ _ _ _ _ _ _ _ _ hN hs h.bt h.bw h.bf h.bd
theorem Zu {N:Nat} {r8:Bool} {r0:ByteArray} {r13:Rows} {s18 s20:Bool} (h:Fit s14 s16 s17 s19 s24) (hN:2097152<N) (hs:r0.size≤1048576):DR N [.str r0,.int r1,.int r2,.int r3,.int r4,.int r5,.int r6,.int r7,.bool r8,.int r9,.int r10,.int r11,.int r12,.rows r13,.int s0,.int s1,.int s2,.int s3,.int s4,.int s5,.int s6,.int s7,.int s8,.int s9,.int s10,.int s11,.int s12,.int s13,.rows s14,.int s15,.rows s16,.rows s17,.bool s18,.rows s19,.bool s20,.int s21,.int s22,.int s23,.rows s24,.int s25,.int s26,.int s27]=some [.int (uy (⟨r0,r1,r2,r3,r4,r5,r6,r7,r8,r9,r10,r11,r12,r13⟩:Rul) (⟨s0,s1,s2,s3,s4,s5,s6,s7,s8,s9,s10,s11,s12,s13,s14,s15,s16,s17,s18,s19,s20,s21,s22,s23,s24,s25,s26,s27⟩:Inn))]:=by
 exact YF N _ _ _ _ _ _ _ _ _ _ _ _ _ _ _ _ _ _ _ _ _ _ _ _ _ _ _ _ _ _ _ _ _ _ _ _ _ _ _ _ _ _ hN hs h.bt h.bw h.bf h.bd
def jg (t:Inn) (b:Bool):Inn:=⟨t.side,t.target,t.overs,t.runs,t.wickets,t.wides,t.noballs,t.byes,t.legbyes,t.pens,t.complete,t.inover,t.striker,t.other,t.batters,t.bowler,t.bowlers,t.before,b,t.bowled,t.freehit,t.ballage,t.keeper,t.outside,t.subs,t.rev1,t.rev2,t.ending⟩
def Br (r:Rul) (t:Inn) (b:Bool):Inn:={ jg t b with ending:=cond (t.ending==0) (uy r (jg t b)) t.ending }
def Xx (s:Inn) (e:Ev):Bool:=e.kind==1||e.kind==12||e.kind==16||(!Ca s.batters && !(e.kind==2))
def Ap (r:Rul) (s:Inn) (e:Ev):Inn×Int :=
  cond (!Gr r s || !(evS e==0)) (s,1) (cond (!(s.ending==0)) (s,26) (cond (Xx s e) (s,1)
    (cond (!((Be r s e).2==0)) (s,(Be r s e).2) (Br r (Be r s e).1 (e.kind==4),0))))
set_option maxHeartbeats 4000000 in
theorem Nt {N:Nat} {r8:Bool} {r0:ByteArray} {r13:Rows} {s18 s20:Bool} {e4 e12 e17:Bool} (h:Fit s14 s16 s17 s19 s24) (hw:s17.length+s16.length≤1000000) (hN:2097152<N) (hs:r0.size≤1048576) (h13:r13.length≤1048576):Gk N [.str r0,.int r1,.int r2,.int r3,.int r4,.int r5,.int r6,.int r7,.bool r8,.int r9,.int r10,.int r11,.int r12,.rows r13,.int s0,.int s1,.int s2,.int s3,.int s4,.int s5,.int s6,.int s7,.int s8,.int s9,.int s10,.int s11,.int s12,.int s13,.rows s14,.int s15,.rows s16,.rows s17,.bool s18,.rows s19,.bool s20,.int s21,.int s22,.int s23,.rows s24,.int s25,.int s26,.int s27,.int e0,.int e1,.int e2,.int e3,.bool e4,.int e5,.int e6,.int e7,.int e8,.int e9,.int e10,.int e11,.bool e12,.int e13,.int e14,.int e15,.int e16,.bool e17,.int e18]=some (BM (Ap (⟨r0,r1,r2,r3,r4,r5,r6,r7,r8,r9,r10,r11,r12,r13⟩:Rul) (⟨s0,s1,s2,s3,s4,s5,s6,s7,s8,s9,s10,s11,s12,s13,s14,s15,s16,s17,s18,s19,s20,s21,s22,s23,s24,s25,s26,s27⟩:Inn) (⟨e0,e1,e2,e3,e4,e5,e6,⟨e7,e8,e9,e10,e11,e12,e13,e14,e15,e16,e17,e18⟩⟩:Ev))):=by
 show KA (std (CF N) N) (xOf _)=_;generalize hres:(some (BM (Ap (⟨r0,r1,r2,r3,r4,r5,r6,r7,r8,r9,r10,r11,r12,r13⟩:Rul) (⟨s0,s1,s2,s3,s4,s5,s6,s7,s8,s9,s10,s11,s12,s13,s14,s15,s16,s17,s18,s19,s20,s21,s22,s23,s24,s25,s26,s27⟩:Inn) (⟨e0,e1,e2,e3,e4,e5,e6,⟨e7,e8,e9,e10,e11,e12,e13,e14,e15,e16,e17,e18⟩⟩:Ev))):Option (List PV))=RR;have l1:=W1 (⟨r0,r1,r2,r3,r4,r5,r6,r7,r8,r9,r10,r11,r12,r13⟩:Rul) (⟨s0,s1,s2,s3,s4,s5,s6,s7,s8,s9,s10,s11,s12,s13,s14,s15,s16,s17,s18,s19,s20,s21,s22,s23,s24,s25,s26,s27⟩:Inn) (⟨e0,e1,e2,e3,e4,e5,e6,⟨e7,e8,e9,e10,e11,e12,e13,e14,e15,e16,e17,e18⟩⟩:Ev);have f1:=Rw l1 h (by simp only;omega);simp only [KA,PU,OM,Nr,Nu,Fj,GL,lq9,std,xOf,PXb,SO h hN hs,V2 hN,B9 h,bK h.bt hN];subst hres;simp only [Ap,Xx];cases Gr (⟨r0,r1,r2,r3,r4,r5,r6,r7,r8,r9,r10,r11,r12,r13⟩:Rul) (⟨s0,s1,s2,s3,s4,s5,s6,s7,s8,s9,s10,s11,s12,s13,s14,s15,s16,s17,s18,s19,s20,s21,s22,s23,s24,s25,s26,s27⟩:Inn)
 ·rfl
 cases he:evS (⟨e0,e1,e2,e3,e4,e5,e6,⟨e7,e8,e9,e10,e11,e12,e13,e14,e15,e16,e17,e18⟩⟩:Ev)==0
 ·simp only [PXb,PXc,PXn,PXm,Nat.reduceAdd,Int.reduceBEq,he]
 simp only [PXb,PXc,PXn,PXm,Nat.reduceAdd,Int.reduceBEq,he];cases s27==0<;>try rfl
 cases (e0==1||e0==12||e0==16)<;>cases Ca s14<;>cases e0==2<;>try rfl
 all_goals (simp only [PXb,PXc,PXn,PXm,Nat.reduceAdd,Int.reduceBEq,Fj,GL,YP h hw hN hs h13 he,Zu f1 hN hs])
 all_goals (unfold Br jg;cases (Be (⟨r0,r1,r2,r3,r4,r5,r6,r7,r8,r9,r10,r11,r12,r13⟩:Rul) (⟨s0,s1,s2,s3,s4,s5,s6,s7,s8,s9,s10,s11,s12,s13,s14,s15,s16,s17,s18,s19,s20,s21,s22,s23,s24,s25,s26,s27⟩:Inn) (⟨e0,e1,e2,e3,e4,e5,e6,⟨e7,e8,e9,e10,e11,e12,e13,e14,e15,e16,e17,e18⟩⟩:Ev)).2==0<;>cases (Be (⟨r0,r1,r2,r3,r4,r5,r6,r7,r8,r9,r10,r11,r12,r13⟩:Rul) (⟨s0,s1,s2,s3,s4,s5,s6,s7,s8,s9,s10,s11,s12,s13,s14,s15,s16,s17,s18,s19,s20,s21,s22,s23,s24,s25,s26,s27⟩:Inn) (⟨e0,e1,e2,e3,e4,e5,e6,⟨e7,e8,e9,e10,e11,e12,e13,e14,e15,e16,e17,e18⟩⟩:Ev)).1.ending==0<;>rfl)
theorem pC (L:Rows) (c:Nat):(cut L c).length≤c:=by
 unfold cut;rw [List.length_drop,List.length_take];cases h:iLt (c:Int) (L.length:Int) with
 | true=>simp only [cond_true];omega
 | false=>simp only [iLt,decide_eq_false_iff_not] at h;simp only [cond_false];omega
theorem kh {s t:Inn} (r:Rul) (b:Bool) (h:Lens s t):Lens s (Br r t b):=⟨h.bt,h.bd,h.sb,h.bw,h.bf⟩
theorem Sw (r:Rul) (s:Inn) (e:Ev):Lens s (Ap r s e).1:=by
 unfold Ap;exact L_c _ _ _ (Lens.refl s) (L_c _ _ _ (Lens.refl s) (L_c _ _ _ (Lens.refl s) (L_c _ _ _ (Lens.refl s) (kh r _ (W1 r s e)))))
theorem Qs {r : Rul} {s : Inn} {e : Ev} (h : ((Ap r s e).2 == 0) = true) :
    Gr r s=true∧(evS e==0)=true∧(s.ending==0)=true∧Xx s e=false∧((Be r s e).2==0)=true∧(Ap r s e).1=Br r (Be r s e).1 (e.kind==4):=by
  unfold Ap at h ⊢;cases hv:Gr r s with
  | false=>rw [hv] at h;cases h
  | true =>
    cases he:evS e==0 with
    | false=>rw [hv,he] at h;cases h
    | true =>
      cases hn:s.ending==0 with
      | false=>rw [hv,he,hn] at h;cases h
      | true =>
        cases hw:Xx s e with
        | true=>rw [hv,he,hn,hw] at h;cases h
        | false =>
          cases hp:(Be r s e).2==0 with
          | false=>rw [hv,he,hn,hw,hp] at h;exact absurd (hp▸h) (by decide)
          | true=>exact ⟨rfl,rfl,rfl,rfl,rfl,rfl⟩
theorem T4 {x a b:Int}:btw x a b=true↔a≤x∧x≤b:=by simp [btw,iLe]
structure RulOk (r:Rul):Prop where
 side:2≤r.side∧r.side≤11
 innings:1≤r.innings∧r.innings≤2
 overs:0≤r.overs∧r.overs≤90
 balls:4≤r.balls∧r.balls≤8
 quota:0≤r.quota∧r.quota≤90
 wide:1≤r.wide∧r.wide≤5
 noball:1≤r.noball∧r.noball≤5
 newball:0≤r.newball∧r.newball≤200
 followon:0≤r.followon∧r.followon≤1000
 reviews:0≤r.reviews∧r.reviews≤9
 outside:0≤r.outside∧r.outside≤11
theorem El {r:Rul} (h:BK r=0):RulOk r:=by
 unfold BK L6 at h;cases hn:EK r.name with
 | false=>rw [hn] at h;cases h
 | true =>
  cases hr:OV r.side r.innings r.overs r.balls r.quota r.wide r.noball r.newball r.followon r.reviews r.outside with
  | false=>rw [hn,hr] at h;cases h
  | true =>
   unfold OV at hr;simp only [zzj,T4] at hr;obtain ⟨⟨⟨⟨⟨⟨⟨⟨⟨⟨h1,h2⟩,h3⟩,h4⟩,h5⟩,h6⟩,h7⟩,h8⟩,h9⟩,h10⟩,h11⟩:=hr;exact ⟨h1,h2,h3,h4,h5,h6,h7,h8,h9,h10,h11⟩
def Bj (x:Int):Prop:=0≤x∧x≤1000000000
structure InnOk (r:Rul) (s:Inn):Prop where
 code:BK r=0
 side:1≤s.side∧s.side≤2
 lb:(s.batters.length:Int)=r.side
 ld:(s.bowled.length:Int)=r.side
 lz:(s.subs.length:Int)=r.side
 ending:s.ending≤5
 st:0≤s.striker∧s.striker≤r.side
 ot:0≤s.other∧s.other≤r.side
 bat:X7 s.batters s.striker s.other s.wickets=true
 bow:0≤s.bowler∧s.bowler≤r.side
 kee:0≤s.keeper∧s.keeper≤r.side
 dw:Ko s.bowlers r.side=true
 df:Ko s.before r.side=true
 ov:dS r.overs s.overs=true
 io:0≤s.inover∧s.inover≤r.balls - 1
 target:Bj s.target
 runs:Bj s.runs
 wides:Bj s.wides
 noballs:Bj s.noballs
 byes:Bj s.byes
 legbyes:Bj s.legbyes
 pens:Bj s.pens
 complete:Bj s.complete
 ballage:Bj s.ballage
 outside:Bj s.outside
 rev1:Bj s.rev1
 rev2:Bj s.rev2
 bowled:KM JT s.bowled=false
theorem tf {x:Int}:JT x=false↔Bj x:=by
 unfold JT Bj;rw [Bool.not_eq_false',T4]
theorem rc (a b c d e f g h i j k l:Int):KM JT (iK a b c d e f g h i j k l)=false↔Bj a∧Bj b∧Bj c∧Bj d∧Bj e∧Bj f∧Bj g∧Bj h∧Bj i∧Bj j∧Bj k∧Bj l:=by
 rw [Nv];simp only [iK,List.any_cons,List.any_nil,Bool.or_false,fK,tN,Bool.or_eq_false_iff,tf]
theorem bU {r:Rul} (h:RulOk r):IntKind.i64.wrap (r.balls - 1)=r.balls - 1:=by
 have:=h.balls;exact CO (by omega) (by omega)
theorem mU {x:Int}:(!iLt 5 x)=true↔x≤5:=by
 rw [Bool.not_eq_true'];simp only [iLt,decide_eq_false_iff_not];omega
theorem Jn {r:Rul} {s:Inn}:Gr r s=true↔InnOk r s:=by
 unfold Gr UO;simp only [zzj,Bool.not_eq_true',rc,T4];constructor
 ·intro ⟨h1,h2,h3,h4,h5,h6,h7,h8,h9,h10,h11,h12,h13,h14,h15,⟨n1,n2,n3,n4,n5,n6,n7,n8,n9,n10,n11,n12⟩,h17⟩;have hc:BK r=0:=beq_iff_eq.1 h1;exact ⟨hc,h2,beq_iff_eq.1 h3,beq_iff_eq.1 h4,beq_iff_eq.1 h5,mU.1 (by rw [h6];rfl),h7,h8,h9,h10,h11,h12,h13,h14,by rw [bU (El hc)] at h15;exact h15,n1,n2,n3,n4,n5,n6,n7,n8,n9,n10,n11,n12,h17⟩
 ·intro h;have h6:=mU.2 h.ending;rw [Bool.not_eq_true'] at h6;exact ⟨beq_iff_eq.2 h.code,h.side,beq_iff_eq.2 h.lb,beq_iff_eq.2 h.ld,beq_iff_eq.2 h.lz,h6,h.st,h.ot,h.bat,h.bow,h.kee,h.dw,h.df,h.ov,by rw [bU (El h.code)];exact h.io,
   ⟨h.target,h.runs,h.wides,h.noballs,h.byes,h.legbyes,h.pens,h.complete,h.ballage,h.outside,h.rev1,h.rev2⟩,h.bowled⟩
theorem N6 (n:Int):IntKind.i64.wrap n=(n+9223372036854775808) % 18446744073709551616 - 9223372036854775808:=by
 unfold IntKind.wrap;simp only [IntKind.signed,IntKind.bits];simp
 split<;>omega
theorem HI (n:Int):IntKind.i64.wrap (IntKind.i64.wrap n)=IntKind.i64.wrap n:=by
 simp only [N6];omega
theorem L5 (a b:Int):IntKind.i64.wrap (IntKind.i64.wrap (a+b) - a)=IntKind.i64.wrap b:=by
 simp only [N6];omega
theorem V6 (a:Int):IntKind.i64.wrap (a - a)=0:=by rw [Int.sub_self];rfl
theorem ZM (s:Inn) (d:Del):(Aj s d).runs=s.runs∧(Aj s d).wides=s.wides∧(Aj s d).noballs=s.noballs∧(Aj s d).byes=s.byes∧(Aj s d).legbyes=s.legbyes∧(Aj s d).pens=s.pens∧(Aj s d).complete=s.complete∧(Aj s d).inover=s.inover∧(Aj s d).bowler=s.bowler∧(Aj s d).bowled=s.bowled:=by
  unfold Aj;cases (!(d.runs.tmod 2==0) != d.crossed)<;>exact P_c (P:=fun x:Inn=>x.runs=s.runs∧x.wides=s.wides∧x.noballs=s.noballs∧x.byes=s.byes∧x.legbyes=s.legbyes∧x.pens=s.pens∧x.complete=s.complete∧x.inover=s.inover∧x.bowler=s.bowler∧x.bowled=s.bowled) _ _ _ ⟨rfl,rfl,rfl,rfl,rfl,rfl,rfl,rfl,rfl,rfl⟩
    (P_c (P:=fun x:Inn=>x.runs=s.runs∧x.wides=s.wides∧x.noballs=s.noballs∧x.byes=s.byes∧x.legbyes=s.legbyes∧x.pens=s.pens∧x.complete=s.complete∧x.inover=s.inover∧x.bowler=s.bowler∧x.bowled=s.bowled) _ _ _ ⟨rfl,rfl,rfl,rfl,rfl,rfl,rfl,rfl,rfl,rfl⟩ ⟨rfl,rfl,rfl,rfl,rfl,rfl,rfl,rfl,rfl,rfl⟩)
def Ia (r:Rul) (s:Inn) (d:Del):Inn :=
 let o:=Ao r (Aj s d) (AE r d).counts
 let t:Inn:=cond o.2 (IJ o.1) o.1
 { t with runs:=IntKind.i64.wrap (s.runs+Ew (AE r d)),wides:=IntKind.i64.wrap (s.wides+(AE r d).wides),noballs:=IntKind.i64.wrap (s.noballs+(AE r d).noballs),byes:=IntKind.i64.wrap (s.byes+(AE r d).byes),legbyes:=IntKind.i64.wrap (s.legbyes+(AE r d).legbyes),freehit:=cond (d.type==1) false (cond (d.type==3&&r.freehit) true o.1.freehit) }
theorem de {r:Rul} {s:Inn} {d:Del} (h:((LB r s d).2==0)=true):(Gt r s d==0)=true∧(LB r s d).1=Ia r s d:=by
 unfold LB at h ⊢;cases hr:Gt r s d==0 with
 | false=>rw [hr] at h;exact absurd (hr▸h) (by decide)
 | true =>
  refine ⟨rfl,?_⟩;obtain ⟨k1,k2,k3,k4,k5,_⟩:=ZM s d;simp only [Bool.not_true,cond_false,jQ,k1,k2,k3,k4,k5,Ia];generalize Ao r (Aj s d) (AE r d).counts=o;obtain ⟨o1,o2⟩:=o;cases o2<;>rfl
theorem Xa {r:Rul} {s:Inn} {d:Del} (h:(Gt r s d==0)=true):Gq s.batters s.striker s.other=false∧(s.bowler==0)=false∧(Rz r s==0)=true∧(EY d==0)=true∧(Qo d s.freehit==0)=true∧(Q5 s d==0)=true:=by
 unfold Gt at h;cases h1:Gq s.batters s.striker s.other with
 | true=>rw [h1] at h;cases h
 | false =>
  cases h2:s.bowler==0 with
  | true=>rw [h1,h2] at h;cases h
  | false =>
   rw [h1,h2] at h;change (cR _ _ _ _==0)=true at h;unfold cR at h;cases h3:Rz r s==0 with
   | false=>rw [h3] at h;exact absurd (h3▸h) (by decide)
   | true =>
    cases h4:EY d==0 with
    | false=>rw [h3,h4] at h;exact absurd (h4▸h) (by decide)
    | true =>
     cases h5:Qo d s.freehit==0 with
     | false=>rw [h3,h4,h5] at h;exact absurd (h5▸h) (by decide)
     | true =>
      cases h6:Q5 s d==0 with
      | false=>rw [h3,h4,h5,h6] at h;exact absurd (h6▸h) (by decide)
      | true=>exact ⟨rfl,rfl,rfl,rfl,rfl,rfl⟩
theorem Yp {d:Del} {f:Bool} (h:(Qo d f==0)=true) (hd:(d.how==0)=false):(d.victim==1)=true∨(d.victim==2)=true:=by
 unfold Qo at h;rw [hd] at h;cases h1:d.victim==1 with
 | true=>exact .inl rfl
 | false =>
  cases h2:d.victim==2 with
  | true=>exact .inr rfl
  | false =>
   rw [h1,h2] at h
   exfalso
   revert h
   cases (!onS d.how d.type||f && !gV d.how)<;>cases (!Nm d.how&&(!(d.source==0) || !(d.runs==0)))<;>intro h<;>cases h
theorem ZY {s:Inn} {e:Ev} (h:Xx s e=false) (hk:(e.kind==2)=false):Ca s.batters=true:=by
 unfold Xx at h;rw [hk] at h;cases hb:Ca s.batters with
 | true=>rfl
 | false=>rw [hb] at h;simp at h
theorem mM {s : Inn} {d : Del} (h1 : (s.striker == 0) = false) (h2 : (s.other == 0) = false) (hv : (d.how == 0) = false → (d.victim == 1) = true ∨ (d.victim == 2) = true) :
    (Aj s d).wickets=cond (d.how==0) s.wickets (inc s.wickets):=by
  unfold Aj;rw [h1,h2];cases hd:d.how==0 with
  | true=>cases (!(d.runs.tmod 2==0) != d.crossed)<;>rfl
  | false =>
    rcases hv hd with h | h<;>rw [h]<;>cases (!(d.runs.tmod 2==0) != d.crossed)<;>cases d.victim==1<;>rfl
theorem mL (r:Rul) (s:Inn) (b:Bool):(Ao r s b).1.wickets=s.wickets∧(Ao r s b).1.pens=s.pens:=by
 unfold Ao;exact P_c (P:=fun x:Inn×Bool=>x.1.wickets=s.wickets∧x.1.pens=s.pens) _ _ _ ⟨rfl,rfl⟩ (P_c (P:=fun x:Inn×Bool=>x.1.wickets=s.wickets∧x.1.pens=s.pens) _ _ _ ⟨rfl,rfl⟩ ⟨rfl,rfl⟩)
theorem nU {r : Rul} {s : Inn} {b : Bool} (hr : RulOk r) (hc : BK r = 0) (hb : inR s.bowler s.bowled.length = true) (hi : 0 ≤ s.inover ∧ s.inover ≤ r.balls - 1) (hn : Bj s.complete) :
    IntKind.i64.wrap (Cf r.balls (Ao r s b).1.complete (Ao r s b).1.inover - Cf r.balls s.complete s.inover)=cond b 1 0:=by
  have hk:∃ k:Nat,r.balls=k:=⟨r.balls.toNat,by have:=hr.balls;omega⟩;have hz:=hr.balls;unfold Bj at hn;unfold Ao Cf;rw [hb,hc];cases b with
  | false =>
    have h1:iLt s.inover r.balls=true:=by simp only [iLt,decide_eq_true_eq];omega
    simp only [cond_false,h1,beq_self_eq_true,Bool.not_true,Bool.or_false,cond_true];exact V6 _
  | true =>
    have h2:inc s.inover=s.inover+1:=CO (by omega) (by omega);simp only [cond_true,h2,beq_self_eq_true,Bool.not_true,Bool.or_false,cond_false];have h3:inc s.complete=s.complete+1:=CO (by omega) (by omega);have hb5:r.balls=4∨r.balls=5∨r.balls=6∨r.balls=7∨r.balls=8:=by omega
    cases h1:iLt (s.inover+1) r.balls with
    | true =>
      simp only [cond_true]
      rcases hb5 with e | e | e | e | e<;>rw [e] at hi ⊢<;>simp only [N6]<;>omega
    | false =>
      simp only [iLt,decide_eq_false_iff_not] at h1;simp only [cond_false,h3]
      rcases hb5 with e | e | e | e | e<;>rw [e] at hi h1 ⊢<;>simp only [N6]<;>omega
theorem Zr {L:Rows} {s n:Int} (h:Gq L s n=false) (hb:Ca L=true):(s==0)=false∧(n==0)=false:=by
 unfold Gq at h;rw [hb,Bool.true_and,Bool.or_eq_false_iff] at h;exact h
theorem pK {r:Rul} {s:Inn} (h:InnOk r s) (hb:(s.bowler==0)=false):inR s.bowler s.bowled.length=true:=by
 have h1:=h.bow;have h2:=h.ld;rw [beq_eq_false_iff_ne] at hb;simp only [inR,iLe,zzj,decide_eq_true_eq];omega
theorem pG {r : Rul} {s : Inn} {e : Ev} (hk : (e.kind == 4) = true) (h : ((Ap r s e).2 == 0) = true) :
    IntKind.i64.wrap ((Ap r s e).1.runs - s.runs)=Ew (AE r e.ball)∧IntKind.i64.wrap ((Ap r s e).1.wides - s.wides)=(AE r e.ball).wides∧IntKind.i64.wrap ((Ap r s e).1.noballs - s.noballs)=(AE r e.ball).noballs ∧
    IntKind.i64.wrap ((Ap r s e).1.byes - s.byes)=(AE r e.ball).byes∧IntKind.i64.wrap ((Ap r s e).1.legbyes - s.legbyes)=(AE r e.ball).legbyes∧(Ap r s e).1.pens=s.pens ∧
    IntKind.i64.wrap (Cf r.balls (Ap r s e).1.complete (Ap r s e).1.inover - Cf r.balls s.complete s.inover)=cond (AE r e.ball).counts 1 0 ∧
    IntKind.i64.wrap ((Ap r s e).1.wickets - s.wickets)=cond (e.ball.how==0) 0 1∧(Ap r s e).1.fresh=true∧IntKind.i64.wrap (Ap r s e).1.runs=(Ap r s e).1.runs:=by
  obtain ⟨hv,he,hn,hw,hp,hs⟩:=Qs h;have k4:=beq_iff_eq.1 hk;have hpb:Be r s e=LB r s e.ball:=by unfold Be;rw [k4];rfl
  obtain ⟨d,hd0⟩:∃ d,d=e.ball:=⟨_,rfl⟩;rw [← hd0] at hpb ⊢;rw [hpb] at hp hs;obtain ⟨hr,hb⟩:=de hp;obtain ⟨q1,q2,q3,q4,q5,q6⟩:=Xa hr;have ok:=Jn.1 hv;have rk:=El ok.code;have hbeg:Ca s.batters=true:=ZY hw (by rw [k4];rfl);obtain ⟨z1,z2⟩:=Zr q1 hbeg;have hin:=pK ok q2;have hout:=mM (d:=d) z1 z2 (fun hd=>Yp q5 hd);obtain ⟨k1,k2,k3,k4,k5,k6,k7,k8,k9,k10⟩:=ZM s d;have hbl:=nU (b:=(AE r d).counts) (s:=Aj s d) rk ok.code (by rw [k9,k10];exact hin) (by rw [k8];exact ok.io) (by rw [k7];exact ok.complete);rw [k7,k8] at hbl;obtain ⟨w1,w2⟩:=mL r (Aj s d) (AE r d).counts;rw [hs,hb];have hc:AE r d=SV r d:=by unfold AE;rw [q4];rfl
  have ht:IntKind.i64.wrap (Ew (AE r d))=Ew (AE r d):=HI _;have c1:IntKind.i64.wrap (AE r d).wides=(AE r d).wides:=by rw [hc];unfold SV;simp only;cases d.type==2<;>first | rfl | exact HI _
  have c2:IntKind.i64.wrap (AE r d).noballs=(AE r d).noballs:=by
    have:=rk.noball;rw [hc];unfold SV;simp only;cases d.type==3<;>first | rfl | exact CO (n:=r.noball) (by omega) (by omega)
  have c3:IntKind.i64.wrap (AE r d).byes=(AE r d).byes:=by rw [hc];unfold SV;simp only;cases (!(d.type==2)&&d.source==2)<;>first | rfl | exact HI _
  have c4:IntKind.i64.wrap (AE r d).legbyes=(AE r d).legbyes:=by rw [hc];unfold SV;simp only;cases (!(d.type==2)&&d.source==3)<;>first | rfl | exact HI _
  refine ⟨(L5 _ _).trans ht,(L5 _ _).trans c1,(L5 _ _).trans c2,(L5 _ _).trans c3,(L5 _ _).trans c4,?_,?_,?_,hk,HI _⟩
  · have : (Br r (Ia r s d) (e.kind == 4)).pens = (Ao r (Aj s d) (AE r d).counts).1.pens := by
      show (cond (Ao r (Aj s d) (AE r d).counts).2 (IJ (Ao r (Aj s d) (AE r d).counts).1) (Ao r (Aj s d) (AE r d).counts).1).pens=_;cases (Ao r (Aj s d) (AE r d).counts).2<;>rfl
    rw [this,w2,k6]
  · have e1 : (Br r (Ia r s d) (e.kind == 4)).complete = (Ao r (Aj s d) (AE r d).counts).1.complete := by
      show (cond (Ao r (Aj s d) (AE r d).counts).2 (IJ (Ao r (Aj s d) (AE r d).counts).1) (Ao r (Aj s d) (AE r d).counts).1).complete=_;cases (Ao r (Aj s d) (AE r d).counts).2<;>rfl
    have e2:(Br r (Ia r s d) (e.kind==4)).inover=(Ao r (Aj s d) (AE r d).counts).1.inover:=by
      show (cond (Ao r (Aj s d) (AE r d).counts).2 (IJ (Ao r (Aj s d) (AE r d).counts).1) (Ao r (Aj s d) (AE r d).counts).1).inover=_;cases (Ao r (Aj s d) (AE r d).counts).2<;>rfl
    rw [e1,e2,hbl]
  · have : (Br r (Ia r s d) (e.kind == 4)).wickets = (Ao r (Aj s d) (AE r d).counts).1.wickets := by
      show (cond (Ao r (Aj s d) (AE r d).counts).2 (IJ (Ao r (Aj s d) (AE r d).counts).1) (Ao r (Aj s d) (AE r d).counts).1).wickets=_;cases (Ao r (Aj s d) (AE r d).counts).2<;>rfl
    rw [this,w1,hout];unfold inc;cases d.how==0 with
    | true=>exact V6 _
    | false=>exact (L5 s.wickets 1).trans rfl
def sE:Inn:=⟨0,0,0,0,0,0,0,0,0,0,0,0,0,0,[],0,[],[],false,[],false,0,0,0,[],0,0,0⟩
def vq (n:Nat) (overs side t p:Int):Inn:=⟨side,t,overs,p,0,0,0,0,0,p,0,0,0,0,List.replicate n [.int 0],0,[],[],false,List.replicate n [.int 0],false,0,0,0,List.replicate n [.bool false],0,0,0⟩
def CZ (r:Rul) (side t p:Int):Inn×Int :=
 cond (!(BK r==0)) (sE,BK r) (cond (!btw side 1 2 || !btw t 0 1000000 || !btw p 0 1000000) (sE,2) (vq r.side.toNat r.overs side t p,0))
theorem SK {N:Nat} {r8:Bool} {r0:ByteArray} {r13:Rows} {a:Int} {b:Int} {c:Int} (hN:2097152<N) (hs:r0.size≤1048576):F4 N [.str r0,.int r1,.int r2,.int r3,.int r4,.int r5,.int r6,.int r7,.bool r8,.int r9,.int r10,.int r11,.int r12,.rows r13,.int a,.int b,.int c]=some (BM (CZ (⟨r0,r1,r2,r3,r4,r5,r6,r7,r8,r9,r10,r11,r12,r13⟩:Rul) a b c)):=by
 show Iy (std (Gb N) N) (xOf _)=_;generalize hres:(some (BM (CZ (⟨r0,r1,r2,r3,r4,r5,r6,r7,r8,r9,r10,r11,r12,r13⟩:Rul) a b c)):Option (List PV))=RR;simp only [Iy,PN,MI,lq9,std,xOf,PXb,C9 hN hs,Dq];subst hres;simp only [CZ];cases hc:BK (⟨r0,r1,r2,r3,r4,r5,r6,r7,r8,r9,r10,r11,r12,r13⟩:Rul)==0 with
 | false=>rfl
 | true =>
  have rk:=(El (beq_iff_eq.1 hc)).side;obtain ⟨k,hk⟩:∃ k:Nat,r1=k:=⟨r1.toNat,by simp only at rk;omega⟩;subst hk;simp only at rk;have h1:iSm (k:Int) 1=true:=DV (by omega) (by omega);have h8:iSm (k:Int) 8=true:=DV (by omega) (by omega);simp only [PXb,PXc,PXn,PXm,Nat.reduceAdd,Int.reduceBEq,h1,h8];cases btw a 1 2<;>cases btw b 0 1000000<;>cases btw c 0 1000000<;>rfl
theorem Qg (r:Rul) (side t p:Int):(CZ r side t p).1.Fit∧(CZ r side t p).1.before=[]∧(CZ r side t p).1.bowlers=[]:=by
 unfold CZ;cases hc:BK r==0 with
 | false=>exact ⟨⟨by show 0≤1048576;omega,by show 0≤1048576;omega,by show 0≤1048576;omega,by show 0≤1048576;omega,by show 0≤1048576;omega⟩,rfl,rfl⟩
 | true =>
  have hs:=(El (beq_iff_eq.1 hc)).side;have hl:∀ x:List PV,(List.replicate r.side.toNat x).length≤1048576:=fun x=>by rw [List.length_replicate];omega
  cases (!btw side 1 2 || !btw t 0 1000000 || !btw p 0 1000000) with
  | true=>exact ⟨⟨by show 0≤1048576;omega,by show 0≤1048576;omega,by show 0≤1048576;omega,by show 0≤1048576;omega,by show 0≤1048576;omega⟩,rfl,rfl⟩
  | false=>exact ⟨⟨hl _,by show 0≤1048576;omega,by show 0≤1048576;omega,hl _,hl _⟩,rfl,rfl⟩
theorem sv {s:Inn} (h:s.Fit):(Pk s).Fit:=⟨h.bt,h.bw,h.bf,h.bd,h.sb⟩
structure BatOk (L:Rows) (s n wk:Int):Prop where
 le:∀ i,i<L.length→atI L i 0≤3
 at1:∀ i,i<L.length→(atI L i 0=1↔(s=(i:Int)+1∨n=(i:Int)+1))
 here:Ca L=true→s≠0∨n≠0
 ne:s≠0→s≠n
 wk:wk=Z8 L
theorem tG {r:Rul} {s:Inn} (h:InnOk r s):2≤r.side∧r.side≤11:=(El h.code).side
theorem qB {s:Inn} {p:Int} {hurt:Bool} (h:((FU s p hurt).2==0)=true):inR p s.batters.length=true∧s.striker≠0∧s.other≠0∧(p=s.striker∨p=s.other)∧(hurt&&((DW s.batters s.batters.length).length:Int)==0)=false:=by
 unfold FU at h;cases h1:inR p s.batters.length with
 | false=>rw [h1] at h;cases h
 | true =>
  cases h2:s.striker==0 with
  | true=>rw [h1,h2] at h;cases h
  | false =>
   cases h3:s.other==0 with
   | true=>rw [h1,h2,h3] at h;cases h
   | false =>
    cases h4:(!(p==s.striker) && !(p==s.other)) with
    | true=>rw [h1,h2,h3,h4] at h;cases h
    | false =>
     cases h5:(hurt&&((DW s.batters s.batters.length).length:Int)==0) with
     | true=>rw [h1,h2,h3,h4,h5] at h;cases h
     | false =>
      refine ⟨rfl,beq_eq_false_iff_ne.1 h2,beq_eq_false_iff_ne.1 h3,?_,rfl⟩;rw [Bool.and_eq_false_iff,Bool.not_eq_false',Bool.not_eq_false',beq_iff_eq,beq_iff_eq] at h4;exact h4
end Go.Px
end
