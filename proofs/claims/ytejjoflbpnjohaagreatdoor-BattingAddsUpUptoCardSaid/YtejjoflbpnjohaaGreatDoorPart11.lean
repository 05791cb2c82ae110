/- Part 11. -/
import Derived.Test.YtejjoflbpnjohaaGreatDoorPart10
set_option linter.unusedVariables false
set_option linter.unusedSimpArgs false
variable {s0 s1 s2 s3 s4 s5 s6 s7 s8 s9 s10 s11 s12 s13 s15 s21 s22 s23 s25 s26 s27:Int}
variable {s14 s16 s17 s19 s24:Go.Px.Rows}
variable {r1 r2 r3 r4 r5 r6 r7 r9 r10 r11 r12:Int}
variable {d0 d1 d2 d3 d4 d6 d7 d8 d9 d11:Int}
variable {e0 e1 e2 e3 e5 e6 e7 e8 e9 e10 e11 e13 e14 e15 e16 e18:Int}
section
namespace Go.Px
set_option maxRecDepth 100000
def onS (h t:Int):Bool :=
 cond (h==1||h==2||h==3) (t==1) (cond (h==4||h==5) (t==1||t==2) (cond (h==7) (t==1||t==3) (cond (h==6||h==8) (t==1||t==2||t==3) false)))
def gm (h:Int):Bool:=h==6||h==7||h==8
def N9 (h:Int):Bool:=h==6||h==8
def bX (h:Int):Bool:=h==2||h==4||h==6
def QZ (d:Del) (free:Bool):Int :=
  cond (d.how==0) (cond (!(d.victim==0)) 14 (cond (!(d.fielder==0) || !(d.second==0)||d.sub) 15 0))
    (cond (!onS d.how d.type||free && !gm d.how) 13 (cond (!N9 d.how&&(!(d.source==0) || !(d.runs==0))) 12
      (cond (!(d.victim==1) && !(d.victim==2&&N9 d.how)) 14
        (cond (bX d.how && !btw d.fielder 1 11 || !bX d.how && !(d.fielder==0)) 15
          (cond (!(d.second==0)&&(!(d.how==6) || !btw d.second 1 11||d.second==d.fielder)) 15
            (cond (d.sub && !(d.how==2) && !(d.how==6)) 18 0))))))
def B9:Rows:=match Bz 0 [] with
 | some [.rows l]=>l
 | _=>[]
theorem QE {N:Nat}:Bz N []=some [.rows B9]:=rfl
theorem Zp:B9.length=11:=rfl
theorem XP {N:Nat} {h:Int} {n:ByteArray} {b:Bool} {c:Bool} {d:Bool} {e:Bool} {x:Bool} {t:Int}  : D4 N [.int h,.str n,.bool b,.bool c,.bool d,.bool e,.bool x,.int t]=some [.bool (t==1&&b||t==2&&c||t==3&&d)]:=by
 show GS (std (Mk N) N) (xOf _)=_;simp only [GS,lq9,std,xOf,PXb,PXc,PXn,PXm,Nat.reduceAdd,Int.reduceBEq]
theorem TZ {N:Nat} {n:Int}  : C2 N [.int n]=some [.bool (btw n 1 11)]:=by
 show Dv (std (Jt N) N) (xOf _)=_;simp only [Dv,lq9,std,xOf,PXb,PXc,PXn,PXm,Nat.reduceAdd,Int.reduceBEq];rfl
def nP (i j:Nat):Bool:=pvB (AB B9 i j)
def wOk (t:Int) (free:Bool) (i:Nat):Bool :=
  (t==1&&nP i 2||t==2&&nP i 3||t==3&&nP i 4)&&(!free||atI B9 i 0==6||atI B9 i 0==7||atI B9 i 0==8)
def IG (t:Int) (free:Bool):Nat→Rows
 | 0=>[]
 | i+1=>cond (wOk t free i) (IG t free i++[[.int (atI B9 i 0)]]) (IG t free i)
theorem Zt (t:Int) (free:Bool):∀ i,(IG t free i).length≤i
 | 0=>Nat.le_refl _
 | i+1=>by
  have:=Zt t free i;unfold IG;cases wOk t free i
  ·exact Nat.le_succ_of_le this
  ·simp;exact this
theorem Z8 {N:Nat} {t:Int} {f:Bool} (hN:2097152<N):FU N [.int t,.bool f]=some [.rows (IG t f 11)]:=by
 show IE (std (GO N) N) (xOf _)=_;simp only [IE,L0,LM,lq9,std,xOf,PXb,PXc,PXn,AG,QE,XP];refine Ac (CC (len:=B9.length) (fun i=>[.rows (IG t f i),.int (i:Int)]) [.rows (IG t f 11)] ?_ ?_ N (by rw [Zp];omega)) rfl
 ·intro self;simp only [PXb,PXc,PXn,AG,A7];rfl
 ·intro i self hi;have hi2:i<11:=hi;have h2:(IG t f i++[[PV.int (atI B9 i 0)]]).length≤4194304:=by have:=Zt t f i;simp;omega
  simp only [PXb,PXc,AG,A8 (show i≤1099511627776 by omega),Az hi,AP hi,Cg,IG,Gc h2 (show 1≤4096 by omega)];unfold wOk nP;cases ((t==1&&pvB (AB B9 i 2)||t==2&&pvB (AB B9 i 3)||t==3&&pvB (AB B9 i 4))&&(!f||atI B9 i 0==6||atI B9 i 0==7||atI B9 i 0==8))<;>rfl
theorem X5 {N:Nat} {L:Rows} {v:Int} (hN:L.length<N) (hl:L.length≤1048576):Dy N [.rows L,.int v]=some [.int (Pl (fun j=>v==atI L j 0) L.length)]:=by
 show GR (std (Mv N) N) (xOf _)=_;simp only [GR,lq9,std,xOf,PXb,PXc,PXn,AG];refine Ac (Co (len:=L.length) (Gh fun j=>v==atI L j 0) ?_ ?_ L.length 0 N (by omega) (by omega)) ?_
 ·intro self;simp only [PXb,PXc,PXn,AG,A7]
 ·intro i self hi;simp only [PXb,PXc,PXn,AG,A8 (show i≤1099511627776 by omega),Az hi,AP hi,Gh,Cg];cases v==atI L i 0<;>rfl
 ·unfold Pl;cases BO (Gh fun j=>v==atI L j 0) L.length 0<;>rfl
theorem UD {N:Nat} {L:Rows} {v:Int} (hN:L.length<N) (hl:L.length≤1048576):DE N [.rows L,.int v]=some [.bool (Km L L.length v)]:=by
 show EG (std (Fk N) N) (xOf _)=_;simp only [EG,Iv,lq9,std,xOf,PXb,PXc,PXn,AG,X5 hN hl,KX,Km]
theorem sV (L:Rows) (v:Int):Km L L.length v=Kp (fun x=>v==x) L:=rfl
theorem wS (p:Int→Bool) (b:Bool) (L:Rows) (x:Int):Kp p (cond b (L++[[.int x]]) L)=(Kp p L||(b&&p x)):=by
 cases b with
 | false=>simp
 | true=>rw [cond_true,kY,Bool.true_and];congr 1;rw [OV];simp [AA,pvI]
theorem j0 (t:Int) (free:Bool) (p:Int→Bool):∀ i,Kp p (IG t free i)=B1 (fun j=>wOk t free j&&p (atI B9 j 0)) i 0
 | 0=>rfl
 | i+1=>by rw [XC,← j0 t free p i,IG,wS,Nat.zero_add]
theorem sQ (t h:Int) (free:Bool):Km (IG t free 11) (IG t free 11).length h=(onS h t&&(!free||gm h)):=by
 rw [sV,j0];have key:∀ j,j<11→atI B9 j 0=j:=by
  intro j hj;have:j=0∨j=1∨j=2∨j=3∨j=4∨j=5∨j=6∨j=7∨j=8∨j=9∨j=10:=by omega
  rcases this with h | h | h | h | h | h | h | h | h | h | h<;>subst h<;>rfl
 by_cases hr:0≤h∧h≤10
 ·obtain ⟨k,rfl⟩:∃ k:Nat,h=k:=⟨h.toNat,by omega⟩;have:k=0∨k=1∨k=2∨k=3∨k=4∨k=5∨k=6∨k=7∨k=8∨k=9∨k=10:=by omega
  rcases this with h | h | h | h | h | h | h | h | h | h | h<;>subst h<;>simp only [CR,Jp,wOk,onS]<;>cases free<;>cases t==1<;>cases t==2<;>cases t==3<;>rfl
 ·rw [Eo.2 fun j _ hj=>by
   rw [key j (by omega),show (h==(j:Int))=false from beq_false_of_ne (by omega),Bool.and_false]]
  have e:∀ n:Int,0≤n→n≤10→(h==n)=false:=fun n h0 h1=>beq_false_of_ne (by omega)
  unfold onS;rw [e 1 (by omega) (by omega),e 2 (by omega) (by omega),e 3 (by omega) (by omega),e 4 (by omega) (by omega),e 5 (by omega) (by omega),e 6 (by omega) (by omega),e 7 (by omega) (by omega),e 8 (by omega) (by omega)];rfl
def VA (h:Int):List PV:=match BO (fun i=>cond (atI B9 i 0==h) (some [.int (pvI (AB B9 i 0)),.str (pvS (AB B9 i 1)),.bool (pvB (AB B9 i 2)),.bool (pvB (AB B9 i 3)),.bool (pvB (AB B9 i 4)),.bool (pvB (AB B9 i 5)),.bool (pvB (AB B9 i 6))]) none) 11 0 with
 | some r=>r
 | none=>[.int 0,.str ⟨#[]⟩,.bool false,.bool false,.bool false,.bool false,.bool false]
theorem Qt {ans:Nat→Option (List PV)} {r:List PV}:∀ (k i:Nat),BO ans k i=some r→∃ j,i≤j∧j<i+k∧ans j=some r
 | 0,i,h=>by cases h
 | k+1,i,h=>by
  simp only [BO] at h;cases ha:ans i with
  | some x=>rw [ha] at h;cases h;exact ⟨i,Nat.le_refl _,by omega,ha⟩
  | none =>
   rw [ha] at h;obtain ⟨j,h1,h2,h3⟩:=Qt k (i+1) h;exact ⟨j,by omega,by omega,h3⟩
theorem sJ (h:Int):∃ a b c d e f g,VA h=[.int a,.str b,.bool c,.bool d,.bool e,.bool f,.bool g]:=by
 unfold VA;generalize hf:BO _ 11 0=o;cases o with
 | none=>exact ⟨_,_,_,_,_,_,_,rfl⟩
 | some r =>
  obtain ⟨j,_,_,h3⟩:=Qt _ _ hf;cases hb:atI B9 j 0==h with
  | false=>rw [hb] at h3;cases h3
  | true=>rw [hb] at h3;cases h3;exact ⟨_,_,_,_,_,_,_,rfl⟩
theorem eg {N:Nat} {h:Int} (hN:2097152<N):Dm N [.int h]=some (VA h):=by
 show KU (std (L3 N) N) (xOf _)=_;simp only [KU,NV,lq9,std,xOf,PXb,PXc,PXn,AG,QE];refine Ac (Co (len:=B9.length) (fun i=>cond (atI B9 i 0==h) (some [.int (pvI (AB B9 i 0)),.str (pvS (AB B9 i 1)),.bool (pvB (AB B9 i 2)),.bool (pvB (AB B9 i 3)),.bool (pvB (AB B9 i 4)),.bool (pvB (AB B9 i 5)),.bool (pvB (AB B9 i 6))]) none) ?_ ?_ B9.length 0 N (by omega) (by rw [Zp];omega)) ?_
 ·intro self;simp only [PXb,PXc,PXn,AG,A7]
 ·intro i self hi;have hi2:i<11:=hi;simp only [PXb,PXc,PXn,AG,A8 (show i≤1099511627776 by omega),Az hi,AP hi,Cg];cases atI B9 i 0==h<;>rfl
 ·unfold VA;rw [Zp];generalize hf:BO _ 11 0=o;cases o with
  | none=>rfl
  | some r =>
   obtain ⟨j,_,_,h3⟩:=Qt _ _ hf;cases hb:atI B9 j 0==h with
   | false=>rw [hb] at h3;cases h3
   | true=>rw [hb] at h3;cases h3;rfl
theorem qf (h:Int):pvB (AA (VA h) 5)=bX h∧pvB (AA (VA h) 6)=N9 h:=by
 by_cases hr:0≤h∧h≤10
 ·obtain ⟨k,rfl⟩:∃ k:Nat,h=k:=⟨h.toNat,by omega⟩;have:k=0∨k=1∨k=2∨k=3∨k=4∨k=5∨k=6∨k=7∨k=8∨k=9∨k=10:=by omega
  rcases this with h | h | h | h | h | h | h | h | h | h | h<;>subst h<;>exact ⟨rfl,rfl⟩
 ·have e:∀ n:Int,0≤n→n≤10→(h==n)=false:=fun n h0 h1=>beq_false_of_ne (by omega)
  have key:∀ j,j<11→atI B9 j 0=j:=by
   intro j hj;have:j=0∨j=1∨j=2∨j=3∨j=4∨j=5∨j=6∨j=7∨j=8∨j=9∨j=10:=by omega
   rcases this with h | h | h | h | h | h | h | h | h | h | h<;>subst h<;>rfl
  unfold VA;generalize hf:BO _ 11 0=o;cases o with
  | none =>
   unfold bX N9;rw [e 2 (by omega) (by omega),e 4 (by omega) (by omega),e 6 (by omega) (by omega),e 8 (by omega) (by omega)];exact ⟨rfl,rfl⟩
  | some r =>
   obtain ⟨j,_,hj,h3⟩:=Qt _ _ hf;rw [key j (by omega),show ((j:Int)==h)=false from beq_false_of_ne (by omega)] at h3;cases h3
def PX (d:Del) (m:Bool):Bool :=
 !(!(m==btw d.fielder 1 11) || !m && !(d.fielder==0))&&(d.second==0||d.how==6&&btw d.second 1 11 && !(d.second==d.fielder))
theorem VC {N:Nat} {d5 d10:Bool} {a:Int} {n:ByteArray} {b:Bool} {c:Bool} {e:Bool} {f:Bool} {g:Bool}  : DK N [.int d0,.int d1,.int d2,.int d3,.int d4,.bool d5,.int d6,.int d7,.int d8,.int d9,.bool d10,.int d11,.int a,.str n,.bool b,.bool c,.bool e,.bool f,.bool g]=some [.bool (PX (⟨d0,d1,d2,d3,d4,d5,d6,d7,d8,d9,d10,d11⟩:Del) f)]:=by
 show Ep (std (Gj N) N) (xOf _)=_;generalize hres:(some [.bool (PX (⟨d0,d1,d2,d3,d4,d5,d6,d7,d8,d9,d10,d11⟩:Del) f)]:Option (List PV))=RR;simp only [Ep,Hg,lq9,std,xOf,PXb,PXc,PXn,PXm,Nat.reduceAdd,Int.reduceBEq,TZ];subst hres;simp only [PX];cases d9==0<;>cases d6==6<;>cases f<;>cases btw d8 1 11<;>cases d8==0<;>first | rfl | (cases btw d9 1 11<;>rfl)
theorem w9 {α:Type} (a b:Bool) (x y:α):cond (a||b) x y=cond a x (cond b x y):=by cases a<;>rfl
theorem lh (d:Del) (m:Bool):(!PX d m)=((m && !btw d.fielder 1 11 || !m && !(d.fielder==0))||(!(d.second==0)&&(!(d.how==6) || !btw d.second 1 11||d.second==d.fielder))):=by
 unfold PX;cases hb:btw d.fielder 1 11<;>cases hf:d.fielder==0
 ·cases m<;>cases d.second==0<;>cases d.how==6<;>cases btw d.second 1 11<;>cases d.second==d.fielder<;>rfl
 ·cases m<;>cases d.second==0<;>cases d.how==6<;>cases btw d.second 1 11<;>cases d.second==d.fielder<;>rfl
 ·cases m<;>cases d.second==0<;>cases d.how==6<;>cases btw d.second 1 11<;>cases d.second==d.fielder<;>rfl
 ·rw [beq_iff_eq.1 hf] at hb;exact absurd hb (by decide)
theorem VQ {N:Nat} {d5 d10:Bool} {f:Bool} (hN:2097152<N):DM N [.int d0,.int d1,.int d2,.int d3,.int d4,.bool d5,.int d6,.int d7,.int d8,.int d9,.bool d10,.int d11,.bool f]=some [.int (QZ (⟨d0,d1,d2,d3,d4,d5,d6,d7,d8,d9,d10,d11⟩:Del) f)]:=by
 show Em (std (CO N) N) (xOf _)=_;generalize hres:(some [.int (QZ (⟨d0,d1,d2,d3,d4,d5,d6,d7,d8,d9,d10,d11⟩:Del) f)]:Option (List PV))=RR;have hl:=Zt d0 f 11;obtain ⟨a,b,c,d,e,m,g,hline⟩:=sJ d6;have hbits:=qf d6;rw [hline] at hbits;have hm:m=bX d6:=hbits.1;have hg:g=N9 d6:=hbits.2;have h1:(IG d0 f 11).length<N:=by omega
 have h2:(IG d0 f 11).length≤1048576:=by omega
 simp only [Em,K2,ID,Ke,Ii,lq9,std,xOf,PXb,PXc,PXn,PXm,Nat.reduceAdd,Int.reduceBEq,eg hN,hline,Z8 hN,UD h1 h2,sQ,VC,lh];subst hres;simp only [QZ,w9];rw [hm,hg];unfold N9;cases d6==0<;>cases onS d6 d0<;>cases f<;>cases gm d6<;>try rfl
 all_goals (cases d6==6<;>cases d6==8<;>cases d7==2<;>rfl)
theorem Xc {N:Nat} {a:Int} {b:Int} {c:Int}  : Dx N [.int a,.int b,.int c]=some [.bool (btw a b c)]:=by
 show J2 (std (Mt N) N) (xOf _)=_;show some [PV.bool (cond (iLe b a) (iLe a c) false)]=_;rw [cY];rfl
theorem aV {N:Nat} {a:Int} {b:Int} {c:Int}  : Ga N [.int a,.int b,.int c]=some [.bool (btw a b c)]:=by
 show NI (std (QQ N) N) (xOf _)=_;show some [PV.bool (cond (iLe b a) (iLe a c) false)]=_;rw [cY];rfl
def hG (d:Del):Int :=
  cond (iLt d.type 1||iLt 3 d.type||iLt 3 d.source||iLt 10 d.how) 3
    (cond (!btw d.runs 0 7 || !btw d.short 0 d.runs||(!(d.boundary==0) && !(d.boundary==4) && !(d.boundary==6)) || !btw d.victim 0 2 || !btw d.fielder 0 11 || !btw d.second 0 11 || !btw d.sector 0 8) 2 0)
theorem Zl {N:Nat} {d5 d10:Bool}  : FG N [.int d0,.int d1,.int d2,.int d3,.int d4,.bool d5,.int d6,.int d7,.int d8,.int d9,.bool d10,.int d11]=some [.int (hG (⟨d0,d1,d2,d3,d4,d5,d6,d7,d8,d9,d10,d11⟩:Del))]:=by
 show IB (std (Jk N) N) (xOf _)=_;generalize hres:(some [.int (hG (⟨d0,d1,d2,d3,d4,d5,d6,d7,d8,d9,d10,d11⟩:Del))]:Option (List PV))=RR;simp only [IB,K8,lq9,std,xOf,PXb,PXc,PXn,PXm,Nat.reduceAdd,Int.reduceBEq,Xc];subst hres;simp only [hG]
def loS (k:Int):Int:=cond (k==7) 0 (cond (k==13) 1 0)
def hiS (k:Int):Int:=cond (k==7) 11 (cond (k==13) 99 100000)
theorem eG {N:Nat} {k:Int}  : HG N [.int k]=some [.int (loS k),.int (hiS k)]:=by
 show KY (std (Rv N) N) (xOf _)=_;simp only [KY,lq9,std,xOf,PXb,PXc,PXn,PXm,Nat.reduceAdd,Int.reduceBEq];unfold loS hiS;cases k==7<;>cases k==13<;>rfl
def uS (k:Int):Bool:=k==1||k==12||k==14||k==11||k==13
def uP (k:Int):Bool:=k==2||k==3||k==8||k==5||k==6||k==9
def uO (k:Int):Bool:=k==2
def uY (k:Int):Bool:=k==1||k==12||k==14||k==5||k==6||k==9
def uR (k:Int):Bool:=k==7||k==13||k==15
def uV (k:Int):Bool:=k==15
def uB (k:Int):Bool:=k==4
theorem dq {k:Int} (h:(iLt k 1||iLt 16 k)=false):k=1∨k=2∨k=3∨k=4∨k=5∨k=6∨k=7∨k=8∨k=9∨k=10∨k=11∨k=12∨k=13∨k=14∨k=15∨k=16:=by
 simp only [iLt,Bool.or_eq_false_iff,decide_eq_false_iff_not] at h;omega
def o6:Rows:=match Fo 0 [] with
 | some [.rows l]=>l
 | _=>[]
theorem gV {N:Nat}:Fo N []=some [.rows o6]:=rfl
def DY (k f:Int):Bool:=iLe 0 (Lib.indexByte (pvS (AB o6 (IntKind.u8.wrap (k - 1)).toNat 1)).data.toList f.toNat.toUInt8)||(k==5&&f==121)
theorem Wq {N:Nat} {s:ByteArray} {f:Int}  : Dk N [.str s,.int f]=some [.int (Lib.indexByte s.data.toList f.toNat.toUInt8)]:=by
 show Fa (std (G9 N) N) (xOf _)=_;simp only [Fa,Hf,lq9,std,xOf,PXb,PXc,PXn,PXm,Nat.reduceAdd,Int.reduceBEq,Ck,bK]
theorem Xu {N:Nat} {k:Int} {f:Int} (h:(iLt k 1||iLt 16 k)=false):JX N [.int k,.int f]=some [.bool (DY k f)]:=by
 show NN (std (KJ N) N) (xOf _)=_;have hi:iIn (IntKind.u8.wrap (k - 1)) (o6.length:Int)=true:=by
  rcases dq h with h | h | h | h | h | h | h | h | h | h | h | h | h | h | h | h<;>subst h<;>rfl
 simp only [NN,NW,RQ,lq9,std,xOf,PXb,PXc,PXn,PXm,Nat.reduceAdd,Int.reduceBEq,gV,Wq,hi,DY]
theorem vu {k:Int} (h:(iLt k 1||iLt 16 k)=false):DY k 115=uS k∧DY k 112=uP k∧DY k 111=uO k∧DY k 121=uY k∧DY k 114=uR k∧DY k 118=uV k∧DY k 98=uB k:=by
 rcases dq h with h | h | h | h | h | h | h | h | h | h | h | h | h | h | h | h<;>subst h<;>exact ⟨rfl,rfl,rfl,rfl,rfl,rfl,rfl⟩
def oI (d:Del):Bool:=d.type==0&&(d.source==0&&(d.runs==0&&(d.short==0&&(d.boundary==0&&(d.crossed==false&&(d.how==0&&(d.victim==0&&(d.fielder==0&&(d.second==0&&(d.sub==false&&d.sector==0))))))))))
def kd (e:Ev):Bool:=(!(e.side==0) && !uS e.kind)||((!(e.player==0) && !uP e.kind)||((!(e.other==0) && !uO e.kind)||((e.yes && !uY e.kind)||((!(e.runs==0) && !uR e.kind)||((!(e.overs==0) && !uV e.kind)||(!oI e.ball && !uB e.kind))))))
def Za (e:Ev):Bool:=(!btw e.side 1 2&&uS e.kind)||((!btw e.player 1 11&&uP e.kind)||((!btw e.other 1 11&&uO e.kind)||((!btw e.runs (loS e.kind) (hiS e.kind)&&uR e.kind)||(!btw e.overs 0 90&&uV e.kind))))
def evS (e:Ev):Int:=cond (iLt e.kind 1||iLt 16 e.kind) 3 (cond (kd e) 1 (cond (Za e) 2 (cond (e.kind==4) (hG e.ball) 0)))
def evT (e:Ev):Rows:=[[.int 115,.bool (e.side==0),.bool (btw e.side 1 2)],[.int 112,.bool (e.player==0),.bool (btw e.player 1 11)],[.int 111,.bool (e.other==0),.bool (btw e.other 1 11)],[.int 121,.bool (!e.yes),.bool true],[.int 114,.bool (e.runs==0),.bool (btw e.runs (loS e.kind) (hiS e.kind))],[.int 118,.bool (e.overs==0),.bool (btw e.overs 0 90)],[.int 98,.bool (oI e.ball),.bool true]]
theorem WP {N:Nat} {e4 e12 e17:Bool} (hN:2097152<N):DR N [.int e0,.int e1,.int e2,.int e3,.bool e4,.int e5,.int e6,.int e7,.int e8,.int e9,.int e10,.int e11,.bool e12,.int e13,.int e14,.int e15,.int e16,.bool e17,.int e18]=some [.int (evS (⟨e0,e1,e2,e3,e4,e5,e6,⟨e7,e8,e9,e10,e11,e12,e13,e14,e15,e16,e17,e18⟩⟩:Ev))]:=by
 show IV (std (EF N) N) (xOf _)=_;generalize hres:(some [.int (evS (⟨e0,e1,e2,e3,e4,e5,e6,⟨e7,e8,e9,e10,e11,e12,e13,e14,e15,e16,e17,e18⟩⟩:Ev))]:Option (List PV))=RR;cases hk:iLt e0 1||iLt 16 e0 with
 | true =>
  simp only [IV,IJ,Hk,JW,Dn,lq9,std,xOf,PXb,PXc,AG,hk,← hres,evS]
 | false =>
  simp only [IV,IJ,Hk,JW,Dn,lq9,std,xOf,PXb,PXc,AG,hk,eG,aV];subst hres;obtain ⟨g1,g2,g3,g4,g5,g6,g7⟩:=vu hk;refine Ac (L9 (len:=7) (fun i => !pvB (AB (evT (⟨e0,e1,e2,e3,e4,e5,e6,⟨e7,e8,e9,e10,e11,e12,e13,e14,e15,e16,e17,e18⟩⟩:Ev)) i 1) && !DY e0 (pvI (AB (evT (⟨e0,e1,e2,e3,e4,e5,e6,⟨e7,e8,e9,e10,e11,e12,e13,e14,e15,e16,e17,e18⟩⟩:Ev)) i 0))) [.int 1] ?_ ?_ N (by omega)) ?_
  ·intro self;rfl
  ·intro i self hi;simp only [PXb,PXc,AG,A8 (show i≤1099511627776 by omega),List.length_cons,List.length_nil,Nat.reduceAdd,Az hi,AP hi,Xu hk];change cond (!pvB (AB (evT (⟨e0,e1,e2,e3,e4,e5,e6,⟨e7,e8,e9,e10,e11,e12,e13,e14,e15,e16,e17,e18⟩⟩:Ev)) i 1) && !(!pvB (AB (evT (⟨e0,e1,e2,e3,e4,e5,e6,⟨e7,e8,e9,e10,e11,e12,e13,e14,e15,e16,e17,e18⟩⟩:Ev)) i 1)&&DY e0 (pvI (AB (evT (⟨e0,e1,e2,e3,e4,e5,e6,⟨e7,e8,e9,e10,e11,e12,e13,e14,e15,e16,e17,e18⟩⟩:Ev)) i 0)))) _ _=_;cases pvB (AB (evT (⟨e0,e1,e2,e3,e4,e5,e6,⟨e7,e8,e9,e10,e11,e12,e13,e14,e15,e16,e17,e18⟩⟩:Ev)) i 1)<;>rfl
  ·have a1:B1 (fun i => !pvB (AB (evT (⟨e0,e1,e2,e3,e4,e5,e6,⟨e7,e8,e9,e10,e11,e12,e13,e14,e15,e16,e17,e18⟩⟩:Ev)) i 1) && !DY e0 (pvI (AB (evT (⟨e0,e1,e2,e3,e4,e5,e6,⟨e7,e8,e9,e10,e11,e12,e13,e14,e15,e16,e17,e18⟩⟩:Ev)) i 0))) 7 0=kd (⟨e0,e1,e2,e3,e4,e5,e6,⟨e7,e8,e9,e10,e11,e12,e13,e14,e15,e16,e17,e18⟩⟩:Ev):=by
    simp only [CR,Jp];change (!(e1==0) && !DY e0 115||(!(e2==0) && !DY e0 112||(!(e3==0) && !DY e0 111||(!(!e4) && !DY e0 121||(!(e5==0) && !DY e0 114||(!(e6==0) && !DY e0 118||(!(oI (⟨e0,e1,e2,e3,e4,e5,e6,⟨e7,e8,e9,e10,e11,e12,e13,e14,e15,e16,e17,e18⟩⟩:Ev).ball) && !DY e0 98||false)))))))=_;rw [g1,g2,g3,g4,g5,g6,g7,Bool.not_not,Bool.or_false];rfl
   rw [a1];simp only [evS,hk,cond_false];cases kd (⟨e0,e1,e2,e3,e4,e5,e6,⟨e7,e8,e9,e10,e11,e12,e13,e14,e15,e16,e17,e18⟩⟩:Ev) with
   | true=>rfl
   | false =>
    simp only [PXb,PXc,AG];refine Ac (L9 (len:=7) (fun i => !pvB (AB (evT (⟨e0,e1,e2,e3,e4,e5,e6,⟨e7,e8,e9,e10,e11,e12,e13,e14,e15,e16,e17,e18⟩⟩:Ev)) i 2)&&DY e0 (pvI (AB (evT (⟨e0,e1,e2,e3,e4,e5,e6,⟨e7,e8,e9,e10,e11,e12,e13,e14,e15,e16,e17,e18⟩⟩:Ev)) i 0))) [.int 2] ?_ ?_ N (by omega)) ?_
    ·intro self;rfl
    ·intro i self hi;simp only [PXb,PXc,AG,A8 (show i≤1099511627776 by omega),List.length_cons,List.length_nil,Nat.reduceAdd,Az hi,AP hi,Xu hk];rfl
    ·have a2:B1 (fun i => !pvB (AB (evT (⟨e0,e1,e2,e3,e4,e5,e6,⟨e7,e8,e9,e10,e11,e12,e13,e14,e15,e16,e17,e18⟩⟩:Ev)) i 2)&&DY e0 (pvI (AB (evT (⟨e0,e1,e2,e3,e4,e5,e6,⟨e7,e8,e9,e10,e11,e12,e13,e14,e15,e16,e17,e18⟩⟩:Ev)) i 0))) 7 0=Za (⟨e0,e1,e2,e3,e4,e5,e6,⟨e7,e8,e9,e10,e11,e12,e13,e14,e15,e16,e17,e18⟩⟩:Ev):=by
      simp only [CR,Jp];change (!(btw e1 1 2)&&DY e0 115||(!(btw e2 1 11)&&DY e0 112||(!(btw e3 1 11)&&DY e0 111||(!true&&DY e0 121||(!(btw e5 (loS e0) (hiS e0))&&DY e0 114||(!(btw e6 0 90)&&DY e0 118||(!true&&DY e0 98||false)))))))=_;rw [g1,g2,g3,g4,g5,g6,g7];simp only [Bool.not_true,Bool.false_and,Bool.false_or,Bool.or_false];rfl
     rw [a2];cases Za (⟨e0,e1,e2,e3,e4,e5,e6,⟨e7,e8,e9,e10,e11,e12,e13,e14,e15,e16,e17,e18⟩⟩:Ev) with
     | true=>rfl
     | false =>
      simp only [PXb,PXc,PXn,PXm,Nat.reduceAdd,Int.reduceBEq,Dn,Zl]
theorem c4 {c x x' y y':Bool} {a b d z z':Int} (h1:x=x') (h2:y=y') (h3:z=z'):(some [PV.int (cond c a (cond x b (cond y d z)))]:Option (List PV))=some [PV.int (cond c a (cond x' b (cond y' d z')))]:=by subst h1;subst h2;subst h3;rfl
structure Lens (s t:Inn):Prop where
 bt:t.batters.length=s.batters.length
 bd:t.bowled.length=s.bowled.length
 sb:t.subs.length=s.subs.length
 bw:t.bowlers.length≤s.bowlers.length+1
 bf:t.before.length≤s.before.length+s.bowlers.length+1
theorem Lens.refl (s:Inn):Lens s s:=⟨rfl,rfl,rfl,by omega,by omega⟩
theorem P_c {α:Type} {P:α→Prop} (b:Bool) (x y:α) (hx:P x) (hy:P y):P (cond b x y):=by cases b<;>assumption
theorem kl (s:Inn) (d:Del):Lens s (Ag s d):=by
 have hb:∀ (b:Bool),(cond b (DN s.batters s.striker 2) s.batters).length=s.batters.length:=fun b=>by cases b<;>simp [EP]
 have hc:∀ (b:Bool),(cond b (DN s.batters s.other 2) s.batters).length=s.batters.length:=fun b=>by cases b<;>simp [EP]
 unfold Ag;cases (!(d.runs.tmod 2==0) != d.crossed)<;>refine P_c _ _ _ ⟨hb _,rfl,rfl,?_,?_⟩ (P_c _ _ _ ⟨hc _,rfl,rfl,?_,?_⟩ ⟨rfl,rfl,rfl,?_,?_⟩)<;>simp<;>omega
theorem fE (r:Rul) (s:Inn) (c:Bool):Lens s (Aq r s c).1:=by
 have hl:(cond (Km s.bowlers s.bowlers.length s.bowler) s.bowlers (s.bowlers++[[.int s.bowler]])).length≤s.bowlers.length+1:=by
  cases Km s.bowlers s.bowlers.length s.bowler<;>simp
 have hd:(cond c (DN s.bowled s.bowler (inc (atI s.bowled (ix s.bowler) 0))) s.bowled).length=s.bowled.length:=by cases c<;>simp [EP]
 unfold Aq;refine P_c (P:=fun x:Inn×Bool=>Lens s x.1) _ _ _ (Lens.refl s) (P_c (P:=fun x:Inn×Bool=>Lens s x.1) _ _ _ ⟨rfl,hd,rfl,hl,by simp;omega⟩ ⟨rfl,hd,rfl,by simp,?_⟩);simp only;omega
def bM (a b c d:Int):Int:=cond (!(a==0)) a (cond (!(b==0)) b (cond (!(c==0)) c (cond (!(d==0)) d 0)))
def G7 (r:Rul) (s:Inn) (d:Del):Int :=
 cond (E7 s.batters s.striker s.other) 6 (cond (s.bowler==0) 7 (bM (RA r s) (Db d) (QZ d s.freehit) (R9 s d)))
theorem Ye {N:Nat} {r8:Bool} {r0:ByteArray} {r13:Rows} {s18 s20:Bool} {d5 d10:Bool} (h:Fit s14 s16 s17 s19 s24) (hN:2097152<N) (h13:r13.length≤1048576):Ej N [.str r0,.int r1,.int r2,.int r3,.int r4,.int r5,.int r6,.int r7,.bool r8,.int r9,.int r10,.int r11,.int r12,.rows r13,.int s0,.int s1,.int s2,.int s3,.int s4,.int s5,.int s6,.int s7,.int s8,.int s9,.int s10,.int s11,.int s12,.int s13,.rows s14,.int s15,.rows s16,.rows s17,.bool s18,.rows s19,.bool s20,.int s21,.int s22,.int s23,.rows s24,.int s25,.int s26,.int s27,.int d0,.int d1,.int d2,.int d3,.int d4,.bool d5,.int d6,.int d7,.int d8,.int d9,.bool d10,.int d11]=some [.int (G7 (⟨r0,r1,r2,r3,r4,r5,r6,r7,r8,r9,r10,r11,r12,r13⟩:Rul) (⟨s0,s1,s2,s3,s4,s5,s6,s7,s8,s9,s10,s11,s12,s13,s14,s15,s16,s17,s18,s19,s20,s21,s22,s23,s24,s25,s26,s27⟩:Inn) (⟨d0,d1,d2,d3,d4,d5,d6,d7,d8,d9,d10,d11⟩:Del))]:=by
 show G1 (std (CU N) N) (xOf _)=_;generalize hres:(some [.int (G7 (⟨r0,r1,r2,r3,r4,r5,r6,r7,r8,r9,r10,r11,r12,r13⟩:Rul) (⟨s0,s1,s2,s3,s4,s5,s6,s7,s8,s9,s10,s11,s12,s13,s14,s15,s16,s17,s18,s19,s20,s21,s22,s23,s24,s25,s26,s27⟩:Inn) (⟨d0,d1,d2,d3,d4,d5,d6,d7,d8,d9,d10,d11⟩:Del))]:Option (List PV))=RR;simp only [G1,MC,Mg,Nk,Jc,Nm,lq9,std,xOf,PXb,Sh h.bt hN,gW h hN h13,SH,VQ hN,gh h];subst hres;simp only [G7];cases E7 s14 s12 s13<;>try rfl
 cases s15==0<;>try rfl
 simp only [PXb];generalize RA (⟨r0,r1,r2,r3,r4,r5,r6,r7,r8,r9,r10,r11,r12,r13⟩:Rul) (⟨s0,s1,s2,s3,s4,s5,s6,s7,s8,s9,s10,s11,s12,s13,s14,s15,s16,s17,s18,s19,s20,s21,s22,s23,s24,s25,s26,s27⟩:Inn)=a;generalize Db (⟨d0,d1,d2,d3,d4,d5,d6,d7,d8,d9,d10,d11⟩:Del)=b;generalize QZ (⟨d0,d1,d2,d3,d4,d5,d6,d7,d8,d9,d10,d11⟩:Del) s20=c;generalize R9 (⟨s0,s1,s2,s3,s4,s5,s6,s7,s8,s9,s10,s11,s12,s13,s14,s15,s16,s17,s18,s19,s20,s21,s22,s23,s24,s25,s26,s27⟩:Inn) (⟨d0,d1,d2,d3,d4,d5,d6,d7,d8,d9,d10,d11⟩:Del)=e;refine Ac (Co (len:=4) (fun i=>cond (!(atI [[.int a],[.int b],[.int c],[.int e]] i 0==0)) (some [.int (atI [[.int a],[.int b],[.int c],[.int e]] i 0)]) none) ?_ ?_ 4 0 N (by omega) (by omega)) ?_
 ·intro self;rfl
 ·intro i self hi;simp only [PXb,A8 (show i≤1099511627776 by omega),List.length_cons,List.length_nil,Nat.reduceAdd,Az hi,AP hi,Cg];cases atI [[.int a],[.int b],[.int c],[.int e]] i 0==0<;>rfl
 ·refine (dT _).trans (congrArg (fun z=>some [PV.int z]) ?_);unfold bM;simp only [BO];rw [show atI [[.int a],[.int b],[.int c],[.int e]] 0 0=a from rfl,show atI [[.int a],[.int b],[.int c],[.int e]] (0+1) 0=b from rfl,show atI [[.int a],[.int b],[.int c],[.int e]] (0+1+1) 0=c from rfl,show atI [[.int a],[.int b],[.int c],[.int e]] (0+1+1+1) 0=e from rfl];cases a==0<;>try rfl
  cases b==0<;>try rfl
  cases c==0<;>try rfl
  cases e==0<;>rfl
theorem RZ {s t:Inn} (l:Lens s t) (h:s.Fit) (hw:s.before.length+s.bowlers.length≤1048575):t.Fit:=⟨l.bt▸h.bt,by have:=l.bw;omega,by have:=l.bf;omega,l.bd▸h.bd,l.sb▸h.sb⟩
theorem pL (s:Inn) (d:Del):(Ag s d).bowlers=s.bowlers:=by
 unfold Ag;cases (!(d.runs.tmod 2==0) != d.crossed)<;>exact P_c (P:=fun x:Inn=>x.bowlers=s.bowlers) _ _ _ rfl (P_c (P:=fun x:Inn=>x.bowlers=s.bowlers) _ _ _ rfl rfl)
theorem qh (s:Inn) (d:Del):(Ag s d).before=s.before:=by
 unfold Ag;cases (!(d.runs.tmod 2==0) != d.crossed)<;>exact P_c (P:=fun x:Inn=>x.before=s.before) _ _ _ rfl (P_c (P:=fun x:Inn=>x.before=s.before) _ _ _ rfl rfl)
@[reducible] def Xi (t:Inn) (a b e f g:Int):Inn:=⟨t.side,t.target,t.overs,a,t.wickets,b,e,f,g,t.pens,t.complete,t.inover,t.striker,t.other,t.batters,t.bowler,t.bowlers,t.before,t.fresh,t.bowled,t.freehit,t.ballage,t.keeper,t.outside,t.subs,t.rev1,t.rev2,t.ending⟩
def KZ (r:Rul) (s:Inn) (d:Del):Inn×Int :=
  cond (!(G7 r s d==0)) (s,G7 r s d)
    (let c:=AE r d
     let t:=Ag s d
     let o:=Aq r (Xi t (IntKind.i64.wrap (t.runs+B8 c)) (IntKind.i64.wrap (t.wides+c.wides)) (IntKind.i64.wrap (t.noballs+c.noballs)) (IntKind.i64.wrap (t.byes+c.byes)) (IntKind.i64.wrap (t.legbyes+c.legbyes))) c.counts
     let t:Inn:=cond o.2 (Iq o.1) o.1
     ({ t with freehit:=cond (d.type==1) false (cond (d.type==3&&r.freehit) true o.1.freehit) },0))
theorem ed {N:Nat} {r8:Bool} {r0:ByteArray} {r13:Rows} {s18 s20:Bool} {d5 d10:Bool} (h:Fit s14 s16 s17 s19 s24) (hw:s17.length+s16.length≤1000000) (hN:2097152<N) (hs:r0.size≤1048576) (h13:r13.length≤1048576):HC N [.str r0,.int r1,.int r2,.int r3,.int r4,.int r5,.int r6,.int r7,.bool r8,.int r9,.int r10,.int r11,.int r12,.rows r13,.int s0,.int s1,.int s2,.int s3,.int s4,.int s5,.int s6,.int s7,.int s8,.int s9,.int s10,.int s11,.int s12,.int s13,.rows s14,.int s15,.rows s16,.rows s17,.bool s18,.rows s19,.bool s20,.int s21,.int s22,.int s23,.rows s24,.int s25,.int s26,.int s27,.int d0,.int d1,.int d2,.int d3,.int d4,.bool d5,.int d6,.int d7,.int d8,.int d9,.bool d10,.int d11]=some (BV (KZ (⟨r0,r1,r2,r3,r4,r5,r6,r7,r8,r9,r10,r11,r12,r13⟩:Rul) (⟨s0,s1,s2,s3,s4,s5,s6,s7,s8,s9,s10,s11,s12,s13,s14,s15,s16,s17,s18,s19,s20,s21,s22,s23,s24,s25,s26,s27⟩:Inn) (⟨d0,d1,d2,d3,d4,d5,d6,d7,d8,d9,d10,d11⟩:Del))):=by
 show KH (std (CB N) N) (xOf _)=_;generalize hres:(some (BV (KZ (⟨r0,r1,r2,r3,r4,r5,r6,r7,r8,r9,r10,r11,r12,r13⟩:Rul) (⟨s0,s1,s2,s3,s4,s5,s6,s7,s8,s9,s10,s11,s12,s13,s14,s15,s16,s17,s18,s19,s20,s21,s22,s23,s24,s25,s26,s27⟩:Inn) (⟨d0,d1,d2,d3,d4,d5,d6,d7,d8,d9,d10,d11⟩:Del))):Option (List PV))=RR;have l1:=kl (⟨s0,s1,s2,s3,s4,s5,s6,s7,s8,s9,s10,s11,s12,s13,s14,s15,s16,s17,s18,s19,s20,s21,s22,s23,s24,s25,s26,s27⟩:Inn) (⟨d0,d1,d2,d3,d4,d5,d6,d7,d8,d9,d10,d11⟩:Del);have f1:=RZ l1 h (by simp only;omega);have w1:(Ag (⟨s0,s1,s2,s3,s4,s5,s6,s7,s8,s9,s10,s11,s12,s13,s14,s15,s16,s17,s18,s19,s20,s21,s22,s23,s24,s25,s26,s27⟩:Inn) (⟨d0,d1,d2,d3,d4,d5,d6,d7,d8,d9,d10,d11⟩:Del)).bowlers.length=s16.length:=congrArg List.length (pL _ _);have w2:(Ag (⟨s0,s1,s2,s3,s4,s5,s6,s7,s8,s9,s10,s11,s12,s13,s14,s15,s16,s17,s18,s19,s20,s21,s22,s23,s24,s25,s26,s27⟩:Inn) (⟨d0,d1,d2,d3,d4,d5,d6,d7,d8,d9,d10,d11⟩:Del)).before.length=s17.length:=congrArg List.length (qh _ _);have l2:=fun (x:Rul) (c:Bool) (a b e f g:Int)=>fE x (Xi (Ag (⟨s0,s1,s2,s3,s4,s5,s6,s7,s8,s9,s10,s11,s12,s13,s14,s15,s16,s17,s18,s19,s20,s21,s22,s23,s24,s25,s26,s27⟩:Inn) (⟨d0,d1,d2,d3,d4,d5,d6,d7,d8,d9,d10,d11⟩:Del)) a b e f g) c
 have f2:=fun (x:Rul) (c:Bool) (a b e f g:Int)=>RZ (l2 x c a b e f g) f1 (show (Ag (⟨s0,s1,s2,s3,s4,s5,s6,s7,s8,s9,s10,s11,s12,s13,s14,s15,s16,s17,s18,s19,s20,s21,s22,s23,s24,s25,s26,s27⟩:Inn) (⟨d0,d1,d2,d3,d4,d5,d6,d7,d8,d9,d10,d11⟩:Del)).before.length+(Ag (⟨s0,s1,s2,s3,s4,s5,s6,s7,s8,s9,s10,s11,s12,s13,s14,s15,s16,s17,s18,s19,s20,s21,s22,s23,s24,s25,s26,s27⟩:Inn) (⟨d0,d1,d2,d3,d4,d5,d6,d7,d8,d9,d10,d11⟩:Del)).bowlers.length≤1048575 by omega)
 simp only [KH,Mm,Nh,OU,M0,QW,Qi,OK,lq9,std,xOf,PXb,PXc,PXn,PXm,Nat.reduceAdd,Int.reduceBEq,Ye h hN h13,CV h,G3,iV h,RT,Cre.ls,kw f1 (show (Ag (⟨s0,s1,s2,s3,s4,s5,s6,s7,s8,s9,s10,s11,s12,s13,s14,s15,s16,s17,s18,s19,s20,s21,s22,s23,s24,s25,s26,s27⟩:Inn) (⟨d0,d1,d2,d3,d4,d5,d6,d7,d8,d9,d10,d11⟩:Del)).bowlers.length≤1048575 by omega) hN hs,rE,cD (f2 _ _ _ _ _ _ _)];subst hres;simp only [KZ,Xi];cases G7 (⟨r0,r1,r2,r3,r4,r5,r6,r7,r8,r9,r10,r11,r12,r13⟩:Rul) (⟨s0,s1,s2,s3,s4,s5,s6,s7,s8,s9,s10,s11,s12,s13,s14,s15,s16,s17,s18,s19,s20,s21,s22,s23,s24,s25,s26,s27⟩:Inn) (⟨d0,d1,d2,d3,d4,d5,d6,d7,d8,d9,d10,d11⟩:Del)==0 with
 | false=>rfl
 | true =>
  obtain ⟨o,ho⟩:∃ o,o=Aq (⟨r0,r1,r2,r3,r4,r5,r6,r7,r8,r9,r10,r11,r12,r13⟩:Rul) (Xi (Ag (⟨s0,s1,s2,s3,s4,s5,s6,s7,s8,s9,s10,s11,s12,s13,s14,s15,s16,s17,s18,s19,s20,s21,s22,s23,s24,s25,s26,s27⟩:Inn) (⟨d0,d1,d2,d3,d4,d5,d6,d7,d8,d9,d10,d11⟩:Del)) (IntKind.i64.wrap ((Ag (⟨s0,s1,s2,s3,s4,s5,s6,s7,s8,s9,s10,s11,s12,s13,s14,s15,s16,s17,s18,s19,s20,s21,s22,s23,s24,s25,s26,s27⟩:Inn) (⟨d0,d1,d2,d3,d4,d5,d6,d7,d8,d9,d10,d11⟩:Del)).runs+B8 (AE (⟨r0,r1,r2,r3,r4,r5,r6,r7,r8,r9,r10,r11,r12,r13⟩:Rul) (⟨d0,d1,d2,d3,d4,d5,d6,d7,d8,d9,d10,d11⟩:Del)))) (IntKind.i64.wrap ((Ag (⟨s0,s1,s2,s3,s4,s5,s6,s7,s8,s9,s10,s11,s12,s13,s14,s15,s16,s17,s18,s19,s20,s21,s22,s23,s24,s25,s26,s27⟩:Inn) (⟨d0,d1,d2,d3,d4,d5,d6,d7,d8,d9,d10,d11⟩:Del)).wides+(AE (⟨r0,r1,r2,r3,r4,r5,r6,r7,r8,r9,r10,r11,r12,r13⟩:Rul) (⟨d0,d1,d2,d3,d4,d5,d6,d7,d8,d9,d10,d11⟩:Del)).wides)) (IntKind.i64.wrap ((Ag (⟨s0,s1,s2,s3,s4,s5,s6,s7,s8,s9,s10,s11,s12,s13,s14,s15,s16,s17,s18,s19,s20,s21,s22,s23,s24,s25,s26,s27⟩:Inn) (⟨d0,d1,d2,d3,d4,d5,d6,d7,d8,d9,d10,d11⟩:Del)).noballs+(AE (⟨r0,r1,r2,r3,r4,r5,r6,r7,r8,r9,r10,r11,r12,r13⟩:Rul) (⟨d0,d1,d2,d3,d4,d5,d6,d7,d8,d9,d10,d11⟩:Del)).noballs)) (IntKind.i64.wrap ((Ag (⟨s0,s1,s2,s3,s4,s5,s6,s7,s8,s9,s10,s11,s12,s13,s14,s15,s16,s17,s18,s19,s20,s21,s22,s23,s24,s25,s26,s27⟩:Inn) (⟨d0,d1,d2,d3,d4,d5,d6,d7,d8,d9,d10,d11⟩:Del)).byes+(AE (⟨r0,r1,r2,r3,r4,r5,r6,r7,r8,r9,r10,r11,r12,r13⟩:Rul) (⟨d0,d1,d2,d3,d4,d5,d6,d7,d8,d9,d10,d11⟩:Del)).byes)) (IntKind.i64.wrap ((Ag (⟨s0,s1,s2,s3,s4,s5,s6,s7,s8,s9,s10,s11,s12,s13,s14,s15,s16,s17,s18,s19,s20,s21,s22,s23,s24,s25,s26,s27⟩:Inn) (⟨d0,d1,d2,d3,d4,d5,d6,d7,d8,d9,d10,d11⟩:Del)).legbyes+(AE (⟨r0,r1,r2,r3,r4,r5,r6,r7,r8,r9,r10,r11,r12,r13⟩:Rul) (⟨d0,d1,d2,d3,d4,d5,d6,d7,d8,d9,d10,d11⟩:Del)).legbyes))) (AE (⟨r0,r1,r2,r3,r4,r5,r6,r7,r8,r9,r10,r11,r12,r13⟩:Rul) (⟨d0,d1,d2,d3,d4,d5,d6,d7,d8,d9,d10,d11⟩:Del)).counts:=⟨_,rfl⟩;simp only [Xi,B8] at ho ⊢;simp only [← ho];obtain ⟨o1,o2⟩:=o;cases o2<;>cases d0==1<;>cases d0==3<;>cases r8<;>rfl
theorem kL (r:Rul) (s:Inn) (b:Bool) (a c d e f:Int):Aq r (Xi s a c d e f) b=(Xi (Aq r s b).1 a c d e f,(Aq r s b).2):=by
 unfold Aq Xi;simp only;cases (!inR s.bowler s.bowled.length || !(BL r==0)) with
 | true=>rfl
 | false =>
  simp only [cond_false];cases iLt (cond b (inc s.inover) s.inover) r.balls<;>rfl
def Jm (r:Rul) (s:Inn) (side:Int):Inn×Int:=cond (!(side==s.side)) (s,2) (cond (!(r.overs==0)) (s,20) ({ s with ending:=4 },0))
theorem Yq {N:Nat} {r8:Bool} {r0:ByteArray} {r13:Rows} {s18 s20:Bool} {e4 e12 e17:Bool} (h:Fit s14 s16 s17 s19 s24):Ec N [.str r0,.int r1,.int r2,.int r3,.int r4,.int r5,.int r6,.int r7,.bool r8,.int r9,.int r10,.int r11,.int r12,.rows r13,.int s0,.int s1,.int s2,.int s3,.int s4,.int s5,.int s6,.int s7,.int s8,.int s9,.int s10,.int s11,.int s12,.int s13,.rows s14,.int s15,.rows s16,.rows s17,.bool s18,.rows s19,.bool s20,.int s21,.int s22,.int s23,.rows s24,.int s25,.int s26,.int s27,.int e0,.int e1,.int e2,.int e3,.bool e4,.int e5,.int e6,.int e7,.int e8,.int e9,.int e10,.int e11,.bool e12,.int e13,.int e14,.int e15,.int e16,.bool e17,.int e18]=some (BV (Jm (⟨r0,r1,r2,r3,r4,r5,r6,r7,r8,r9,r10,r11,r12,r13⟩:Rul) (⟨s0,s1,s2,s3,s4,s5,s6,s7,s8,s9,s10,s11,s12,s13,s14,s15,s16,s17,s18,s19,s20,s21,s22,s23,s24,s25,s26,s27⟩:Inn) e1)):=by
 show Gt (std (Iz N) N) (xOf _)=_;generalize hres:(some (BV (Jm (⟨r0,r1,r2,r3,r4,r5,r6,r7,r8,r9,r10,r11,r12,r13⟩:Rul) (⟨s0,s1,s2,s3,s4,s5,s6,s7,s8,s9,s10,s11,s12,s13,s14,s15,s16,s17,s18,s19,s20,s21,s22,s23,s24,s25,s26,s27⟩:Inn) e1)):Option (List PV))=RR;simp only [Gt,Mi,lq9,std,xOf,PXb,PXc,PXn,PXm,Nat.reduceAdd,Int.reduceBEq,CV h];subst hres;simp only [Jm];cases e1==s0<;>cases r3==0<;>rfl
def J8 (s:Inn):Inn:={ s with runs:=IntKind.i64.wrap (s.runs+5),pens:=IntKind.i64.wrap (s.pens+5) }
theorem QD {N:Nat} {s18 s20:Bool} (h:Fit s14 s16 s17 s19 s24):CS N [.int s0,.int s1,.int s2,.int s3,.int s4,.int s5,.int s6,.int s7,.int s8,.int s9,.int s10,.int s11,.int s12,.int s13,.rows s14,.int s15,.rows s16,.rows s17,.bool s18,.rows s19,.bool s20,.int s21,.int s22,.int s23,.rows s24,.int s25,.int s26,.int s27]=some (J8 (⟨s0,s1,s2,s3,s4,s5,s6,s7,s8,s9,s10,s11,s12,s13,s14,s15,s16,s17,s18,s19,s20,s21,s22,s23,s24,s25,s26,s27⟩:Inn)).ls:=by
 show Gr (std (I0 N) N) (xOf _)=_;generalize hres:(some (J8 (⟨s0,s1,s2,s3,s4,s5,s6,s7,s8,s9,s10,s11,s12,s13,s14,s15,s16,s17,s18,s19,s20,s21,s22,s23,s24,s25,s26,s27⟩:Inn)).ls:Option (List PV))=RR;simp only [Gr,Mb,lq9,std,xOf,PXb,PXc,PXn,PXm,Nat.reduceAdd,Int.reduceBEq,CV h];subst hres;simp only [J8];rfl
def Gg (s:Inn) (side runs:Int):Inn×Int :=
 cond (!(runs==5)) (s,23) (cond (side==s.side) (J8 s,0) ({ s with target:=cond (iLt 0 s.target) (IntKind.i64.wrap (s.target+5)) s.target },0))
theorem Yi {N:Nat} {s18 s20:Bool} {e4 e12 e17:Bool} (h:Fit s14 s16 s17 s19 s24):EX N [.int s0,.int s1,.int s2,.int s3,.int s4,.int s5,.int s6,.int s7,.int s8,.int s9,.int s10,.int s11,.int s12,.int s13,.rows s14,.int s15,.rows s16,.rows s17,.bool s18,.rows s19,.bool s20,.int s21,.int s22,.int s23,.rows s24,.int s25,.int s26,.int s27,.int e0,.int e1,.int e2,.int e3,.bool e4,.int e5,.int e6,.int e7,.int e8,.int e9,.int e10,.int e11,.bool e12,.int e13,.int e14,.int e15,.int e16,.bool e17,.int e18]=some (BV (Gg (⟨s0,s1,s2,s3,s4,s5,s6,s7,s8,s9,s10,s11,s12,s13,s14,s15,s16,s17,s18,s19,s20,s21,s22,s23,s24,s25,s26,s27⟩:Inn) e1 e5)):=by
 show G5 (std (Fe N) N) (xOf _)=_;generalize hres:(some (BV (Gg (⟨s0,s1,s2,s3,s4,s5,s6,s7,s8,s9,s10,s11,s12,s13,s14,s15,s16,s17,s18,s19,s20,s21,s22,s23,s24,s25,s26,s27⟩:Inn) e1 e5)):Option (List PV))=RR;simp only [G5,Me,K1,lq9,std,xOf,PXb,PXc,PXn,PXm,Nat.reduceAdd,Int.reduceBEq,CV h,QD h];subst hres;simp only [Gg];cases e5==5<;>cases e1==s0<;>cases iLt 0 s1<;>rfl
def KB (r:Rul) (s:Inn) (side:Int) (yes:Bool):Inn×Int :=
 cond (!s.fresh||iLe r.reviews (cond (side==2) s.rev2 s.rev1)) (s,24) (cond (!yes) ({ s with rev1:=cond (side==1) (inc s.rev1) s.rev1,rev2:=cond (side==2) (inc s.rev2) s.rev2 },0) (s,0))
theorem wr1:IntKind.i64.wrap (1 - 1)=0:=rfl
theorem wr2:IntKind.i64.wrap (2 - 1)=1:=rfl
theorem jy:iIn 0 2=true:=rfl
theorem iQ:iIn 1 2=true:=rfl
theorem Zj {N:Nat} {r8:Bool} {r0:ByteArray} {r13:Rows} {s18 s20:Bool} {e4 e12 e17:Bool} (h:Fit s14 s16 s17 s19 s24) (he:e1=1∨e1=2):FA N [.str r0,.int r1,.int r2,.int r3,.int r4,.int r5,.int r6,.int r7,.bool r8,.int r9,.int r10,.int r11,.int r12,.rows r13,.int s0,.int s1,.int s2,.int s3,.int s4,.int s5,.int s6,.int s7,.int s8,.int s9,.int s10,.int s11,.int s12,.int s13,.rows s14,.int s15,.rows s16,.rows s17,.bool s18,.rows s19,.bool s20,.int s21,.int s22,.int s23,.rows s24,.int s25,.int s26,.int s27,.int e0,.int e1,.int e2,.int e3,.bool e4,.int e5,.int e6,.int e7,.int e8,.int e9,.int e10,.int e11,.bool e12,.int e13,.int e14,.int e15,.int e16,.bool e17,.int e18]=some (BV (KB (⟨r0,r1,r2,r3,r4,r5,r6,r7,r8,r9,r10,r11,r12,r13⟩:Rul) (⟨s0,s1,s2,s3,s4,s5,s6,s7,s8,s9,s10,s11,s12,s13,s14,s15,s16,s17,s18,s19,s20,s21,s22,s23,s24,s25,s26,s27⟩:Inn) e1 e4)):=by
 show FK (std (J3 N) N) (xOf _)=_;generalize hres:(some (BV (KB (⟨r0,r1,r2,r3,r4,r5,r6,r7,r8,r9,r10,r11,r12,r13⟩:Rul) (⟨s0,s1,s2,s3,s4,s5,s6,s7,s8,s9,s10,s11,s12,s13,s14,s15,s16,s17,s18,s19,s20,s21,s22,s23,s24,s25,s26,s27⟩:Inn) e1 e4)):Option (List PV))=RR
 rcases he with he | he<;>subst he
 ·simp only [FK,GZ,lq9,std,xOf,PXb,PXc,PXn,PXm,Nat.reduceAdd,Int.reduceBEq,CV h,wr1,wr2,jy,iQ];subst hres;simp only [KB,Int.reduceBEq,beq_self_eq_true,cond_true,cond_false];cases s18<;>cases e4<;>first | rfl | (cases iLe r11 s25<;>rfl)
 ·simp only [FK,GZ,lq9,std,xOf,PXb,PXc,PXn,PXm,Nat.reduceAdd,Int.reduceBEq,CV h,wr1,wr2,jy,iQ];subst hres;simp only [KB,Int.reduceBEq,beq_self_eq_true,cond_true,cond_false];cases s18<;>cases e4<;>first | rfl | (cases iLe r11 s26<;>rfl)
theorem cg {N:Nat} {r8:Bool} {r0:ByteArray} {r13:Rows} {s18 s20:Bool}  : GG N [.str r0,.int r1,.int r2,.int r3,.int r4,.int r5,.int r6,.int r7,.bool r8,.int r9,.int r10,.int r11,.int r12,.rows r13,.int s0,.int s1,.int s2,.int s3,.int s4,.int s5,.int s6,.int s7,.int s8,.int s9,.int s10,.int s11,.int s12,.int s13,.rows s14,.int s15,.rows s16,.rows s17,.bool s18,.rows s19,.bool s20,.int s21,.int s22,.int s23,.rows s24,.int s25,.int s26,.int s27]=some [.int (C0 r4 s10 s11)]:=by
 rfl
def MJ (r:Rul) (s:Inn) (runs overs:Int):Inn×Int :=
  cond (r.overs==0||(runs==0&&overs==0)) (s,25) (cond (iLt 0 runs&&(s.target==0||iLe runs s.runs)) (s,25)
    (cond (iLt 0 overs&&(iLt r.overs overs||iLt (IntKind.i64.wrap (overs * r.balls)) (C0 r.balls s.complete s.inover))) (s,25)
      ({ s with target:=cond (iLt 0 runs) runs s.target,overs:=cond (iLt 0 overs) overs s.overs },0)))
theorem ZY {N:Nat} {r8:Bool} {r0:ByteArray} {r13:Rows} {s18 s20:Bool} {e4 e12 e17:Bool} (h:Fit s14 s16 s17 s19 s24):FM N [.str r0,.int r1,.int r2,.int r3,.int r4,.int r5,.int r6,.int r7,.bool r8,.int r9,.int r10,.int r11,.int r12,.rows r13,.int s0,.int s1,.int s2,.int s3,.int s4,.int s5,.int s6,.int s7,.int s8,.int s9,.int s10,.int s11,.int s12,.int s13,.rows s14,.int s15,.rows s16,.rows s17,.bool s18,.rows s19,.bool s20,.int s21,.int s22,.int s23,.rows s24,.int s25,.int s26,.int s27,.int e0,.int e1,.int e2,.int e3,.bool e4,.int e5,.int e6,.int e7,.int e8,.int e9,.int e10,.int e11,.bool e12,.int e13,.int e14,.int e15,.int e16,.bool e17,.int e18]=some (BV (MJ (⟨r0,r1,r2,r3,r4,r5,r6,r7,r8,r9,r10,r11,r12,r13⟩:Rul) (⟨s0,s1,s2,s3,s4,s5,s6,s7,s8,s9,s10,s11,s12,s13,s14,s15,s16,s17,s18,s19,s20,s21,s22,s23,s24,s25,s26,s27⟩:Inn) e5 e6)):=by
 show IA (std (F5 N) N) (xOf _)=_;generalize hres:(some (BV (MJ (⟨r0,r1,r2,r3,r4,r5,r6,r7,r8,r9,r10,r11,r12,r13⟩:Rul) (⟨s0,s1,s2,s3,s4,s5,s6,s7,s8,s9,s10,s11,s12,s13,s14,s15,s16,s17,s18,s19,s20,s21,s22,s23,s24,s25,s26,s27⟩:Inn) e5 e6)):Option (List PV))=RR;simp only [IA,NJ,Mw,lq9,std,xOf,PXb,PXc,PXn,PXm,Nat.reduceAdd,Int.reduceBEq,CV h,cg];subst hres;simp only [MJ];cases (r3==0||e5==0&&e6==0)<;>try rfl
 cases (iLt 0 e5&&(s1==0||iLe e5 s3))<;>try rfl
 cases iLt 0 e6<;>cases iLt r3 e6<;>try rfl
 simp only [PXb,PXc,PXn,PXm,Nat.reduceAdd,Int.reduceBEq];cases iLt (IntKind.i64.wrap (e6 * r4)) (C0 r4 s10 s11)<;>rfl
def Ar (r:Rul) (s:Inn) (e:Ev):Inn×Int :=
  cond (e.kind==2) (I5 s e.player e.other) (cond (e.kind==3) (S8 r s e.player) (cond (e.kind==4) (KZ r s e.ball)
    (cond (e.kind==5) (cond e.yes (DA s e.player) (GE s e.player)) (cond (e.kind==6) (Dq s e.player e.yes) (cond (e.kind==7) (Ja s e.runs)
      (cond (e.kind==8) (MH s e.player) (cond (e.kind==9) (PS s e.player e.yes) (cond (e.kind==10) (JV r s) (cond (e.kind==11) (Jm r s e.side)
        (cond (e.kind==13) (Gg s e.side e.runs) (cond (e.kind==14) (KB r s e.side e.yes) (MJ r s e.runs e.overs))))))))))))
theorem ef {e:Ev} (h:(evS e==0)=true):(iLt e.kind 1||iLt 16 e.kind)=false:=by
 unfold evS at h;cases hk:(iLt e.kind 1||iLt 16 e.kind) with
 | false=>rfl
 | true=>rw [hk] at h;cases h
theorem uf {e:Ev} (h:(evS e==0)=true) (hk:e.kind=14):e.side=1∨e.side=2:=by
 have h0:=ef h;unfold evS at h;rw [h0] at h;cases h1:kd e with
 | true=>rw [h1] at h;cases h
 | false =>
  cases h2:Za e with
  | true=>rw [h1,h2] at h;cases h
  | false =>
   unfold Za at h2;rw [Bool.or_eq_false_iff] at h2;have h3:=h2.1;rw [hk,show uS 14=true from rfl,Bool.and_true] at h3;simp only [btw,iLe,Bool.not_eq_false',zzj,decide_eq_true_eq] at h3;omega
set_option maxHeartbeats 4000000 in
theorem Ys {N:Nat} {r8:Bool} {r0:ByteArray} {r13:Rows} {s18 s20:Bool} {e4 e12 e17:Bool} (h:Fit s14 s16 s17 s19 s24) (hw:s17.length+s16.length≤1000000) (hN:2097152<N) (hs:r0.size≤1048576) (h13:r13.length≤1048576) (he:(evS (⟨e0,e1,e2,e3,e4,e5,e6,⟨e7,e8,e9,e10,e11,e12,e13,e14,e15,e16,e17,e18⟩⟩:Ev)==0)=true):Ea N [.str r0,.int r1,.int r2,.int r3,.int r4,.int r5,.int r6,.int r7,.bool r8,.int r9,.int r10,.int r11,.int r12,.rows r13,.int s0,.int s1,.int s2,.int s3,.int s4,.int s5,.int s6,.int s7,.int s8,.int s9,.int s10,.int s11,.int s12,.int s13,.rows s14,.int s15,.rows s16,.rows s17,.bool s18,.rows s19,.bool s20,.int s21,.int s22,.int s23,.rows s24,.int s25,.int s26,.int s27,.int e0,.int e1,.int e2,.int e3,.bool e4,.int e5,.int e6,.int e7,.int e8,.int e9,.int e10,.int e11,.bool e12,.int e13,.int e14,.int e15,.int e16,.bool e17,.int e18]=some (BV (Ar (⟨r0,r1,r2,r3,r4,r5,r6,r7,r8,r9,r10,r11,r12,r13⟩:Rul) (⟨s0,s1,s2,s3,s4,s5,s6,s7,s8,s9,s10,s11,s12,s13,s14,s15,s16,s17,s18,s19,s20,s21,s22,s23,s24,s25,s26,s27⟩:Inn) (⟨e0,e1,e2,e3,e4,e5,e6,⟨e7,e8,e9,e10,e11,e12,e13,e14,e15,e16,e17,e18⟩⟩:Ev))):=by
  show Ek (std (Al N) N) (xOf _)=_;generalize hres:(some (BV (Ar (⟨r0,r1,r2,r3,r4,r5,r6,r7,r8,r9,r10,r11,r12,r13⟩:Rul) (⟨s0,s1,s2,s3,s4,s5,s6,s7,s8,s9,s10,s11,s12,s13,s14,s15,s16,s17,s18,s19,s20,s21,s22,s23,s24,s25,s26,s27⟩:Inn) (⟨e0,e1,e2,e3,e4,e5,e6,⟨e7,e8,e9,e10,e11,e12,e13,e14,e15,e16,e17,e18⟩⟩:Ev))):Option (List PV))=RR;have hsd:e0=14→e1=1∨e1=2:=uf (e:=(⟨e0,e1,e2,e3,e4,e5,e6,⟨e7,e8,e9,e10,e11,e12,e13,e14,e15,e16,e17,e18⟩⟩:Ev)) he
  rcases dq (ef he) with hk | hk | hk | hk | hk | hk | hk | hk | hk | hk | hk | hk | hk | hk | hk | hk<;>simp only at hk<;>subst hk<;>clear he
  all_goals (first
    | (have hsd := hsd rfl
       simp only [Ek,Gm,HI,GF,FF,GP,Ff,Fg,GY,Eh,Fj,Ew,Es,FL,FV,lq9,std,xOf,PXb,PXc,PXn,PXm,Nat.reduceAdd,Int.reduceBEq,Zj h hsd];subst hres;rfl)
    | (simp only [Ek, Gm, HI, GF, FF, GP, Ff, Fg, GY, Eh, Fj, Ew, Es, FL, FV, lq9,std,xOf, PXb, PXc, PXn, PXm, Nat.reduceAdd, Int.reduceBEq, gX h hN, jg h hN hs, ed h hw hN hs h13, Zd h hN, dz h hN, ck h hN, cz h, eJ h, Xm h, bp h hN hs, Yq h, Yi h, ZY h]
       subst hres
       first
       | rfl
       | (cases e4<;>rfl)))
theorem Lens.of {s t:Inn} (h1:t.batters.length=s.batters.length) (h2:t.bowled.length=s.bowled.length) (h3:t.subs.length=s.subs.length) (h4:t.bowlers=s.bowlers) (h5:t.before=s.before):Lens s t:=⟨h1,h2,h3,by rw [h4];omega,by rw [h5];omega⟩
theorem L_c {s:Inn} (b:Bool) (x y:Inn×Int) (hx:Lens s x.1) (hy:Lens s y.1):Lens s (cond b x y).1:=by cases b<;>assumption
theorem qu (s:Inn) (p q:Int):Lens s (I5 s p q).1:=by
 unfold I5;exact L_c _ _ _ (Lens.refl s) (L_c _ _ _ (Lens.refl s) (L_c _ _ _ (Lens.refl s) (Lens.of (by simp [EP]) rfl rfl rfl rfl)))
theorem qq (r:Rul) (s:Inn) (p:Int):Lens s (S8 r s p).1:=by
 unfold S8;exact P_c (P:=fun x:Inn=>Lens s x) _ _ _ (Lens.of rfl rfl rfl rfl rfl) (Lens.refl s)
theorem pt (r:Rul) (s:Inn) (d:Del):Lens s (KZ r s d).1:=by
 unfold KZ;refine L_c _ _ _ (Lens.refl s) ?_;have l1:=kl s d;have w1:=pL s d;have w2:=qh s d;simp only [kL];have l2:=fE r (Ag s d) (AE r d).counts;cases (Aq r (Ag s d) (AE r d).counts).2
 ·exact ⟨l2.bt.trans l1.bt,l2.bd.trans l1.bd,l2.sb.trans l1.sb,by have:=l2.bw;rw [w1] at this;exact this,by have:=l2.bf;rw [w1,w2] at this;exact this⟩
 ·exact ⟨l2.bt.trans l1.bt,l2.bd.trans l1.bd,l2.sb.trans l1.sb,by have:=l2.bw;rw [w1] at this;exact this,by have:=l2.bf;rw [w1,w2] at this;exact this⟩
theorem lC (s:Inn) (p:Int):Lens s (DA s p).1:=by
 unfold DA;exact L_c _ _ _ (Lens.of (by simp [EP]) rfl rfl rfl rfl) (Lens.refl s)
theorem nV (s:Inn) (p:Int):Lens s (GE s p).1:=by
 unfold GE;exact L_c _ _ _ (Lens.of (by simp [EP]) rfl rfl rfl rfl) (Lens.refl s)
theorem lk (s:Inn) (p:Int) (b:Bool):Lens s (Dq s p b).1:=by
 unfold Dq;exact L_c _ _ _ (Lens.refl s) (L_c _ _ _ (Lens.refl s) (L_c _ _ _ (Lens.refl s) (L_c _ _ _ (Lens.refl s) (Lens.of (by simp [EP]) rfl rfl rfl rfl))))
theorem jc (s:Inn) (n:Int):Lens s (Ja s n).1:=by
 unfold Ja;exact L_c _ _ _ (Lens.refl s) (Lens.of rfl rfl rfl rfl rfl)
theorem lw (s:Inn) (n:Int):Lens s (MH s n).1:=by
 unfold MH;exact L_c _ _ _ (Lens.refl s) (L_c _ _ _ (Lens.refl s) (L_c _ _ _ (Lens.refl s) (Lens.of rfl rfl rfl rfl rfl)))
theorem oD (s:Inn) (n:Int) (b:Bool):Lens s (PS s n b).1:=by
 unfold PS;exact L_c _ _ _ (Lens.refl s) (L_c _ _ _ (Lens.refl s) (Lens.of rfl rfl (by simp [tK]) rfl rfl))
theorem iI (r:Rul) (s:Inn):Lens s (JV r s).1:=by
 unfold JV;exact L_c _ _ _ (Lens.refl s) (Lens.of rfl rfl rfl rfl rfl)
theorem lF (r:Rul) (s:Inn) (n:Int):Lens s (Jm r s n).1:=by
 unfold Jm;exact L_c _ _ _ (Lens.refl s) (L_c _ _ _ (Lens.refl s) (Lens.of rfl rfl rfl rfl rfl))
theorem ki (s:Inn) (n m:Int):Lens s (Gg s n m).1:=by
 unfold Gg;exact L_c _ _ _ (Lens.refl s) (L_c _ _ _ (Lens.of rfl rfl rfl rfl rfl) (Lens.of rfl rfl rfl rfl rfl))
theorem mB (r:Rul) (s:Inn) (n:Int) (b:Bool):Lens s (KB r s n b).1:=by
 unfold KB;exact L_c _ _ _ (Lens.refl s) (L_c _ _ _ (Lens.of rfl rfl rfl rfl rfl) (Lens.refl s))
theorem lU (r:Rul) (s:Inn) (n m:Int):Lens s (MJ r s n m).1:=by
 unfold MJ;exact L_c _ _ _ (Lens.refl s) (L_c _ _ _ (Lens.refl s) (L_c _ _ _ (Lens.refl s) (Lens.of rfl rfl rfl rfl rfl)))
theorem XH (r:Rul) (s:Inn) (e:Ev):Lens s (Ar r s e).1:=by
  unfold Ar;exact L_c _ _ _ (qu ..) (L_c _ _ _ (qq ..) (L_c _ _ _ (pt ..) (L_c _ _ _ (L_c _ _ _ (lC ..) (nV ..)) (L_c _ _ _ (lk ..) (L_c _ _ _ (jc ..)
    (L_c _ _ _ (lw ..) (L_c _ _ _ (oD ..) (L_c _ _ _ (iI ..) (L_c _ _ _ (lF ..) (L_c _ _ _ (ki ..) (L_c _ _ _ (mB ..) (lU ..))))))))))))
def HY (r:Rul) (s:Inn):Bool:=UJ r.name r.side r.innings r.overs r.balls r.quota r.wide r.noball r.newball r.followon r.reviews r.outside r.power s.batters s.bowlers s.before s.bowled s.subs s.side s.target s.overs s.runs s.wickets s.wides s.noballs s.byes s.legbyes s.pens s.complete s.inover s.striker s.other s.bowler s.ballage s.keeper s.outside s.rev1 s.rev2 s.ending
def vm (r:Rul) (s:Inn):Int:=sS (HY r s) s.batters s.striker s.other s.target s.overs s.runs s.complete
theorem Ss {N:Nat} {r8:Bool} {r0:ByteArray} {r13:Rows} {s18 s20:Bool} (h:Fit s14 s16 s17 s19 s24) (hN:2097152<N) (hs:r0.size≤1048576):BS N [.str r0,.int r1,.int r2,.int r3,.int r4,.int r5,.int r6,.int r7,.bool r8,.int r9,.int r10,.int r11,.int r12,.rows r13,.int s0,.int s1,.int s2,.int s3,.int s4,.int s5,.int s6,.int s7,.int s8,.int s9,.int s10,.int s11,.int s12,.int s13,.rows s14,.int s15,.rows s16,.rows s17,.bool s18,.rows s19,.bool s20,.int s21,.int s22,.int s23,.rows s24,.int s25,.int s26,.int s27]=some [.bool (HY (⟨r0,r1,r2,r3,r4,r5,r6,r7,r8,r9,r10,r11,r12,r13⟩:Rul) (⟨s0,s1,s2,s3,s4,s5,s6,s7,s8,s9,s10,s11,s12,s13,s14,s15,s16,s17,s18,s19,s20,s21,s22,s23,s24,s25,s26,s27⟩:Inn))]:=by
 exact R5 N _ _ _ _ _ _ _ _ _ _ _ _ _ _ _ _ _ _ _ _ _ _ _ _ _ _ _ _ _ _ _ _ _ _ _ _ _ _ _ _ _ _ hN hs h.bt h.bw h.bf h.bd
theorem Zx {N:Nat} {r8:Bool} {r0:ByteArray} {r13:Rows} {s18 s20:Bool} (h:Fit s14 s16 s17 s19 s24) (hN:2097152<N) (hs:r0.size≤1048576):Dp N [.str r0,.int r1,.int r2,.int r3,.int r4,.int r5,.int r6,.int r7,.bool r8,.int r9,.int r10,.int r11,.int r12,.rows r13,.int s0,.int s1,.int s2,.int s3,.int s4,.int s5,.int s6,.int s7,.int s8,.int s9,.int s10,.int s11,.int s12,.int s13,.rows s14,.int s15,.rows s16,.rows s17,.bool s18,.rows s19,.bool s20,.int s21,.int s22,.int s23,.rows s24,.int s25,.int s26,.int s27]=some [.int (vm (⟨r0,r1,r2,r3,r4,r5,r6,r7,r8,r9,r10,r11,r12,r13⟩:Rul) (⟨s0,s1,s2,s3,s4,s5,s6,s7,s8,s9,s10,s11,s12,s13,s14,s15,s16,s17,s18,s19,s20,s21,s22,s23,s24,s25,s26,s27⟩:Inn))]:=by
 exact Yf N _ _ _ _ _ _ _ _ _ _ _ _ _ _ _ _ _ _ _ _ _ _ _ _ _ _ _ _ _ _ _ _ _ _ _ _ _ _ _ _ _ _ hN hs h.bt h.bw h.bf h.bd
def dA (t:Inn) (b:Bool):Inn:=⟨t.side,t.target,t.overs,t.runs,t.wickets,t.wides,t.noballs,t.byes,t.legbyes,t.pens,t.complete,t.inover,t.striker,t.other,t.batters,t.bowler,t.bowlers,t.before,b,t.bowled,t.freehit,t.ballage,t.keeper,t.outside,t.subs,t.rev1,t.rev2,t.ending⟩
def Bq (r:Rul) (t:Inn) (b:Bool):Inn:={ dA t b with ending:=cond (t.ending==0) (vm r (dA t b)) t.ending }
def U5 (s:Inn) (e:Ev):Bool:=e.kind==1||e.kind==12||e.kind==16||(!CE s.batters && !(e.kind==2))
def Aj (r:Rul) (s:Inn) (e:Ev):Inn×Int :=
  cond (!HY r s || !(evS e==0)) (s,1) (cond (!(s.ending==0)) (s,26) (cond (U5 s e) (s,1)
    (cond (!((Ar r s e).2==0)) (s,(Ar r s e).2) (Bq r (Ar r s e).1 (e.kind==4),0))))
set_option maxHeartbeats 4000000 in
theorem N4 {N:Nat} {r8:Bool} {r0:ByteArray} {r13:Rows} {s18 s20:Bool} {e4 e12 e17:Bool} (h:Fit s14 s16 s17 s19 s24) (hw:s17.length+s16.length≤1000000) (hN:2097152<N) (hs:r0.size≤1048576) (h13:r13.length≤1048576):HQ N [.str r0,.int r1,.int r2,.int r3,.int r4,.int r5,.int r6,.int r7,.bool r8,.int r9,.int r10,.int r11,.int r12,.rows r13,.int s0,.int s1,.int s2,.int s3,.int s4,.int s5,.int s6,.int s7,.int s8,.int s9,.int s10,.int s11,.int s12,.int s13,.rows s14,.int s15,.rows s16,.rows s17,.bool s18,.rows s19,.bool s20,.int s21,.int s22,.int s23,.rows s24,.int s25,.int s26,.int s27,.int e0,.int e1,.int e2,.int e3,.bool e4,.int e5,.int e6,.int e7,.int e8,.int e9,.int e10,.int e11,.bool e12,.int e13,.int e14,.int e15,.int e16,.bool e17,.int e18]=some (BV (Aj (⟨r0,r1,r2,r3,r4,r5,r6,r7,r8,r9,r10,r11,r12,r13⟩:Rul) (⟨s0,s1,s2,s3,s4,s5,s6,s7,s8,s9,s10,s11,s12,s13,s14,s15,s16,s17,s18,s19,s20,s21,s22,s23,s24,s25,s26,s27⟩:Inn) (⟨e0,e1,e2,e3,e4,e5,e6,⟨e7,e8,e9,e10,e11,e12,e13,e14,e15,e16,e17,e18⟩⟩:Ev))):=by
 show KS (std (Cb N) N) (xOf _)=_;generalize hres:(some (BV (Aj (⟨r0,r1,r2,r3,r4,r5,r6,r7,r8,r9,r10,r11,r12,r13⟩:Rul) (⟨s0,s1,s2,s3,s4,s5,s6,s7,s8,s9,s10,s11,s12,s13,s14,s15,s16,s17,s18,s19,s20,s21,s22,s23,s24,s25,s26,s27⟩:Inn) (⟨e0,e1,e2,e3,e4,e5,e6,⟨e7,e8,e9,e10,e11,e12,e13,e14,e15,e16,e17,e18⟩⟩:Ev))):Option (List PV))=RR;have l1:=XH (⟨r0,r1,r2,r3,r4,r5,r6,r7,r8,r9,r10,r11,r12,r13⟩:Rul) (⟨s0,s1,s2,s3,s4,s5,s6,s7,s8,s9,s10,s11,s12,s13,s14,s15,s16,s17,s18,s19,s20,s21,s22,s23,s24,s25,s26,s27⟩:Inn) (⟨e0,e1,e2,e3,e4,e5,e6,⟨e7,e8,e9,e10,e11,e12,e13,e14,e15,e16,e17,e18⟩⟩:Ev);have f1:=RZ l1 h (by simp only;omega);simp only [KS,Pi,Oe,N2,Oa,F2,Gn,lq9,std,xOf,PXb,Ss h hN hs,WP hN,CV h,cw h.bt hN];subst hres;simp only [Aj,U5];cases HY (⟨r0,r1,r2,r3,r4,r5,r6,r7,r8,r9,r10,r11,r12,r13⟩:Rul) (⟨s0,s1,s2,s3,s4,s5,s6,s7,s8,s9,s10,s11,s12,s13,s14,s15,s16,s17,s18,s19,s20,s21,s22,s23,s24,s25,s26,s27⟩:Inn)
 ·rfl
 cases he:evS (⟨e0,e1,e2,e3,e4,e5,e6,⟨e7,e8,e9,e10,e11,e12,e13,e14,e15,e16,e17,e18⟩⟩:Ev)==0
 ·simp only [PXb,PXc,PXn,PXm,Nat.reduceAdd,Int.reduceBEq,he]
 simp only [PXb,PXc,PXn,PXm,Nat.reduceAdd,Int.reduceBEq,he];cases s27==0<;>try rfl
 cases (e0==1||e0==12||e0==16)<;>cases CE s14<;>cases e0==2<;>try rfl
 all_goals (simp only [PXb,PXc,PXn,PXm,Nat.reduceAdd,Int.reduceBEq,F2,Gn,Ys h hw hN hs h13 he,Zx f1 hN hs])
 all_goals (unfold Bq dA;cases (Ar (⟨r0,r1,r2,r3,r4,r5,r6,r7,r8,r9,r10,r11,r12,r13⟩:Rul) (⟨s0,s1,s2,s3,s4,s5,s6,s7,s8,s9,s10,s11,s12,s13,s14,s15,s16,s17,s18,s19,s20,s21,s22,s23,s24,s25,s26,s27⟩:Inn) (⟨e0,e1,e2,e3,e4,e5,e6,⟨e7,e8,e9,e10,e11,e12,e13,e14,e15,e16,e17,e18⟩⟩:Ev)).2==0<;>cases (Ar (⟨r0,r1,r2,r3,r4,r5,r6,r7,r8,r9,r10,r11,r12,r13⟩:Rul) (⟨s0,s1,s2,s3,s4,s5,s6,s7,s8,s9,s10,s11,s12,s13,s14,s15,s16,s17,s18,s19,s20,s21,s22,s23,s24,s25,s26,s27⟩:Inn) (⟨e0,e1,e2,e3,e4,e5,e6,⟨e7,e8,e9,e10,e11,e12,e13,e14,e15,e16,e17,e18⟩⟩:Ev)).1.ending==0<;>rfl)
theorem pT (L:Rows) (c:Nat):(cut L c).length≤c:=by
 unfold cut;rw [List.length_drop,List.length_take];cases h:iLt (c:Int) (L.length:Int) with
 | true=>simp only [cond_true];omega
 | false=>simp only [iLt,decide_eq_false_iff_not] at h;simp only [cond_false];omega
theorem lL {s t:Inn} (r:Rul) (b:Bool) (h:Lens s t):Lens s (Bq r t b):=⟨h.bt,h.bd,h.sb,h.bw,h.bf⟩
theorem MR (r:Rul) (s:Inn) (e:Ev):Lens s (Aj r s e).1:=by
 unfold Aj;exact L_c _ _ _ (Lens.refl s) (L_c _ _ _ (Lens.refl s) (L_c _ _ _ (Lens.refl s) (L_c _ _ _ (Lens.refl s) (lL r _ (XH r s e)))))
theorem MV {r : Rul} {s : Inn} {e : Ev} (h : ((Aj r s e).2 == 0) = true) :
    HY r s=true∧(evS e==0)=true∧(s.ending==0)=true∧U5 s e=false∧((Ar r s e).2==0)=true∧(Aj r s e).1=Bq r (Ar r s e).1 (e.kind==4):=by
  unfold Aj at h ⊢;cases hv:HY r s with
  | false=>rw [hv] at h;cases h
  | true =>
    cases he:evS e==0 with
    | false=>rw [hv,he] at h;cases h
    | true =>
      cases hn:s.ending==0 with
      | false=>rw [hv,he,hn] at h;cases h
      | true =>
        cases hw:U5 s e with
        | true=>rw [hv,he,hn,hw] at h;cases h
        | false =>
          cases hp:(Ar r s e).2==0 with
          | false=>rw [hv,he,hn,hw,hp] at h;exact absurd (hp▸h) (by decide)
          | true=>exact ⟨rfl,rfl,rfl,rfl,rfl,rfl⟩
theorem UY {x a b:Int}:btw x a b=true↔a≤x∧x≤b:=by simp [btw,iLe]
structure RulOk (r:Rul):Prop where
 side:2≤r.side∧r.side≤11
 innings:1≤r.innings∧r.innings≤2
 overs:0≤r.overs∧r.overs≤90
 balls:4≤r.balls∧r.balls≤8
 quota:0≤r.quota∧r.quota≤90
 wide:1≤r.wide∧r.wide≤5
 noball:1≤r.noball∧r.noball≤5
 newball:0≤r.newball∧r.newball≤200
 followon:0≤r.followon∧r.followon≤1000
 reviews:0≤r.reviews∧r.reviews≤9
 outside:0≤r.outside∧r.outside≤11
theorem DQ {r:Rul} (h:BL r=0):RulOk r:=by
 unfold BL MI at h;cases hn:Xe r.name with
 | false=>rw [hn] at h;cases h
 | true =>
  cases hr:Og r.side r.innings r.overs r.balls r.quota r.wide r.noball r.newball r.followon r.reviews r.outside with
  | false=>rw [hn,hr] at h;cases h
  | true =>
   unfold Og at hr;simp only [zzj,UY] at hr;obtain ⟨⟨⟨⟨⟨⟨⟨⟨⟨⟨h1,h2⟩,h3⟩,h4⟩,h5⟩,h6⟩,h7⟩,h8⟩,h9⟩,h10⟩,h11⟩:=hr;exact ⟨h1,h2,h3,h4,h5,h6,h7,h8,h9,h10,h11⟩
def B0 (x:Int):Prop:=0≤x∧x≤1000000000
structure InnOk (r:Rul) (s:Inn):Prop where
 code:BL r=0
 side:1≤s.side∧s.side≤2
 lb:(s.batters.length:Int)=r.side
 ld:(s.bowled.length:Int)=r.side
 lz:(s.subs.length:Int)=r.side
 ending:s.ending≤5
 st:0≤s.striker∧s.striker≤r.side
 ot:0≤s.other∧s.other≤r.side
 bat:Sx s.batters s.striker s.other s.wickets=true
 bow:0≤s.bowler∧s.bowler≤r.side
 kee:0≤s.keeper∧s.keeper≤r.side
 dw:LH s.bowlers r.side=true
 df:LH s.before r.side=true
 ov:di r.overs s.overs=true
 io:0≤s.inover∧s.inover≤r.balls - 1
 target:B0 s.target
 runs:B0 s.runs
 wides:B0 s.wides
 noballs:B0 s.noballs
 byes:B0 s.byes
 legbyes:B0 s.legbyes
 pens:B0 s.pens
 complete:B0 s.complete
 ballage:B0 s.ballage
 outside:B0 s.outside
 rev1:B0 s.rev1
 rev2:B0 s.rev2
 bowled:Kp Ji s.bowled=false
theorem ui {x:Int}:Ji x=false↔B0 x:=by
 unfold Ji B0;rw [Bool.not_eq_false',UY]
theorem se (a b c d e f g h i j k l:Int):Kp Ji (jR a b c d e f g h i j k l)=false↔B0 a∧B0 b∧B0 c∧B0 d∧B0 e∧B0 f∧B0 g∧B0 h∧B0 i∧B0 j∧B0 k∧B0 l:=by
 rw [OV];simp only [jR,List.any_cons,List.any_nil,Bool.or_false,fX,uF,Bool.or_eq_false_iff,ui]
theorem br {r:Rul} (h:RulOk r):IntKind.i64.wrap (r.balls - 1)=r.balls - 1:=by
 have:=h.balls;exact BQ (by omega) (by omega)
theorem me {x:Int}:(!iLt 5 x)=true↔x≤5:=by
 rw [Bool.not_eq_true'];simp only [iLt,decide_eq_false_iff_not];omega
theorem F8 {r:Rul} {s:Inn}:HY r s=true↔InnOk r s:=by
 unfold HY UJ;simp only [zzj,Bool.not_eq_true',se,UY];constructor
 ·intro ⟨h1,h2,h3,h4,h5,h6,h7,h8,h9,h10,h11,h12,h13,h14,h15,⟨n1,n2,n3,n4,n5,n6,n7,n8,n9,n10,n11,n12⟩,h17⟩;have hc:BL r=0:=beq_iff_eq.1 h1;exact ⟨hc,h2,beq_iff_eq.1 h3,beq_iff_eq.1 h4,beq_iff_eq.1 h5,me.1 (by rw [h6];rfl),h7,h8,h9,h10,h11,h12,h13,h14,by rw [br (DQ hc)] at h15;exact h15,n1,n2,n3,n4,n5,n6,n7,n8,n9,n10,n11,n12,h17⟩
 ·intro h;have h6:=me.2 h.ending;rw [Bool.not_eq_true'] at h6;exact ⟨beq_iff_eq.2 h.code,h.side,beq_iff_eq.2 h.lb,beq_iff_eq.2 h.ld,beq_iff_eq.2 h.lz,h6,h.st,h.ot,h.bat,h.bow,h.kee,h.dw,h.df,h.ov,by rw [br (DQ h.code)];exact h.io,
   ⟨h.target,h.runs,h.wides,h.noballs,h.byes,h.legbyes,h.pens,h.complete,h.ballage,h.outside,h.rev1,h.rev2⟩,h.bowled⟩
theorem OP (n:Int):IntKind.i64.wrap n=(n+9223372036854775808) % 18446744073709551616 - 9223372036854775808:=by
 unfold IntKind.wrap;simp only [IntKind.signed,IntKind.bits];simp
 split<;>omega
theorem Hn (n:Int):IntKind.i64.wrap (IntKind.i64.wrap n)=IntKind.i64.wrap n:=by
 simp only [OP];omega
theorem MZ (a b:Int):IntKind.i64.wrap (IntKind.i64.wrap (a+b) - a)=IntKind.i64.wrap b:=by
 simp only [OP];omega
theorem WU (a:Int):IntKind.i64.wrap (a - a)=0:=by rw [Int.sub_self];rfl
theorem aC (s:Inn) (d:Del):(Ag s d).runs=s.runs∧(Ag s d).wides=s.wides∧(Ag s d).noballs=s.noballs∧(Ag s d).byes=s.byes∧(Ag s d).legbyes=s.legbyes∧(Ag s d).pens=s.pens∧(Ag s d).complete=s.complete∧(Ag s d).inover=s.inover∧(Ag s d).bowler=s.bowler∧(Ag s d).bowled=s.bowled:=by
  unfold Ag;cases (!(d.runs.tmod 2==0) != d.crossed)<;>exact P_c (P:=fun x:Inn=>x.runs=s.runs∧x.wides=s.wides∧x.noballs=s.noballs∧x.byes=s.byes∧x.legbyes=s.legbyes∧x.pens=s.pens∧x.complete=s.complete∧x.inover=s.inover∧x.bowler=s.bowler∧x.bowled=s.bowled) _ _ _ ⟨rfl,rfl,rfl,rfl,rfl,rfl,rfl,rfl,rfl,rfl⟩
    (P_c (P:=fun x:Inn=>x.runs=s.runs∧x.wides=s.wides∧x.noballs=s.noballs∧x.byes=s.byes∧x.legbyes=s.legbyes∧x.pens=s.pens∧x.complete=s.complete∧x.inover=s.inover∧x.bowler=s.bowler∧x.bowled=s.bowled) _ _ _ ⟨rfl,rfl,rfl,rfl,rfl,rfl,rfl,rfl,rfl,rfl⟩ ⟨rfl,rfl,rfl,rfl,rfl,rfl,rfl,rfl,rfl,rfl⟩)
def Hb (r:Rul) (s:Inn) (d:Del):Inn :=
 let o:=Aq r (Ag s d) (AE r d).counts
 let t:Inn:=cond o.2 (Iq o.1) o.1
 { t with runs:=IntKind.i64.wrap (s.runs+B8 (AE r d)),wides:=IntKind.i64.wrap (s.wides+(AE r d).wides),noballs:=IntKind.i64.wrap (s.noballs+(AE r d).noballs),byes:=IntKind.i64.wrap (s.byes+(AE r d).byes),legbyes:=IntKind.i64.wrap (s.legbyes+(AE r d).legbyes),freehit:=cond (d.type==1) false (cond (d.type==3&&r.freehit) true o.1.freehit) }
theorem Yd {r:Rul} {s:Inn} {d:Del} (h:((KZ r s d).2==0)=true):(G7 r s d==0)=true∧(KZ r s d).1=Hb r s d:=by
 unfold KZ at h ⊢;cases hr:G7 r s d==0 with
 | false=>rw [hr] at h;exact absurd (hr▸h) (by decide)
 | true =>
  refine ⟨rfl,?_⟩;obtain ⟨k1,k2,k3,k4,k5,_⟩:=aC s d;simp only [Bool.not_true,cond_false,kL,k1,k2,k3,k4,k5,Hb];generalize Aq r (Ag s d) (AE r d).counts=o;obtain ⟨o1,o2⟩:=o;cases o2<;>rfl
theorem Pg {r:Rul} {s:Inn} {d:Del} (h:(G7 r s d==0)=true):E7 s.batters s.striker s.other=false∧(s.bowler==0)=false∧(RA r s==0)=true∧(Db d==0)=true∧(QZ d s.freehit==0)=true∧(R9 s d==0)=true:=by
 unfold G7 at h;cases h1:E7 s.batters s.striker s.other with
 | true=>rw [h1] at h;cases h
 | false =>
  cases h2:s.bowler==0 with
  | true=>rw [h1,h2] at h;cases h
  | false =>
   rw [h1,h2] at h;change (bM _ _ _ _==0)=true at h;unfold bM at h;cases h3:RA r s==0 with
   | false=>rw [h3] at h;exact absurd (h3▸h) (by decide)
   | true =>
    cases h4:Db d==0 with
    | false=>rw [h3,h4] at h;exact absurd (h4▸h) (by decide)
    | true =>
     cases h5:QZ d s.freehit==0 with
     | false=>rw [h3,h4,h5] at h;exact absurd (h5▸h) (by decide)
     | true =>
      cases h6:R9 s d==0 with
      | false=>rw [h3,h4,h5,h6] at h;exact absurd (h6▸h) (by decide)
      | true=>exact ⟨rfl,rfl,rfl,rfl,rfl,rfl⟩
theorem O4 {d:Del} {f:Bool} (h:(QZ d f==0)=true) (hd:(d.how==0)=false):(d.victim==1)=true∨(d.victim==2)=true:=by
 unfold QZ at h;rw [hd] at h;cases h1:d.victim==1 with
 | true=>exact .inl rfl
 | false =>
  cases h2:d.victim==2 with
  | true=>exact .inr rfl
  | false =>
   rw [h1,h2] at h
   exfalso
   revert h
   cases (!onS d.how d.type||f && !gm d.how)<;>cases (!N9 d.how&&(!(d.source==0) || !(d.runs==0)))<;>intro h<;>cases h
theorem Vi {s:Inn} {e:Ev} (h:U5 s e=false) (hk:(e.kind==2)=false):CE s.batters=true:=by
 unfold U5 at h;rw [hk] at h;cases hb:CE s.batters with
 | true=>rfl
 | false=>rw [hb] at h;simp at h
theorem mf {s : Inn} {d : Del} (h1 : (s.striker == 0) = false) (h2 : (s.other == 0) = false) (hv : (d.how == 0) = false → (d.victim == 1) = true ∨ (d.victim == 2) = true) :
    (Ag s d).wickets=cond (d.how==0) s.wickets (inc s.wickets):=by
  unfold Ag;rw [h1,h2];cases hd:d.how==0 with
  | true=>cases (!(d.runs.tmod 2==0) != d.crossed)<;>rfl
  | false =>
    rcases hv hd with h | h<;>rw [h]<;>cases (!(d.runs.tmod 2==0) != d.crossed)<;>cases d.victim==1<;>rfl
theorem nI (r:Rul) (s:Inn) (b:Bool):(Aq r s b).1.wickets=s.wickets∧(Aq r s b).1.pens=s.pens:=by
 unfold Aq;exact P_c (P:=fun x:Inn×Bool=>x.1.wickets=s.wickets∧x.1.pens=s.pens) _ _ _ ⟨rfl,rfl⟩ (P_c (P:=fun x:Inn×Bool=>x.1.wickets=s.wickets∧x.1.pens=s.pens) _ _ _ ⟨rfl,rfl⟩ ⟨rfl,rfl⟩)
theorem oi {r : Rul} {s : Inn} {b : Bool} (hr : RulOk r) (hc : BL r = 0) (hb : inR s.bowler s.bowled.length = true) (hi : 0 ≤ s.inover ∧ s.inover ≤ r.balls - 1) (hn : B0 s.complete) :
    IntKind.i64.wrap (C0 r.balls (Aq r s b).1.complete (Aq r s b).1.inover - C0 r.balls s.complete s.inover)=cond b 1 0:=by
  have hk:∃ k:Nat,r.balls=k:=⟨r.balls.toNat,by have:=hr.balls;omega⟩;have hz:=hr.balls;unfold B0 at hn;unfold Aq C0;rw [hb,hc];cases b with
  | false =>
    have h1:iLt s.inover r.balls=true:=by simp only [iLt,decide_eq_true_eq];omega
    simp only [cond_false,h1,beq_self_eq_true,Bool.not_true,Bool.or_false,cond_true];exact WU _
  | true =>
    have h2:inc s.inover=s.inover+1:=BQ (by omega) (by omega);simp only [cond_true,h2,beq_self_eq_true,Bool.not_true,Bool.or_false,cond_false];have h3:inc s.complete=s.complete+1:=BQ (by omega) (by omega);have hb5:r.balls=4∨r.balls=5∨r.balls=6∨r.balls=7∨r.balls=8:=by omega
    cases h1:iLt (s.inover+1) r.balls with
    | true =>
      simp only [cond_true]
      rcases hb5 with e | e | e | e | e<;>rw [e] at hi ⊢<;>simp only [OP]<;>omega
    | false =>
      simp only [iLt,decide_eq_false_iff_not] at h1;simp only [cond_false,h3]
      rcases hb5 with e | e | e | e | e<;>rw [e] at hi h1 ⊢<;>simp only [OP]<;>omega
theorem VY {L:Rows} {s n:Int} (h:E7 L s n=false) (hb:CE L=true):(s==0)=false∧(n==0)=false:=by
 unfold E7 at h;rw [hb,Bool.true_and,Bool.or_eq_false_iff] at h;exact h
theorem qD {r:Rul} {s:Inn} (h:InnOk r s) (hb:(s.bowler==0)=false):inR s.bowler s.bowled.length=true:=by
 have h1:=h.bow;have h2:=h.ld;rw [beq_eq_false_iff_ne] at hb;simp only [inR,iLe,zzj,decide_eq_true_eq];omega
theorem qN {r : Rul} {s : Inn} {e : Ev} (hk : (e.kind == 4) = true) (h : ((Aj r s e).2 == 0) = true) :
    IntKind.i64.wrap ((Aj r s e).1.runs - s.runs)=B8 (AE r e.ball)∧IntKind.i64.wrap ((Aj r s e).1.wides - s.wides)=(AE r e.ball).wides∧IntKind.i64.wrap ((Aj r s e).1.noballs - s.noballs)=(AE r e.ball).noballs ∧
    IntKind.i64.wrap ((Aj r s e).1.byes - s.byes)=(AE r e.ball).byes∧IntKind.i64.wrap ((Aj r s e).1.legbyes - s.legbyes)=(AE r e.ball).legbyes∧(Aj r s e).1.pens=s.pens ∧
    IntKind.i64.wrap (C0 r.balls (Aj r s e).1.complete (Aj r s e).1.inover - C0 r.balls s.complete s.inover)=cond (AE r e.ball).counts 1 0 ∧
    IntKind.i64.wrap ((Aj r s e).1.wickets - s.wickets)=cond (e.ball.how==0) 0 1∧(Aj r s e).1.fresh=true∧IntKind.i64.wrap (Aj r s e).1.runs=(Aj r s e).1.runs:=by
  obtain ⟨hv,he,hn,hw,hp,hs⟩:=MV h;have k4:=beq_iff_eq.1 hk;have hpb:Ar r s e=KZ r s e.ball:=by unfold Ar;rw [k4];rfl
  obtain ⟨d,hd0⟩:∃ d,d=e.ball:=⟨_,rfl⟩;rw [← hd0] at hpb ⊢;rw [hpb] at hp hs;obtain ⟨hr,hb⟩:=Yd hp;obtain ⟨q1,q2,q3,q4,q5,q6⟩:=Pg hr;have ok:=F8.1 hv;have rk:=DQ ok.code;have hbeg:CE s.batters=true:=Vi hw (by rw [k4];rfl);obtain ⟨z1,z2⟩:=VY q1 hbeg;have hin:=qD ok q2;have hout:=mf (d:=d) z1 z2 (fun hd=>O4 q5 hd);obtain ⟨k1,k2,k3,k4,k5,k6,k7,k8,k9,k10⟩:=aC s d;have hbl:=oi (b:=(AE r d).counts) (s:=Ag s d) rk ok.code (by rw [k9,k10];exact hin) (by rw [k8];exact ok.io) (by rw [k7];exact ok.complete);rw [k7,k8] at hbl;obtain ⟨w1,w2⟩:=nI r (Ag s d) (AE r d).counts;rw [hs,hb];have hc:AE r d=Ok r d:=by unfold AE;rw [q4];rfl
  have ht:IntKind.i64.wrap (B8 (AE r d))=B8 (AE r d):=Hn _;have c1:IntKind.i64.wrap (AE r d).wides=(AE r d).wides:=by rw [hc];unfold Ok;simp only;cases d.type==2<;>first | rfl | exact Hn _
  have c2:IntKind.i64.wrap (AE r d).noballs=(AE r d).noballs:=by
    have:=rk.noball;rw [hc];unfold Ok;simp only;cases d.type==3<;>first | rfl | exact BQ (n:=r.noball) (by omega) (by omega)
  have c3:IntKind.i64.wrap (AE r d).byes=(AE r d).byes:=by rw [hc];unfold Ok;simp only;cases (!(d.type==2)&&d.source==2)<;>first | rfl | exact Hn _
  have c4:IntKind.i64.wrap (AE r d).legbyes=(AE r d).legbyes:=by rw [hc];unfold Ok;simp only;cases (!(d.type==2)&&d.source==3)<;>first | rfl | exact Hn _
  refine ⟨(MZ _ _).trans ht,(MZ _ _).trans c1,(MZ _ _).trans c2,(MZ _ _).trans c3,(MZ _ _).trans c4,?_,?_,?_,hk,Hn _⟩
  · have : (Bq r (Hb r s d) (e.kind == 4)).pens = (Aq r (Ag s d) (AE r d).counts).1.pens := by
      show (cond (Aq r (Ag s d) (AE r d).counts).2 (Iq (Aq r (Ag s d) (AE r d).counts).1) (Aq r (Ag s d) (AE r d).counts).1).pens=_;cases (Aq r (Ag s d) (AE r d).counts).2<;>rfl
    rw [this,w2,k6]
  · have e1 : (Bq r (Hb r s d) (e.kind == 4)).complete = (Aq r (Ag s d) (AE r d).counts).1.complete := by
      show (cond (Aq r (Ag s d) (AE r d).counts).2 (Iq (Aq r (Ag s d) (AE r d).counts).1) (Aq r (Ag s d) (AE r d).counts).1).complete=_;cases (Aq r (Ag s d) (AE r d).counts).2<;>rfl
    have e2:(Bq r (Hb r s d) (e.kind==4)).inover=(Aq r (Ag s d) (AE r d).counts).1.inover:=by
      show (cond (Aq r (Ag s d) (AE r d).counts).2 (Iq (Aq r (Ag s d) (AE r d).counts).1) (Aq r (Ag s d) (AE r d).counts).1).inover=_;cases (Aq r (Ag s d) (AE r d).counts).2<;>rfl
    rw [e1,e2,hbl]
  · have : (Bq r (Hb r s d) (e.kind == 4)).wickets = (Aq r (Ag s d) (AE r d).counts).1.wickets := by
      show (cond (Aq r (Ag s d) (AE r d).counts).2 (Iq (Aq r (Ag s d) (AE r d).counts).1) (Aq r (Ag s d) (AE r d).counts).1).wickets=_;cases (Aq r (Ag s d) (AE r d).counts).2<;>rfl
    rw [this,w1,hout];unfold inc;cases d.how==0 with
    | true=>exact WU _
    | false=>exact (MZ s.wickets 1).trans rfl
def tj:Inn:=⟨0,0,0,0,0,0,0,0,0,0,0,0,0,0,[],0,[],[],false,[],false,0,0,0,[],0,0,0⟩
def xB (n:Nat) (overs side t p:Int):Inn:=⟨side,t,overs,p,0,0,0,0,0,p,0,0,0,0,List.replicate n [.int 0],0,[],[],false,List.replicate n [.int 0],false,0,0,0,List.replicate n [.bool false],0,0,0⟩
def Ce (r:Rul) (side t p:Int):Inn×Int :=
 cond (!(BL r==0)) (tj,BL r) (cond (!btw side 1 2 || !btw t 0 1000000 || !btw p 0 1000000) (tj,2) (xB r.side.toNat r.overs side t p,0))
theorem TG {N:Nat} {r8:Bool} {r0:ByteArray} {r13:Rows} {a:Int} {b:Int} {c:Int} (hN:2097152<N) (hs:r0.size≤1048576):GW N [.str r0,.int r1,.int r2,.int r3,.int r4,.int r5,.int r6,.int r7,.bool r8,.int r9,.int r10,.int r11,.int r12,.rows r13,.int a,.int b,.int c]=some (BV (Ce (⟨r0,r1,r2,r3,r4,r5,r6,r7,r8,r9,r10,r11,r12,r13⟩:Rul) a b c)):=by
 show JG (std (Gu N) N) (xOf _)=_;generalize hres:(some (BV (Ce (⟨r0,r1,r2,r3,r4,r5,r6,r7,r8,r9,r10,r11,r12,r13⟩:Rul) a b c)):Option (List PV))=RR;simp only [JG,PC,Mj,lq9,std,xOf,PXb,DS hN hs,D2];subst hres;simp only [Ce];cases hc:BL (⟨r0,r1,r2,r3,r4,r5,r6,r7,r8,r9,r10,r11,r12,r13⟩:Rul)==0 with
 | false=>rfl
 | true =>
  have rk:=(DQ (beq_iff_eq.1 hc)).side;obtain ⟨k,hk⟩:∃ k:Nat,r1=k:=⟨r1.toNat,by simp only at rk;omega⟩;subst hk;simp only at rk;have h1:iSm (k:Int) 1=true:=Gc (by omega) (by omega);have h8:iSm (k:Int) 8=true:=Gc (by omega) (by omega);simp only [PXb,PXc,PXn,PXm,Nat.reduceAdd,Int.reduceBEq,h1,h8];cases btw a 1 2<;>cases btw b 0 1000000<;>cases btw c 0 1000000<;>rfl
theorem Qr (r:Rul) (side t p:Int):(Ce r side t p).1.Fit∧(Ce r side t p).1.before=[]∧(Ce r side t p).1.bowlers=[]:=by
 unfold Ce;cases hc:BL r==0 with
 | false=>exact ⟨⟨by show 0≤1048576;omega,by show 0≤1048576;omega,by show 0≤1048576;omega,by show 0≤1048576;omega,by show 0≤1048576;omega⟩,rfl,rfl⟩
 | true =>
  have hs:=(DQ (beq_iff_eq.1 hc)).side;have hl:∀ x:List PV,(List.replicate r.side.toNat x).length≤1048576:=fun x=>by rw [List.length_replicate];omega
  cases (!btw side 1 2 || !btw t 0 1000000 || !btw p 0 1000000) with
  | true=>exact ⟨⟨by show 0≤1048576;omega,by show 0≤1048576;omega,by show 0≤1048576;omega,by show 0≤1048576;omega,by show 0≤1048576;omega⟩,rfl,rfl⟩
  | false=>exact ⟨⟨hl _,by show 0≤1048576;omega,by show 0≤1048576;omega,hl _,hl _⟩,rfl,rfl⟩
theorem ue {s:Inn} (h:s.Fit):(J8 s).Fit:=⟨h.bt,h.bw,h.bf,h.bd,h.sb⟩
def Shp (L:Rows):Prop:=∀ r∈L,r≠[]
theorem wG (r:List PV) (v:PV) (h:r≠[]):AA (Ah r 0 [v]) 0=v:=by
 cases r with
 | nil=>exact absurd rfl h
 | cons a b=>rfl
theorem mi {L:Rows} {i:Nat} (h:i<L.length):AK L i∈L:=by
 unfold AK;rw [zzk,zzn h];exact List.getElem_mem h
theorem kD {L:Rows} {p v:Int} (hs:Shp L) (hp:ix p<L.length) (i:Nat):atI (DN L p v) i 0=cond (Nat.beq i (ix p)) v (atI L i 0):=by
 unfold DN atI AB
 by_cases h:i=ix p
 ·subst h;have e:AK (L.set (ix p) (Ah (AK L (ix p)) 0 [.int v])) (ix p)=Ah (AK L (ix p)) 0 [.int v]:=by
   unfold AK;rw [zzk,List.getElem?_set_self hp];rfl
  rw [e,wG _ _ (hs _ (mi hp)),Nat.beq_refl];rfl
 ·have e:AK (L.set (ix p) (Ah (AK L (ix p)) 0 [.int v])) i=AK L i:=by
   unfold AK;simp only [zzk];rw [List.getElem?_set_ne (fun e=>h e.symm)]
  have hb:Nat.beq i (ix p)=false:=by
   cases hb:Nat.beq i (ix p) with
   | false=>rfl
   | true=>exact absurd (Nat.eq_of_beq_eq_true hb) h
  rw [e,hb];rfl
theorem wz (r:List PV) (v:PV) (h:r≠[]):Ah r 0 [v]≠[]:=by
 cases r with
 | nil=>exact absurd rfl h
 | cons a b=>intro e;cases e
theorem ME {L:Rows} {p v:Int} (hs:Shp L):Shp (DN L p v):=by
 unfold DN
 by_cases hp:ix p<L.length
 ·intro r hr
  rcases List.mem_or_eq_of_mem_set hr with h | h
  ·exact hs r h
  ·rw [h];exact wz _ _ (hs _ (mi hp))
 ·rw [List.set_eq_of_length_le (by omega)];exact hs
theorem NQ {p:Int} {n:Nat} (h:inR p n=true) (hn:n≤1048576):(ix p:Int)=p - 1∧ix p<n:=by
 simp only [inR,iLe,zzj,decide_eq_true_eq] at h;unfold ix;rw [BQ (by omega) (by omega)];omega
theorem nF {p q:Nat→Bool} {k:Nat} (h:∀ j,j≠k→q j=p j):∀ n,k<n→Ba q n+cond (p k) 1 0=Ba p n+cond (q k) 1 0
 | 0,hn=>by omega
 | n+1,hn=>by
  unfold Ba
  by_cases e:k=n
  ·subst e;have:Ba q k=Ba p k:=MY k (fun j hj=>h j (by omega));rw [this];cases p k<;>cases q k<;>simp only [cond_true,cond_false]<;>omega
  ·have ih:=nF h n (by omega);rw [h n (fun x=>e x.symm)];cases p n<;>simp only [cond_true,cond_false]<;>omega
theorem xj {L:Rows} {p v w:Int} (hs:Shp L) (hp:ix p<L.length):Ba (pIs (DN L p v) w) L.length+cond (atI L (ix p) 0==w) 1 0=Ba (pIs L w) L.length+cond (v==w) 1 0:=by
 have h1:=nF (p:=pIs L w) (q:=pIs (DN L p v) w) (k:=ix p) (fun j hj=>by
  unfold pIs;rw [kD hs hp];have:Nat.beq j (ix p)=false:=by
   cases hb:Nat.beq j (ix p) with
   | false=>rfl
   | true=>exact absurd (Nat.eq_of_beq_eq_true hb) hj
  rw [this];rfl) L.length hp
 have h2:pIs (DN L p v) w (ix p)=(v==w):=by unfold pIs;rw [kD hs hp,Nat.beq_refl];rfl
 rw [h2] at h1;exact h1
structure BatOk (L:Rows) (s n wk:Int):Prop where
 le:∀ i,i<L.length→atI L i 0≤3
 at1:∀ i,i<L.length→(atI L i 0=1↔(s=(i:Int)+1∨n=(i:Int)+1))
 here:CE L=true→s≠0∨n≠0
 ne:s≠0→s≠n
 wk:wk=FQ L
theorem tu {L:Rows} {s n:Int} (h:∀ i,i<L.length→(atI L i 0=1↔(s=(i:Int)+1∨n=(i:Int)+1))):∀ i,i<L.length→pIs L 1 i=SD s n i:=fun i hi=>by
 have:=h i hi;unfold pIs SD;rw [Bool.eq_iff_iff,Bool.or_eq_true,beq_iff_eq,beq_iff_eq,beq_iff_eq];exact this
theorem mY {L : Rows} {s n : Int} (hs : 0 ≤ s ∧ s ≤ (L.length : Int)) (hn : 0 ≤ n ∧ n ≤ (L.length : Int)) (hd : s ≠ 0 → s ≠ n) (h : ∀ i, i < L.length → (atI L i 0 = 1 ↔ (s = (i : Int) + 1 ∨ n = (i : Int) + 1))) :
    ins L=cond (!(s==0)) 1 0+cond (!(n==0)) 1 0:=by
  have h1:(s==n && !(s==0))=false:=by
    cases h2:s==0 with
    | true=>simp
    | false =>
      rw [beq_eq_false_iff_ne] at h2;rw [beq_false_of_ne (hd h2)];rfl
  unfold ins;rw [MY L.length (tu h),← mT hs hn h1,nD]
theorem uZ {L:Rows} {s n wk:Int} (hs:0≤s∧s≤(L.length:Int)) (hn:0≤n∧n≤(L.length:Int)):Sx L s n wk=true↔BatOk L s n wk:=by
 unfold Sx;rw [zzj,zzj,Bool.not_eq_true',Bool.not_eq_true',Eo,beq_iff_eq,Bool.or_eq_false_iff];constructor
 ·intro ⟨h1,⟨h2,h3⟩,h4⟩;have hd:s≠0→s≠n:=fun h5 h6=>by
   rw [h6,beq_self_eq_true,Bool.and_true,Bool.not_eq_false',beq_iff_eq] at h3;exact h5 (h6.trans h3)
  have ha:∀ i,i<L.length→(atI L i 0=1↔(s=(i:Int)+1∨n=(i:Int)+1)):=fun i hi=>by
   have:=h1 i (by omega) (by omega);unfold S7 at this;rw [Bool.or_eq_false_iff,Bool.not_eq_false',beq_iff_eq] at this;have:=this.2;unfold pIs SD at this;rw [Bool.eq_iff_iff,Bool.or_eq_true,beq_iff_eq,beq_iff_eq,beq_iff_eq] at this;exact this
  refine ⟨fun i hi=>?_,ha,fun hb=>?_,hd,h4⟩
  ·have:=h1 i (by omega) (by omega);unfold S7 at this;rw [Bool.or_eq_false_iff] at this;have:=this.1;simp only [iLt,decide_eq_false_iff_not] at this;omega
  ·rw [hb,Bool.true_and,mY hs hn hd ha] at h2;simp only [iLt,decide_eq_false_iff_not] at h2
   by_cases h5:s=0
   ·by_cases h6:n=0
    ·subst h5;subst h6;exact absurd (by decide) h2
    ·exact .inr h6
   ·exact .inl h5
 ·intro h;refine ⟨fun i _ hi=>?_,⟨?_,?_⟩,h.wk⟩
  ·unfold S7;rw [Bool.or_eq_false_iff,Bool.not_eq_false',beq_iff_eq,tu h.at1 i (by omega)];have:=h.le i (by omega);exact ⟨by simp only [iLt,decide_eq_false_iff_not];omega,rfl⟩
  ·cases hb:CE L with
   | false=>rfl
   | true =>
    rw [mY hs hn h.ne h.at1,Bool.true_and]
    rcases h.here hb with h5 | h5
    ·rw [beq_false_of_ne h5];cases n==0<;>rfl
    ·rw [beq_false_of_ne h5];cases s==0<;>rfl
  ·cases h5:s==0 with
   | true=>rfl
   | false =>
    rw [beq_eq_false_iff_ne] at h5;rw [beq_false_of_ne (h.ne h5)];rfl
theorem wh {r:Rul} {s:Inn} (h:InnOk r s):BatOk s.batters s.striker s.other s.wickets:=(uZ (by rw [h.lb];exact h.st) (by rw [h.lb];exact h.ot)).1 h.bat
theorem mz {r:Rul} {s:Inn} (h:InnOk r s):2≤r.side∧r.side≤11:=(DQ h.code).side
theorem Od {L:Rows} {p v:Int} (hs:Shp L) (hp:ix p<L.length):FQ (DN L p v)+cond (atI L (ix p) 0==2) 1 0=FQ L+cond (v==2) 1 0:=by
 have:=xj (w:=2) (v:=v) hs hp;unfold FQ;rw [EP];exact this
theorem wy {s:Inn} {p:Int} (h:(FI s p==0)=true):inR p s.batters.length=true∧E7 s.batters s.striker s.other=true∧atI s.batters (ix p) 0≠1∧atI s.batters (ix p) 0≠2:=by
 unfold FI at h;cases h1:inR p s.batters.length with
 | false=>rw [h1] at h;cases h
 | true =>
  cases h2:E7 s.batters s.striker s.other with
  | false=>rw [h1,h2] at h;cases h
  | true =>
   cases h3:atI s.batters (ix p) 0==1 with
   | true=>rw [h1,h2,h3] at h;cases h
   | false =>
    cases h4:atI s.batters (ix p) 0==2 with
    | true=>rw [h1,h2,h3,h4] at h;cases h
    | false=>exact ⟨rfl,rfl,beq_eq_false_iff_ne.1 h3,beq_eq_false_iff_ne.1 h4⟩
theorem fx {s:Inn} {p:Int} {hurt:Bool} (h:((Dq s p hurt).2==0)=true):inR p s.batters.length=true∧s.striker≠0∧s.other≠0∧(p=s.striker∨p=s.other)∧(hurt&&((Ds s.batters s.batters.length).length:Int)==0)=false:=by
 unfold Dq at h;cases h1:inR p s.batters.length with
 | false=>rw [h1] at h;cases h
 | true =>
  cases h2:s.striker==0 with
  | true=>rw [h1,h2] at h;cases h
  | false =>
   cases h3:s.other==0 with
   | true=>rw [h1,h2,h3] at h;cases h
   | false =>
    cases h4:(!(p==s.striker) && !(p==s.other)) with
    | true=>rw [h1,h2,h3,h4] at h;cases h
    | false =>
     cases h5:(hurt&&((Ds s.batters s.batters.length).length:Int)==0) with
     | true=>rw [h1,h2,h3,h4,h5] at h;cases h
     | false =>
      refine ⟨rfl,beq_eq_false_iff_ne.1 h2,beq_eq_false_iff_ne.1 h3,?_,rfl⟩;rw [Bool.and_eq_false_iff,Bool.not_eq_false',Bool.not_eq_false',beq_iff_eq,beq_iff_eq] at h4;exact h4
end Go.Px
end
