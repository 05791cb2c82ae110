/- Part 14. -/
import Derived.Test.YtefmhiojnbekpaaGreatDoorPart13
import Derived.Shelf.Strconv.Itoa3
import Derived.Shelf.LaysM
import Derived.Shelf.Strconv.Itoa4
import Derived.Test.YtefmhiojnbekpaaGreatDoorProg
set_option linter.unusedVariables false
set_option linter.unusedSimpArgs false
section
namespace Go.Px
set_option maxRecDepth 100000
def okN (z:Int):Bool:=iLe 0 z&&iLe z 1000000
theorem dR (z:Int):(iLt z 0||iLt 1000000 z) = !okN z:=by
 unfold okN iLe iLt
 by_cases h1:z<0
 ·rw [decide_eq_true h1,decide_eq_false (show ¬ 0≤z by omega)];rfl
 ·by_cases h2:1000000<z
  ·rw [decide_eq_false h1,decide_eq_true h2,decide_eq_true (show 0≤z by omega),decide_eq_false (show ¬ z≤1000000 by omega)];rfl
  ·rw [decide_eq_false h1,decide_eq_false h2,decide_eq_true (show 0≤z by omega),decide_eq_true (show z≤1000000 by omega)];rfl
theorem MI {z:Int} (h:okN z=true):∃ n:Nat,z=n∧n≤1000000:=by
 unfold okN iLe at h;rw [Bool.and_eq_true,decide_eq_true_eq,decide_eq_true_eq] at h;exact ⟨z.toNat,by omega,by omega⟩
theorem sm1 {n:Nat} (h:n≤1000000000):iSm (n:Int) 1=true:=by
 simp only [iSm,decide_eq_true_eq];omega
theorem aw {N:Nat} {z:Int}  : Fz N [.int z]=some [.bool (!okN z)]:=by
 show Iu (std (QU N) N) (xOf _)=_;simp only [Iu,Alg.q,std,xOf,PXb];rw [← dR]
theorem WG {N:Nat} {zs:List Int} (hN:2097152<N) (hl:zs.length≤100):CF N [.rows (aU zs)]=some [.bool (!Nat.blt (GX (fun j => !okN (zs.getD j 0)) zs.length 0) zs.length)]:=by
 show LV (std (Mv N) N) (xOf _)=_;simp only [LV,Pc,Alg.q,std,xOf,PXb,aw];have ple:=Km (fun j => !okN (zs.getD j 0)) zs.length 0;have pno:=Pu (fun j => !okN (zs.getD j 0)) zs.length 0;have pyes:=Mo (fun j => !okN (zs.getD j 0)) zs.length 0;rw [Nat.zero_add] at ple pyes;generalize GX (fun j => !okN (zs.getD j 0)) zs.length 0=p at *
 refine BX (v:=[.int (cond (Nat.blt p zs.length) (p:Int) (-1))]) ?_ ?_
 ·refine AW (RG (len:=zs.length) (p:=p) (fun i=>[.int (i:Int)]) [.int 0,.int (p:Int)] [.int 1] ple ?_ ?_ ?_ N (by omega)) ?_
  ·intro _ self;simp only [PXb,PXc,PXn,AE,Ye,BI]
  ·intro i self hi;have hb:=pno i (Nat.zero_le _) hi;have h2:i<zs.length:=by omega
   simp only [PXb,PXc,PXn,AE,Ye,CN (show i≤1099511627776 by omega),Ar h2,AX h2,CO,lS,hb]
  ·intro h2 self;have hb:=pyes h2;simp only [PXb,PXc,PXn,AE,Ye,Ar h2,AX h2,CO,lS,hb]
  ·cases Nat.blt p zs.length<;>rfl
 ·cases Nat.blt p zs.length with
  | true =>
   have:iLe 0 (p:Int)=true:=by simp only [iLe,decide_eq_true_eq];omega
   simp only [PXb,PXc,PXn,AE,this]
  | false =>
   have:iLe 0 (-1)=false:=rfl;simp only [PXb,PXc,PXn,AE,this]
theorem oB {N:Nat} {a b:Int} (hN:2097152<N):CF N [.rows [[.int a],[.int b]]]=some [.bool (okN a&&okN b)]:=by
 refine (WG (zs:=[a,b]) hN (by simp)).trans ?_;show some [PV.bool (!Nat.blt (cond (!okN a) 0 (cond (!okN b) 1 2)) 2)]=_;cases okN a<;>cases okN b<;>rfl
theorem ni {N:Nat} {a b c d:Int} (hN:2097152<N):CF N [.rows [[.int a],[.int b],[.int c],[.int d]]]=some [.bool (okN a&&okN b&&okN c&&okN d)]:=by
 refine (WG (zs:=[a,b,c,d]) hN (by simp)).trans ?_;show some [PV.bool (!Nat.blt (cond (!okN a) 0 (cond (!okN b) 1 (cond (!okN c) 2 (cond (!okN d) 3 4)))) 4)]=_;cases okN a<;>cases okN b<;>cases okN c<;>cases okN d<;>rfl
theorem XQ {N:Nat} {z:Int}  : D2 N [.int z]=some [.bool (okN z)]:=by
 show NQ (std (Uo N) N) (xOf _)=_;simp only [NQ,Alg.q,std,xOf,PXb];unfold okN;cases iLe 0 z<;>rfl
def dL (b r per:Int):List PV:=cond (!(okN r&&okN b)||iLt per 4||iLt 8 per) [.int 0,.int 0,.int 2] (cond (b==0) [.int 0,.int 0,.int 1] (mkS (per * r).toNat b.toNat))
theorem eP {b r per:Int} (h:(!(okN r&&okN b)||iLt per 4||iLt 8 per)=false) (hb:(b==0)=false):∃ n d:Nat,IntKind.i64.wrap (per * r)=(n:Int)∧b=(d:Int)∧(per * r).toNat=n∧b.toNat=d∧n≤1000000000∧0<d∧d≤2000000:=by
 rw [Bool.or_eq_false_iff,Bool.or_eq_false_iff,Bool.not_eq_false',Bool.and_eq_true] at h;obtain ⟨⟨⟨h1,h2⟩,h3⟩,h4⟩:=h;obtain ⟨rn,rfl,hr⟩:=MI h1;obtain ⟨d,rfl,hd⟩:=MI h2;simp only [iLt,decide_eq_false_iff_not] at h3 h4;obtain ⟨pn,rfl⟩:∃ m:Nat,per=m:=⟨per.toNat,by omega⟩;have hle:pn * rn≤8 * 1000000:=Nat.mul_le_mul (by omega) hr;have e:(pn:Int) * (rn:Int)=((pn * rn:Nat):Int):=by rw [Int.natCast_mul]
 rw [beq_eq_false_iff_ne] at hb;refine ⟨pn * rn,d,?_,rfl,?_,Int.toNat_natCast _,by omega,by omega,by omega⟩
 ·rw [e];exact Dn (by omega) (by omega)
 ·rw [e];exact Int.toNat_natCast _
set_option maxHeartbeats 2000000 in
theorem Ws {N:Nat} {p:Int} {b:Int} {m:Int} {r:Int} {w:Int} {wd:Int} {nb:Int} {per:Int} (hN:2097152<N):Bk N [.int p,.int b,.int m,.int r,.int w,.int wd,.int nb,.int per]=some (dL b r per):=by
 show Fd (std (Ed N) N) (xOf _)=_;simp only [Fd,M1,M2,Alg.q,std,xOf,PXb,oB hN];unfold dL;cases h : !(okN r&&okN b)||iLt per 4||iLt 8 per with
 | true=>cases h1 : !(okN r&&okN b)<;>cases h2:iLt per 4<;>cases h3:iLt 8 per<;>rw [h1,h2,h3] at h<;>first | (cases h;done) | rfl
 | false =>
  cases hb:b==0 with
  | true=>cases h1 : !(okN r&&okN b)<;>cases h2:iLt per 4<;>cases h3:iLt 8 per<;>rw [h1,h2,h3] at h<;>first | (cases h;done) | rfl
  | false =>
   obtain ⟨n,d,e1,e2,e3,e4,e5,e6,e7⟩:=eP h hb;have hc:(cond (cond (!(okN r&&okN b)) true (iLt per 4)) true (iLt 8 per))=false:=by
    cases h1 : !(okN r&&okN b)<;>cases h2:iLt per 4<;>cases h3:iLt 8 per<;>rw [h1,h2,h3] at h<;>first | (cases h;done) | rfl
   simp only [PXb,h,e1,e3,e4];rw [e2];refine BX (de hN e5 e6 e7) rfl
set_option maxHeartbeats 2000000 in
theorem cn {N:Nat} {p:Int} {b:Int} {m:Int} {r:Int} {w:Int} {wd:Int} {nb:Int} {per:Int} (hN:2097152<N):KA N [.int p,.int b,.int m,.int r,.int w,.int wd,.int nb,.int per]=some (dL b r per):=by
 show KH (std (Hk N) N) (xOf _)=_;simp only [KH,Qy,Rx,Alg.q,std,xOf,PXb,XQ];unfold dL;cases h : !(okN r&&okN b)||iLt per 4||iLt 8 per with
 | true=>cases h1:okN r<;>cases h4:okN b<;>cases h2:iLt per 4<;>cases h3:iLt 8 per<;>rw [h1,h4,h2,h3] at h<;>first | (cases h;done) | rfl
 | false =>
  cases hb:b==0 with
  | true=>cases h1:okN r<;>cases h4:okN b<;>cases h2:iLt per 4<;>cases h3:iLt 8 per<;>rw [h1,h4,h2,h3] at h<;>first | (cases h;done) | rfl
  | false =>
   obtain ⟨n,d,e1,e2,e3,e4,e5,e6,e7⟩:=eP h hb;have hs:okN r=true∧okN b=true∧iLt per 4=false∧iLt 8 per=false:=by
    rw [Bool.or_eq_false_iff,Bool.or_eq_false_iff,Bool.not_eq_false',Bool.and_eq_true] at h;exact ⟨h.1.1.1,h.1.1.2,h.1.2,h.2⟩
   obtain ⟨k1,k2,k3,k4⟩:=hs;simp only [PXb,k1,k2,k3,k4,e1,e3,e4,Bool.not_true,Bool.not_false];rw [e2];refine BX (iP hN e5 e6 e7) rfl
def otS (n per:Int):ByteArray×Int:=cond (!(iLe 1 per&&iLe per 8) || !okN n) (⟨#[]⟩,2) (CU (n.toNat / per.toNat)++⟨#[46]⟩++CU (n.toNat % per.toNat),0)
theorem eJ {n per:Int} (h:(!(iLe 1 per&&iLe per 8) || !okN n)=false):∃ a b:Nat,n=(a:Int)∧per=(b:Int)∧a≤1000000∧0<b∧b≤8:=by
 rw [Bool.or_eq_false_iff,Bool.not_eq_false',Bool.not_eq_false',Bool.and_eq_true] at h;obtain ⟨⟨h1,h2⟩,h3⟩:=h;obtain ⟨a,rfl,ha⟩:=MI h3;simp only [iLe,decide_eq_true_eq] at h1 h2;exact ⟨a,per.toNat,rfl,by omega,ha,by omega,by omega⟩
theorem LE {N:Nat} {z:Int} {lo:Int} {hi:Int}  : BK N [.int z,.int lo,.int hi]=some [.bool (iLe lo z&&iLe z hi)]:=by
 show HZ (std (O7 N) N) (xOf _)=_;simp only [HZ,Alg.q,std,xOf,PXb]
theorem UQ {N:Nat} {per:Int}  : Cg N [.int per]=some [.bool (iLe 1 per&&iLe per 8)]:=by
 show J7 (std (L2 N) N) (xOf _)=_;simp only [J7,N2,Alg.q,std,xOf,PXb,LE]
theorem iZ {a b:Nat} (ha:a≤1000000) (hb:0<b):a / b≤1000000∧a % b≤1000000:=⟨Nat.le_trans (Nat.div_le_self a b) ha,Nat.le_trans (Nat.mod_le a b) ha⟩
theorem iw {N a b:Nat} (ha:a≤1000000) (hb:0<b) (hb8:b≤8):Lt N [.int (a:Int),.int (b:Int)]=some [.int ((a / b:Nat):Int),.int ((a % b:Nat):Int)]:=by
 show PF (std (LG N) N) (xOf _)=_;have k1:iLe 1 (b:Int)=true:=by simp only [iLe,decide_eq_true_eq];omega
 have k2:iLe (b:Int) 8=true:=by simp only [iLe,decide_eq_true_eq];omega
 have k3:iLe 0 (a:Int)=true:=by simp only [iLe,decide_eq_true_eq];omega
 have k4:iLe (a:Int) 1000000=true:=by simp only [iLe,decide_eq_true_eq];omega
 have b0:((b:Int)==0)=false:=beq_eq_false_iff_ne.2 (by omega);simp only [PF,R5,Qp,Alg.q,std,xOf,PXb,UQ,LE,k1,k2,k3,k4,b0,Ps (show a≤1000000000 by omega)];rfl
theorem mB {N a b:Nat} (ha:a≤1000000) (hb:0<b) (hb8:b≤8):Qk N [.int (a:Int),.int (b:Int)]=some [.int ((a / b:Nat):Int),.int ((a % b:Nat):Int)]:=by
 show UA (std (T1 N) N) (xOf _)=_;have k1:iLe 1 (b:Int)=true:=by simp only [iLe,decide_eq_true_eq];omega
 have k2:iLe (b:Int) 8=true:=by simp only [iLe,decide_eq_true_eq];omega
 have k3:iLt (a:Int) 0=false:=by simp only [iLt,decide_eq_false_iff_not];omega
 have k4:iLt 1000000 (a:Int)=false:=by simp only [iLt,decide_eq_false_iff_not];omega
 have b0:((b:Int)==0)=false:=beq_eq_false_iff_ne.2 (by omega);have K:C5 N [.int (b:Int)]=some [.bool true]:=by
  show HK (std (OX N) N) (xOf _)=_;simp only [HK,Alg.q,std,xOf,PXb,k1,k2]
 simp only [UA,WI,Alg.q,std,xOf,PXb,K,k3,k4,b0,Ps (show a≤1000000000 by omega)];rfl
theorem aa {a b:Nat} (ha:a≤1000000) (hb:0<b):(CU (a / b)++⟨#[46]⟩:ByteArray).size≤1000002∧(CU (a / b)++⟨#[46]⟩++CU (a % b):ByteArray).size≤2000003:=by
 obtain ⟨h1,h2⟩:=iZ ha hb;have s1:=Cd h1;have s2:=Cd h2;have e1:(⟨#[46]⟩:ByteArray).size=1:=rfl;simp only [ByteArray.size_append,e1];omega
set_option maxHeartbeats 2000000 in
theorem fo {N:Nat} {n:Int} {per:Int}  : IB N [.int n,.int per]=some [.str (otS n per).1,.int (otS n per).2]:=by
 show LY (std (D6 N) N) (xOf _)=_;simp only [LY,QX,OZ,S4,Pe,Alg.q,std,xOf,PXb,UQ,LE];unfold otS;cases h : !(iLe 1 per&&iLe per 8) || !okN n with
 | true =>
  cases h1:(iLe 1 per&&iLe per 8) with
  | false=>rfl
  | true =>
   rw [h1] at h;have h:(!okN n)=true:=h;unfold okN at h;rw [Bool.not_eq_true'] at h;simp only [PXb,Bool.not_true,Bool.not_false,h]
 | false =>
  obtain ⟨a,b,rfl,rfl,h1,h2,h3⟩:=eJ h;rw [Bool.or_eq_false_iff,Bool.not_eq_false',Bool.not_eq_false'] at h;obtain ⟨k1,k2⟩:=h;unfold okN at k2;obtain ⟨d1,d2⟩:=iZ h1 h2;obtain ⟨z1,z2⟩:=aa h1 h2;have m1:iSm ((CU (a / b)).size:Int) 1=true:=sm1 (by have:=Cd d1;omega);have m2:iSm ((CU (a % b)).size:Int) 1=true:=sm1 (by have:=Cd d2;omega);have m3:iSm (((⟨#[46]⟩:ByteArray).size:Nat):Int) 1=true:=by decide
  have m4:iSm ((CU (a / b)++⟨#[46]⟩:ByteArray).size:Int) 1=true:=sm1 (by omega);simp only [PXb,k1,k2,Bool.not_true,Bool.not_false];refine BX (iw h1 h2 h3) ?_;simp only [PXb];refine BX (S5 d1) ?_;simp only [PXb,m1,m3];refine BX (S5 d2) ?_;simp only [PXb,m2,m4,Int.toNat_natCast]
set_option maxHeartbeats 2000000 in
theorem jK {N:Nat} {n:Int} {per:Int} (hN:2097152<N):Lc N [.int n,.int per]=some [.str (otS n per).1,.int (otS n per).2]:=by
 show Pb (std (II N) N) (xOf _)=_;have K:C5 N [.int per]=some [.bool (iLe 1 per&&iLe per 8)]:=by
  show HK (std (OX N) N) (xOf _)=_;simp only [HK,Alg.q,std,xOf,PXb]
 simp only [Pb,SJ,Tp,Ww,Alg.q,std,xOf,PXb,K];unfold otS;rw [← dR];cases h : !(iLe 1 per&&iLe per 8)||(iLt n 0||iLt 1000000 n) with
 | true=>cases h1:(iLe 1 per&&iLe per 8)<;>cases h2:iLt n 0<;>cases h3:iLt 1000000 n<;>rw [h1,h2,h3] at h<;>first | (cases h;done) | rfl
 | false =>
  have h':(!(iLe 1 per&&iLe per 8) || !okN n)=false:=by rw [← dR];exact h
  obtain ⟨a,b,rfl,rfl,h1,h2,h3⟩:=eJ h';rw [Bool.or_eq_false_iff,Bool.or_eq_false_iff,Bool.not_eq_false'] at h;obtain ⟨k1,k2,k3⟩:=h;obtain ⟨d1,d2⟩:=iZ h1 h2;obtain ⟨z1,z2⟩:=aa h1 h2;have m1:iSm ((CU (a / b)).size:Int) 1=true:=sm1 (by have:=Cd d1;omega);have m2:iSm ((CU (a % b)).size:Int) 1=true:=sm1 (by have:=Cd d2;omega);have m3:iSm (((⟨#[46]⟩:ByteArray).size:Nat):Int) 1=true:=by decide
  have m4:iSm ((CU (a / b)++⟨#[46]⟩:ByteArray).size:Int) 1=true:=sm1 (by omega);simp only [PXb,k1,k2,k3,Bool.not_true,Bool.not_false];refine BX (mB h1 h2 h3) ?_;simp only [PXb];refine BX (Oi hN d1) ?_;simp only [PXb,m1,m3];refine BX (Oi hN d2) ?_;simp only [PXb,m2,m4,Int.toNat_natCast]
def jnS (s:ByteArray) (zs:List Nat):Nat→ByteArray
 | 0=>s
 | i+1=>jnS s zs i++(⟨#[45]⟩++CU (zs.getD i 0))
theorem gz {s:ByteArray} {zs:List Nat} (hz:∀ i,zs.getD i 0≤1000000) (hs:s.size≤2000003):∀ i,(jnS s zs i).size≤2000003+1000002 * i
 | 0=>by show s.size≤_;omega
 | i+1=>by
  have ih:=gz hz hs i;have e1:(⟨#[45]⟩:ByteArray).size=1:=rfl;have d:=Cd (hz i);show (jnS s zs i++(⟨#[45]⟩++CU (zs.getD i 0)):ByteArray).size≤_;simp only [ByteArray.size_append,e1];omega
def Wh (b m r w per:Int):ByteArray×Int:=cond (!(okN b&&okN m&&okN r&&okN w)) (⟨#[]⟩,2) (cond (!((otS b per).2==0)) (⟨#[]⟩,(otS b per).2) (jnS (otS b per).1 [m.toNat,r.toNat,w.toNat] 3,0))
theorem mX {n per:Int} (h:((otS n per).2==0)=true):(otS n per).1.size≤2000003:=by
 unfold otS at h ⊢;cases hb : !(iLe 1 per&&iLe per 8) || !okN n with
 | true=>rw [hb] at h;cases h
 | false =>
  obtain ⟨a,b,rfl,rfl,h1,h2,h3⟩:=eJ hb;exact (aa h1 h2).2
theorem cA {N : Nat} (hN : 2097152 < N) {s : ByteArray} {m r w : Nat} (hs : s.size ≤ 2000003) (hm : m ≤ 1000000) (hr : r ≤ 1000000) (hw : w ≤ 1000000) {F : (List AU → Option (List PV)) → List PV → Option (List PV)}
    (h0:∀ t self,F self [.str t,.int ((3:Nat):Int)]=some [.str t]) (h1:∀ (i:Nat) (t:ByteArray) self,i<3→t.size≤6000000→F self [.str t,.int (i:Int)]=self [.str (t++(⟨#[45]⟩++CU ([m,r,w].getD i 0))),.int ((i+1:Nat):Int)]) :
    Cy F N [.str s,.int 0]=some [.str (jnS s [m,r,w] 3)]:=by
  have hz:∀ i,[m,r,w].getD i 0≤1000000:=fun i=>by
    match i with
    | 0=>exact hm
    | 1=>exact hr
    | 2=>exact hw
    | i+3=>exact Nat.zero_le _
  exact DY (F:=F) (len:=3) (fun i=>[.str (jnS s [m,r,w] i),.int (i:Int)]) [.str (jnS s [m,r,w] 3)] (fun self=>h0 _ self) (fun i self hi=>h1 i _ self hi (by have:=gz hz hs i;omega)) N (by omega)
theorem mh {m r w:Nat} (i:Nat) (hi:i<3):atI (aU [(m:Int),(r:Int),(w:Int)]) i 0=(([m,r,w].getD i 0:Nat):Int):=by
 rw [lS]
 match i,hi with
 | 0,_=>rfl
 | 1,_=>rfl
 | 2,_=>rfl
set_option maxHeartbeats 2000000 in
theorem bB {N:Nat} {p:Int} {b:Int} {m:Int} {r:Int} {w:Int} {wd:Int} {nb:Int} {per:Int} (hN:2097152<N):CS N [.int p,.int b,.int m,.int r,.int w,.int wd,.int nb,.int per]=some [.str (Wh b m r w per).1,.int (Wh b m r w per).2]:=by
 show I5 (std (EN N) N) (xOf _)=_;simp only [I5,PY,PS,Nm,Alg.q,std,xOf,PXb,ni hN];unfold Wh;cases h:okN b&&okN m&&okN r&&okN w with
 | false=>rfl
 | true =>
  rw [Bool.and_eq_true,Bool.and_eq_true,Bool.and_eq_true] at h;obtain ⟨⟨⟨k1,k2⟩,k3⟩,k4⟩:=h;simp only [PXb,Bool.not_true];refine BX fo ?_;simp only [PXb];cases ho:(otS b per).2==0 with
  | false=>rfl
  | true =>
   obtain ⟨m,rfl,hm⟩:=MI k2;obtain ⟨r,rfl,hr⟩:=MI k3;obtain ⟨w,rfl,hw⟩:=MI k4;have hs:=mX ho;simp only [PXb,Bool.not_true,Int.toNat_natCast];refine AW (cA hN hs hm hr hw ?_ ?_) rfl
   ·intro t self;rfl
   ·intro i t self hi ht;have g:=mh (m:=m) (r:=r) (w:=w) i hi;have hz:[m,r,w].getD i 0≤1000000:=by
     match i,hi with
     | 0,_=>exact hm
     | 1,_=>exact hr
     | 2,_=>exact hw
    have l3:iLt (i:Int) (((([[.int (m:Int)],[.int (r:Int)],[.int (w:Int)]]:Rows)).length:Nat):Int)=true:=Ar (show i<([[.int (m:Int)],[.int (r:Int)],[.int (w:Int)]]:Rows).length from hi);have i3:iIn (i:Int) (((([[.int (m:Int)],[.int (r:Int)],[.int (w:Int)]]:Rows)).length:Nat):Int)=true:=AX (show i<([[.int (m:Int)],[.int (r:Int)],[.int (w:Int)]]:Rows).length from hi);have g':pvI (AH ([[.int (m:Int)],[.int (r:Int)],[.int (w:Int)]]:Rows) i 0)=(([m,r,w].getD i 0:Nat):Int):=g;generalize [m,r,w].getD i 0=z at *
    have m1:iSm ((CU z).size:Int) 1=true:=sm1 (by have:=Cd hz;omega);have m2:iSm (((⟨#[45]⟩:ByteArray).size:Nat):Int) 1=true:=by decide
    have m3:iSm ((t.size:Nat):Int) 1=true:=sm1 (by omega);have m4:iSm ((⟨#[45]⟩++CU z:ByteArray).size:Int) 1=true:=sm1 (by
     have:=Cd hz;have e1:(⟨#[45]⟩:ByteArray).size=1:=rfl;simp only [ByteArray.size_append,e1];omega)
    simp only [PXb,Int.toNat_natCast,l3,i3,g',CN (show i≤1099511627776 by omega)];refine BX (aL hz) ?_;simp only [PXb,m1,m2,m3,m4]
set_option maxHeartbeats 2000000 in
theorem jF {N:Nat} {p:Int} {b:Int} {m:Int} {r:Int} {w:Int} {wd:Int} {nb:Int} {per:Int} (hN:2097152<N):PW N [.int p,.int b,.int m,.int r,.int w,.int wd,.int nb,.int per]=some [.str (Wh b m r w per).1,.int (Wh b m r w per).2]:=by
 show Ph (std (IV N) N) (xOf _)=_;simp only [Ph,TO,Uz,R7,Alg.q,std,xOf,PXb,XQ];unfold Wh;cases k1:okN b with
 | false=>rfl
 | true =>
  cases k2:okN m with
  | false=>rfl
  | true =>
   cases k3:okN r with
   | false=>rfl
   | true =>
    cases k4:okN w with
    | false=>rfl
    | true =>
     simp only [PXb,Bool.not_true,Bool.not_false];refine BX (jK hN) ?_;simp only [PXb];cases ho:(otS b per).2==0 with
     | false=>rfl
     | true =>
      obtain ⟨m,rfl,hm⟩:=MI k2;obtain ⟨r,rfl,hr⟩:=MI k3;obtain ⟨w,rfl,hw⟩:=MI k4;have hs:=mX ho;simp only [PXb,Bool.not_true,Int.toNat_natCast];refine AW (cA hN hs hm hr hw ?_ ?_) rfl
      ·intro t self;rfl
      ·intro i t self hi ht;have g:=mh (m:=m) (r:=r) (w:=w) i hi;have hz:[m,r,w].getD i 0≤1000000:=by
        match i,hi with
        | 0,_=>exact hm
        | 1,_=>exact hr
        | 2,_=>exact hw
       have l3:iLt (i:Int) (((([[.int (m:Int)],[.int (r:Int)],[.int (w:Int)]]:Rows)).length:Nat):Int)=true:=Ar (show i<([[.int (m:Int)],[.int (r:Int)],[.int (w:Int)]]:Rows).length from hi);have i3:iIn (i:Int) (((([[.int (m:Int)],[.int (r:Int)],[.int (w:Int)]]:Rows)).length:Nat):Int)=true:=AX (show i<([[.int (m:Int)],[.int (r:Int)],[.int (w:Int)]]:Rows).length from hi);have g':pvI (AH ([[.int (m:Int)],[.int (r:Int)],[.int (w:Int)]]:Rows) i 0)=(([m,r,w].getD i 0:Nat):Int):=g;generalize [m,r,w].getD i 0=z at *
       have m1:iSm ((CU z).size:Int) 1=true:=sm1 (by have:=Cd hz;omega);have m2:iSm (((⟨#[45]⟩:ByteArray).size:Nat):Int) 1=true:=by decide
       have m3:iSm ((t.size:Nat):Int) 1=true:=sm1 (by omega);have m4:iSm ((⟨#[45]⟩++CU z:ByteArray).size:Int) 1=true:=sm1 (by
        have:=Cd hz;have e1:(⟨#[45]⟩:ByteArray).size=1:=rfl;simp only [ByteArray.size_append,e1];omega)
       simp only [PXb,Int.toNat_natCast,l3,i3,g',CN (show i≤1099511627776 by omega)];refine BX (Oi hN hz) ?_;simp only [PXb,m1,m2,m3,m4]
end Go.Px
end
section
namespace Go.Px
set_option maxRecDepth 100000
theorem kl {N:Nat} {L:Rows}  : Ny N [.rows L]=some [.rows (cut L 11)]:=by
 show Nq (std (Jd N) N) (xOf _)=_;simp only [Nq,Alg.q,std,xOf,PXb,PXc,PXn,PXm,Nat.reduceAdd,Int.reduceBEq,pA (show (0:Int)≤11 by omega)];rfl
def QH (w2 r2 w r:Int):Bool:=iLt w w2||(w2==w&&iLt r2 r)
theorem l7 (w r:Int):QH w r w r=false:=by
 simp only [QH,iLt,Bool.or_eq_false_iff,Bool.and_eq_false_iff,decide_eq_false_iff_not];omega
theorem mq (a b c d:Int):(QH a b c d&&QH c d a b)=false:=by
 cases h:QH a b c d with
 | false=>rfl
 | true =>
  rw [Bool.true_and];simp only [QH,iLt,Bool.or_eq_true,Bool.and_eq_true,decide_eq_true_eq,beq_iff_eq] at h;simp only [QH,iLt,Bool.or_eq_false_iff,Bool.and_eq_false_iff,decide_eq_false_iff_not,beq_eq_false_iff_ne];omega
theorem Yd {N:Nat} {p1:Int} {b1:Int} {m1:Int} {r1:Int} {w1:Int} {wd1:Int} {nb1:Int} {p2:Int} {b2:Int} {m2:Int} {r2:Int} {w2:Int} {wd2:Int} {nb2:Int}  : Gr N [.int p1,.int b1,.int m1,.int r1,.int w1,.int wd1,.int nb1,.int p2,.int b2,.int m2,.int r2,.int w2,.int wd2,.int nb2]=some [.bool (QH w1 r1 w2 r2)]:=by
 show Gq (std (Nu N) N) (xOf _)=_;simp only [Gq,Alg.q,std,xOf,PXb,PXc,PXn,PXm,Nat.reduceAdd,Int.reduceBEq];unfold QH;rfl
theorem eg {N:Nat} {p1:Int} {b1:Int} {m1:Int} {r1:Int} {w1:Int} {wd1:Int} {nb1:Int} {p2:Int} {b2:Int} {m2:Int} {r2:Int} {w2:Int} {wd2:Int} {nb2:Int}  : MD N [.int p1,.int b1,.int m1,.int r1,.int w1,.int wd1,.int nb1,.int p2,.int b2,.int m2,.int r2,.int w2,.int wd2,.int nb2]=some [.bool (QH w1 r1 w2 r2)]:=by
 show LS (std (SY N) N) (xOf _)=_;simp only [LS,Alg.q,std,xOf,PXb,PXc,PXn,PXm,Nat.reduceAdd,Int.reduceBEq];unfold QH;rfl
def tsS (X:Rows):Nat→Int
 | 0=>0
 | i+1=>IntKind.i64.wrap (tsS X i+pvI (AH X i 3))
theorem Yu {N:Nat} {X:Rows} (hN:2097152<N) (l:X.length≤1000000):Ho N [.rows X]=some [.int (tsS X X.length)]:=by
 show Hf (std (On N) N) (xOf _)=_;simp only [Hf,Alg.q,std,xOf,PXb];refine AW (DY (len:=X.length) (fun j=>[.int (tsS X j),.int (j:Int)]) [.int (tsS X X.length)] ?_ ?_ N (by omega)) rfl
 ·intro self;simp only [PXb,PXc,PXn,AE,BI]
 ·intro j self hj;simp only [PXb,PXc,PXn,AE,CN (show j≤1099511627776 by omega),Ar hj,AX hj];rfl
theorem gM {N:Nat} {X:Rows} (hN:2097152<N) (l:X.length≤1000000):NU N [.rows X]=some [.int (tsS X X.length)]:=by
 show NT (std (UU N) N) (xOf _)=_;simp only [NT,Alg.q,std,xOf,PXb];refine AW (DY (len:=X.length) (fun j=>[.int (tsS X j),.int (j:Int)]) [.int (tsS X X.length)] ?_ ?_ N (by omega)) rfl
 ·intro self;simp only [PXb,PXc,PXn,AE,BI]
 ·intro j self hj;simp only [PXb,PXc,PXn,AE,CN (show j≤1099511627776 by omega),Ar hj,AX hj];rfl
set_option maxHeartbeats 4000000 in
theorem VH {N:Nat} {L:Rows} {k:Int} (ha:JV N []=some [.bool true]) (hN:2097152<N):C6 N [.rows L,.int k]=some [.bool true]:=by
 show C8 (std (Ad N) N) (xOf _)=_;have l:(cut L 11).length≤1000000:=Nat.le_trans (oe L 11) (show 11≤1000000 by omega);simp only [C8,ND,Oa,Dg,FA,Ek,GT,D4,Fc,Ki,Ml,Alg.q,std,xOf,PXb,ha,kl];generalize cut L 11=X at *
 simp only [Yu hN l,gM hN l];refine AW (DY (len:=X.length) (fun i=>[.int (i:Int)]) [.int 1] ?_ ?_ N (by omega)) ?_
 ·intro self;simp only [PXb,PXc,PXn,AE,BI]
 ·intro i self hi;have i0:iIn 0 (X.length:Int)=true:=AX (show 0<X.length by omega);simp only [PXb,PXc,PXn,PXm,Nat.reduceAdd,Int.reduceBEq,Ax (show i≤1099511627776 by omega),Ar hi,AX hi,i0,Dg,Ws hN,FA,cn hN,Ek,bB hN,GT,jF hN,D4,Yd,Fc,eg,beq_self_eq_true,l7,mq];rfl
 ·simp only [PXb,PXc,PXn,PXm,Nat.reduceAdd,Int.reduceBEq,beq_self_eq_true]
end Go.Px
end
section
namespace Go.Proofs
open Go.Shelf
def Tryz.laysM246_ren:Go.Shelf.Ren:=⟨fun | 246=>91 | 283=>111 | 284=>112 | 285=>113 | 286=>114 | 129=>136 | 317=>135 | 318=>137 | 319=>138 | 320=>139 | 337=>162 | 338=>163 | n=>n,fun | 2=>2 | 3=>3 | 9=>9 | 4=>4 | 171=>158 | 0=>0 | 53=>146 | 37=>161 | 5=>5 | 173=>162 | 212=>179 | 51=>180 | 20=>20 | 213=>181 | 46=>182 | 232=>209 | 233=>210 | n=>n,fun | 17=>0 | 18=>1 | 19=>2 | n=>n⟩
theorem Tryz.laysM246:Go.Proofs.LaysM.n246 Tryz.prog Tryz.laysM246_ren:={
  mixed:=by kernel_rfl
  f129:=Tryz.func136.trans (congrArg some (by kernel_rfl))
  f246:=Tryz.func91.trans (congrArg some (by kernel_rfl))
  f283:=Tryz.func111.trans (congrArg some (by kernel_rfl))
  f284:=Tryz.func112.trans (congrArg some (by kernel_rfl))
  f285:=Tryz.func113.trans (congrArg some (by kernel_rfl))
  f286:=Tryz.func114.trans (congrArg some (by kernel_rfl))
  f317:=Tryz.func135.trans (congrArg some (by kernel_rfl))
  f318:=Tryz.func137.trans (congrArg some (by kernel_rfl))
  f319:=Tryz.func138.trans (congrArg some (by kernel_rfl))
  f320:=Tryz.func139.trans (congrArg some (by kernel_rfl))
  f337:=Tryz.func162.trans (congrArg some (by kernel_rfl))
  f338:=Tryz.func163.trans (congrArg some (by kernel_rfl))
  t0:=Tryz.underlying0
  a0:=Tryz.isAgg0
  z0:=Tryz.sizeOf0
  v0:=Tryz.zeroValue0
  t2:=Tryz.underlying2
  a2:=Tryz.isAgg2
  z2:=Tryz.sizeOf2
  v2:=Tryz.zeroValue2
  t3:=Tryz.underlying3
  a3:=Tryz.isAgg3
  z3:=Tryz.sizeOf3
  v3:=Tryz.zeroValue3
  t4:=Tryz.underlying4
  a4:=Tryz.isAgg4
  z4:=Tryz.sizeOf4
  v4:=Tryz.zeroValue4
  t5:=Tryz.underlying5
  a5:=Tryz.isAgg5
  z5:=Tryz.sizeOf5
  v5:=Tryz.zeroValue5
  t9:=Tryz.underlying9
  a9:=Tryz.isAgg9
  z9:=Tryz.sizeOf9
  v9:=Tryz.zeroValue9
  t20:=Tryz.underlying20
  a20:=Tryz.isAgg20
  z20:=Tryz.sizeOf20
  v20:=Tryz.zeroValue20
  t37:=Tryz.underlying161
  a37:=Tryz.isAgg161
  z37:=Tryz.sizeOf161
  v37:=Tryz.zeroValue161
  t46:=Tryz.underlying182
  a46:=Tryz.isAgg182
  z46:=Tryz.sizeOf182
  v46:=Tryz.zeroValue182
  t51:=Tryz.underlying180
  a51:=Tryz.isAgg180
  z51:=Tryz.sizeOf180
  v51:=Tryz.zeroValue180
  t53:=Tryz.underlying146
  a53:=Tryz.isAgg146
  z53:=Tryz.sizeOf146
  v53:=Tryz.zeroValue146
  t171:=Tryz.underlying158
  a171:=Tryz.isAgg158
  z171:=Tryz.sizeOf158
  v171:=Tryz.zeroValue158
  t173:=Tryz.underlying162
  a173:=Tryz.isAgg162
  z173:=Tryz.sizeOf162
  v173:=Tryz.zeroValue162
  t212:=Tryz.underlying179
  a212:=Tryz.isAgg179
  z212:=Tryz.sizeOf179
  v212:=Tryz.zeroValue179
  t213:=Tryz.underlying181
  a213:=Tryz.isAgg181
  z213:=Tryz.sizeOf181
  t232:=Tryz.underlying209
  a232:=Tryz.isAgg209
  z232:=Tryz.sizeOf209
  v232:=Tryz.zeroValue209
  t233:=Tryz.underlying210
  a233:=Tryz.isAgg210
  z233:=Tryz.sizeOf210
  v233:=Tryz.zeroValue210
  g17:=by kernel_rfl
  g18:=by kernel_rfl
  g19:=by kernel_rfl
  i0:=by kernel_rfl
  i2:=by kernel_rfl
  i3:=by kernel_rfl
  i4:=by kernel_rfl
  i5:=by kernel_rfl
  i9:=by kernel_rfl
  i20:=by kernel_rfl
  i37:=by kernel_rfl
  i46:=by kernel_rfl
  i51:=by kernel_rfl
  i53:=by kernel_rfl
  i171:=by kernel_rfl
  i173:=by kernel_rfl
  i212:=by kernel_rfl
  i232:=by kernel_rfl
  i233:=by kernel_rfl
  m17:=by kernel_rfl
  m18:=by kernel_rfl
  m19:=by kernel_rfl }
open Go.RowKit Go.Sort Go.Lib in
theorem Tryz.internal_strconv_FormatInt_10 (n : Int) (h0 : -9223372036854775808 ≤ n) (h1 : n ≤ 9223372036854775807) (w : World) (htab : Lib.TabIs Tryz.prog w "internal/strconv.uint64pow10" .u64 Lib.pow10Tab) :
    Calls Tryz.prog 91 #[.int .i64 n,.int .i64 10] w fun e w'=>e=.returned (.string ⟨(Lib.itoa n).toArray⟩)∧∃ k os,w'=grow (w.drewN k) os:=Any.internal_strconv_FormatInt_10 Tryz.laysM246 n h0 h1 w htab
def Tryz.laysM243_ren:Go.Shelf.Ren:=⟨fun | 243=>90 | 246=>91 | 283=>111 | 284=>112 | 285=>113 | 286=>114 | 129=>136 | 317=>135 | 318=>137 | 319=>138 | 320=>139 | 337=>162 | 338=>163 | n=>n,fun | 3=>3 | 9=>9 | 2=>2 | 4=>4 | 171=>158 | 0=>0 | 53=>146 | 37=>161 | 5=>5 | 173=>162 | 212=>179 | 51=>180 | 20=>20 | 213=>181 | 46=>182 | 232=>209 | 233=>210 | n=>n,fun | 17=>0 | 18=>1 | 19=>2 | n=>n⟩
theorem Tryz.laysM243:Go.Proofs.LaysM.n243 Tryz.prog Tryz.laysM243_ren:={
  mixed:=by kernel_rfl
  f129:=Tryz.func136.trans (congrArg some (by kernel_rfl))
  f243:=Tryz.func90.trans (congrArg some (by kernel_rfl))
  f246:=Tryz.func91.trans (congrArg some (by kernel_rfl))
  f283:=Tryz.func111.trans (congrArg some (by kernel_rfl))
  f284:=Tryz.func112.trans (congrArg some (by kernel_rfl))
  f285:=Tryz.func113.trans (congrArg some (by kernel_rfl))
  f286:=Tryz.func114.trans (congrArg some (by kernel_rfl))
  f317:=Tryz.func135.trans (congrArg some (by kernel_rfl))
  f318:=Tryz.func137.trans (congrArg some (by kernel_rfl))
  f319:=Tryz.func138.trans (congrArg some (by kernel_rfl))
  f320:=Tryz.func139.trans (congrArg some (by kernel_rfl))
  f337:=Tryz.func162.trans (congrArg some (by kernel_rfl))
  f338:=Tryz.func163.trans (congrArg some (by kernel_rfl))
  t0:=Tryz.underlying0
  a0:=Tryz.isAgg0
  z0:=Tryz.sizeOf0
  v0:=Tryz.zeroValue0
  t2:=Tryz.underlying2
  a2:=Tryz.isAgg2
  z2:=Tryz.sizeOf2
  v2:=Tryz.zeroValue2
  t3:=Tryz.underlying3
  a3:=Tryz.isAgg3
  z3:=Tryz.sizeOf3
  v3:=Tryz.zeroValue3
  t4:=Tryz.underlying4
  a4:=Tryz.isAgg4
  z4:=Tryz.sizeOf4
  v4:=Tryz.zeroValue4
  t5:=Tryz.underlying5
  a5:=Tryz.isAgg5
  z5:=Tryz.sizeOf5
  v5:=Tryz.zeroValue5
  t9:=Tryz.underlying9
  a9:=Tryz.isAgg9
  z9:=Tryz.sizeOf9
  v9:=Tryz.zeroValue9
  t20:=Tryz.underlying20
  a20:=Tryz.isAgg20
  z20:=Tryz.sizeOf20
  v20:=Tryz.zeroValue20
  t37:=Tryz.underlying161
  a37:=Tryz.isAgg161
  z37:=Tryz.sizeOf161
  v37:=Tryz.zeroValue161
  t46:=Tryz.underlying182
  a46:=Tryz.isAgg182
  z46:=Tryz.sizeOf182
  v46:=Tryz.zeroValue182
  t51:=Tryz.underlying180
  a51:=Tryz.isAgg180
  z51:=Tryz.sizeOf180
  v51:=Tryz.zeroValue180
  t53:=Tryz.underlying146
  a53:=Tryz.isAgg146
  z53:=Tryz.sizeOf146
  v53:=Tryz.zeroValue146
  t171:=Tryz.underlying158
  a171:=Tryz.isAgg158
  z171:=Tryz.sizeOf158
  v171:=Tryz.zeroValue158
  t173:=Tryz.underlying162
  a173:=Tryz.isAgg162
  z173:=Tryz.sizeOf162
  v173:=Tryz.zeroValue162
  t212:=Tryz.underlying179
  a212:=Tryz.isAgg179
  z212:=Tryz.sizeOf179
  v212:=Tryz.zeroValue179
  t213:=Tryz.underlying181
  a213:=Tryz.isAgg181
  z213:=Tryz.sizeOf181
  t232:=Tryz.underlying209
  a232:=Tryz.isAgg209
  z232:=Tryz.sizeOf209
  v232:=Tryz.zeroValue209
  t233:=Tryz.underlying210
  a233:=Tryz.isAgg210
  z233:=Tryz.sizeOf210
  v233:=Tryz.zeroValue210
  g17:=by kernel_rfl
  g18:=by kernel_rfl
  g19:=by kernel_rfl
  i0:=by kernel_rfl
  i2:=by kernel_rfl
  i3:=by kernel_rfl
  i4:=by kernel_rfl
  i5:=by kernel_rfl
  i9:=by kernel_rfl
  i20:=by kernel_rfl
  i37:=by kernel_rfl
  i46:=by kernel_rfl
  i51:=by kernel_rfl
  i53:=by kernel_rfl
  i171:=by kernel_rfl
  i173:=by kernel_rfl
  i212:=by kernel_rfl
  i232:=by kernel_rfl
  i233:=by kernel_rfl
  m17:=by kernel_rfl
  m18:=by kernel_rfl
  m19:=by kernel_rfl }
open Go.RowKit Go.Sort Go.Lib in
theorem Tryz.internal_strconv_Itoa (n : Int) (h0 : -9223372036854775808 ≤ n) (h1 : n ≤ 9223372036854775807) (w : World) (htab : Lib.TabIs Tryz.prog w "internal/strconv.uint64pow10" .u64 Lib.pow10Tab) :
    Calls Tryz.prog 90 #[.int .i64 n] w fun e w'=>e=.returned (.string ⟨(Lib.itoa n).toArray⟩)∧∃ k os,w'=grow (w.drewN k) os:=Any.internal_strconv_Itoa Tryz.laysM243 n h0 h1 w htab
end Go.Proofs
end
