/- Part 15. -/
import Derived.Test.YtejjoflbpnjohaaGreatDoorPart14
import Derived.Test.YtejjoflbpnjohaaGreatDoorPart07
import Derived.Shelf.Strconv.Itoa3
import Derived.Shelf.LaysM
import Derived.Shelf.Strconv.Itoa4
import Derived.Test.YtejjoflbpnjohaaGreatDoorProg
import Derived.Test.YtejjoflbpnjohaaGreatDoorPart04
import Derived.Lib.Builder
import Derived.Lib.AppendStr
import Derived.WalkKit
import Derived.Shelf.RegionOpenPlain
import Derived.Lib.Walk
import Derived.Lib.UnsafeStr
import Derived.Laws.Externs
import Derived.KernelRfl
set_option linter.unusedVariables false
set_option linter.unusedSimpArgs false
section
namespace Go.Px
set_option maxRecDepth 100000
theorem jJ {F : (List AW → Option (List PV)) → List PV → Option (List PV)} (h0 : ∀ (a : Nat) self, F self [.int (a : Int), .int 0] = some [.int (a : Int)])
    (h1:∀ (a b:Nat) self,0<b→F self [.int (a:Int),.int (b:Int)]=self [.int (b:Int),.int ((a % b:Nat):Int)]):∀ (b a n:Nat),b<n→D1 F n [.int (a:Int),.int (b:Int)]=some [.int ((Nat.gcd a b:Nat):Int)]:=by
  intro b
  induction b using Nat.strongRecOn with
  | _ b ih =>
    intro a n hn;obtain ⟨n,rfl⟩:∃ m,n=m+1:=⟨n - 1,by omega⟩;show F _ _=_
    by_cases hb:b=0
    · subst hb;rw [show ((0:Nat):Int)=0 from rfl,h0,Nat.gcd_zero_right]
    · have hlt:=Nat.mod_lt a (show 0<b by omega);rw [h1 a b _ (by omega)];show D1 F n [.int (b:Int),.int ((a % b:Nat):Int)]=_;rw [ih (a % b) hlt b n (by omega),Nat.gcd_comm b,← Nat.gcd_rec,Nat.gcd_comm b a]
theorem o4 {a:Nat} (h:a≤1000000000):cond (iLt (a:Int) (IntKind.i64.wrap (0 - (a:Int)))) (IntKind.i64.wrap (0 - (a:Int))) (a:Int)=(a:Int):=by
 rw [B9 (by omega) (by omega)];have:iLt (a:Int) (0 - (a:Int))=false:=by simp only [iLt,decide_eq_false_iff_not];omega
 rw [this];rfl
theorem QS {N a:Nat} (h:a≤1000000000):DZ N [.int (a:Int)]=some [.int (a:Int)]:=by
 show MM (std (Tf N) N) (xOf _)=_;simp only [MM,lq9,std,xOf,PXb];rw [o4 h]
theorem UT {a:Nat}:((a:Int) == -9223372036854775808)=false:=beq_eq_false_iff_ne.2 (by omega)
theorem kF {N a b:Nat} (hN:2097152<N) (ha:a≤1000000000) (hb:b≤2000000):KQ N [.int (a:Int),.int (b:Int)]=some [.int ((Nat.gcd a b:Nat):Int)]:=by
 show OC (std (O8 N) N) (xOf _)=_;simp only [OC,Sb,lq9,std,xOf,PXb,QS ha,QS (show b≤1000000000 by omega),UT];refine Ab (jJ ?_ ?_ b a N (by omega)) rfl
 ·intro a self;simp only [PXb,PXc,PXn,AF,beq_self_eq_true,Bool.not_true]
 ·intro a b self hb;have:((b:Int)==0)=false:=beq_eq_false_iff_ne.2 (by omega);simp only [PXb,PXc,PXn,AF,this];rfl
theorem eE {N a b:Nat} (hN:2097152<N) (ha:a≤1000000000) (hb:b≤2000000):G7 N [.int (a:Int),.int (b:Int)]=some [.int ((Nat.gcd a b:Nat):Int)]:=by
 show Rp (std (Sk N) N) (xOf _)=_;have sz:∀ {a:Nat},a≤1000000000→Lx N [.int (a:Int)]=some [.int (a:Int)]:=fun {a} h=>by
  show P9 (std (V9 N) N) (xOf _)=_;have z:iLt (a:Int) 0=false:=by simp only [iLt,decide_eq_false_iff_not];omega
  simp only [P9,lq9,std,xOf,PXb,z]
 simp only [Rp,WG,lq9,std,xOf,PXb,sz ha,sz (show b≤1000000000 by omega),UT];refine Ab (jJ ?_ ?_ b a N (by omega)) rfl
 ·intro a self;simp only [PXb,PXc,PXn,AF,beq_self_eq_true,Bool.not_true]
 ·intro a b self hb;have:((b:Int)==0)=false:=beq_eq_false_iff_ne.2 (by omega);simp only [PXb,PXc,PXn,AF,this];rfl
def mkS (n d:Nat):List PV:=[.int ((n / Nat.gcd n d:Nat):Int),.int ((d / Nat.gcd n d:Nat):Int),.int 0]
theorem WL {n d:Nat} (hd:0<d):0<Nat.gcd n d∧0<d / Nat.gcd n d∧d / Nat.gcd n d≤d∧n / Nat.gcd n d≤n∧Nat.gcd (n / Nat.gcd n d) (d / Nat.gcd n d)=1:=by
 have hg:=Nat.gcd_pos_of_pos_right n hd;refine ⟨hg,Nat.div_pos (Nat.le_of_dvd hd (Nat.gcd_dvd_right n d)) hg,Nat.div_le_self _ _,Nat.div_le_self _ _,?_⟩;rw [Nat.gcd_div (Nat.gcd_dvd_left n d) (Nat.gcd_dvd_right n d),Nat.div_self hg]
theorem XQ {a b:Nat} (ha:a≤1000000000):IntKind.i64.wrap (Int.tdiv (a:Int) (b:Int))=((a / b:Nat):Int):=by
 show IntKind.i64.wrap ((a / b:Nat):Int)=_;have:=Nat.div_le_self a b;generalize a / b=q at *
 exact B9 (by omega) (by omega)
set_option maxHeartbeats 2000000 in
theorem gz {N n d:Nat} (hN:2097152<N) (hn:n≤1000000000) (hd:0<d) (hd2:d≤2000000):Iq N [.int (n:Int),.int (d:Int)]=some (mkS n d):=by
 show Mq (std (Jh N) N) (xOf _)=_;have d0:((d:Int)==0)=false:=beq_eq_false_iff_ne.2 (by omega);obtain ⟨g1,g2,g3,g4,g5⟩:=WL (n:=n) hd;have g0:(((Nat.gcd n d:Nat):Int)==0)=false:=beq_eq_false_iff_ne.2 (by omega);simp only [Mq,Sy,Jw,lq9,std,xOf,PXb,kF hN hn hd2,UT,d0];have c1:iLt ((d / Nat.gcd n d:Nat):Int) 0=false:=by simp only [iLt,decide_eq_false_iff_not];omega
 have c2:iLt 2147483648 ((d / Nat.gcd n d:Nat):Int)=false:=by simp only [iLt,decide_eq_false_iff_not];omega
 have c3:iLt 2147483648 ((n / Nat.gcd n d:Nat):Int)=false:=by simp only [iLt,decide_eq_false_iff_not];omega
 simp only [PXb,g0,XQ hn,XQ (show d≤1000000000 by omega),c1,c2,c3,Bool.not_false,Jw,QS (show n / Nat.gcd n d≤1000000000 by omega)];rfl
set_option maxHeartbeats 2000000 in
theorem mK {N n d:Nat} (hN:2097152<N) (hn:n≤1000000000) (hd:0<d) (hd2:d≤2000000):MA N [.int (n:Int),.int (d:Int)]=some (mkS n d):=by
 show P6 (std (MB N) N) (xOf _)=_;have d0:((d:Int)==0)=false:=beq_eq_false_iff_ne.2 (by omega);obtain ⟨g1,g2,g3,g4,g5⟩:=WL (n:=n) hd;have g0:(((Nat.gcd n d:Nat):Int)==0)=false:=beq_eq_false_iff_ne.2 (by omega);have d1:iLt (d:Int) 0=false:=by simp only [iLt,decide_eq_false_iff_not];omega
 have V:KJ N [.int ((n / Nat.gcd n d:Nat):Int),.int ((d / Nat.gcd n d:Nat):Int)]=some [.bool true]:=by
  show N3 (std (O0 N) N) (xOf _)=_;have c1:iLe 1 ((d / Nat.gcd n d:Nat):Int)=true:=by simp only [iLe,decide_eq_true_eq];omega
  have c2:iLe ((d / Nat.gcd n d:Nat):Int) 2147483648=true:=by simp only [iLe,decide_eq_true_eq];omega
  have c3:iLe (-2147483648) ((n / Nat.gcd n d:Nat):Int)=true:=by
   generalize n / Nat.gcd n d=q;simp only [iLe,decide_eq_true_eq];omega
  have c4:iLe ((n / Nat.gcd n d:Nat):Int) 2147483648=true:=by simp only [iLe,decide_eq_true_eq];omega
  have G:=eE (N:=N) hN (show n / Nat.gcd n d≤1000000000 by omega) (show d / Nat.gcd n d≤2000000 by omega);rw [g5] at G;simp only [N3,Vv,lq9,std,xOf,PXb,c1,c2,c3,c4,G];rfl
 simp only [P6,OZ,Mf,lq9,std,xOf,PXb,UT,d0,d1];simp only [PXb,OZ,eE hN hn hd2,g0,XQ hn,XQ (show d≤1000000000 by omega),Bool.not_false,Mf,V];rfl
def UU (b c:Int):Bool:=((iLe 0 b&&iLe b 1000000)&&iLe 0 c)&&iLe c 1000000
def SB (b c:Int):List PV:=cond (!UU b c) [.int 0,.int 0,.int 2] (cond (c==0) [.int 0,.int 0,.int 1] (mkS (100 * b).toNat c.toNat))
theorem gJ {b c:Int} (h:UU b c=true):∃ n d:Nat,b=n∧c=d∧n≤1000000∧d≤1000000:=by
 simp only [UU,iLe,zzj,decide_eq_true_eq] at h;exact ⟨b.toNat,c.toNat,by omega,by omega,by omega,by omega⟩
theorem Xv {N:Nat} {a b c d f:Int} {x:Bool} {h v i:Int} {y:Bool}:Cy N [.int a,.int b,.int c,.int d,.int f,.bool x,.int h,.int v,.int i,.bool y]=some [.bool (UU b c)]:=by
 show GK (std (M9 N) N) (xOf _)=_;simp only [GK,lq9,std,xOf,PXb];rfl
theorem jf {N:Nat} {a:Int}:KL N [.int a]=some [.bool (iLe 0 a&&iLe a 1000000)]:=by
 show N2 (std (U8 N) N) (xOf _)=_;simp only [N2,lq9,std,xOf,PXb]
theorem cz {n:Nat} (h:n≤1000000):IntKind.i64.wrap (100 * (n:Int))=((100 * n:Nat):Int):=by
 rw [B9 (by omega) (by omega)];omega
theorem UZ {N:Nat} (hN:2097152<N) {a b c d f:Int} {x:Bool} {h v i:Int} {y:Bool}:EP N [.int a,.int b,.int c,.int d,.int f,.bool x,.int h,.int v,.int i,.bool y]=some (SB b c):=by
 show EL (std (DM N) N) (xOf _)=_;simp only [EL,I6,Li,lq9,std,xOf,PXb,Xv];unfold SB;cases hb:UU b c with
 | false=>rfl
 | true =>
  obtain ⟨n,m,rfl,rfl,h1,h2⟩:=gJ hb;cases h0:(m:Int)==0 with
  | true=>simp only [PXb,Bool.not_true,h0]
  | false =>
   rw [beq_eq_false_iff_ne] at h0;have e:(100 * (n:Int)).toNat=100 * n:=by omega
   simp only [PXb,Bool.not_true,beq_false_of_ne h0,cz h1,e,Int.toNat_natCast];refine Ec (gz hN (show 100 * n≤1000000000 by omega) (show 0<m by omega) (show m≤2000000 by omega)) ?_;rfl
theorem ZK {N:Nat} (hN:2097152<N) {a b c d f:Int} {x:Bool} {h v i:Int} {y:Bool}:HZ N [.int a,.int b,.int c,.int d,.int f,.bool x,.int h,.int v,.int i,.bool y]=some (SB b c):=by
 show HP (std (Fy N) N) (xOf _)=_;simp only [HP,O4,Pu,lq9,std,xOf,PXb,jf];unfold SB;cases hb:UU b c with
 | false =>
  have hb0:=hb;unfold UU at hb;cases h1:(iLe 0 b&&iLe b 1000000) with
  | false=>rfl
  | true =>
   rw [h1,Bool.true_and] at hb;simp only [PXb,Bool.not_true,Bool.not_false,hb]
 | true =>
  have hb0:=hb;unfold UU at hb0;rw [Bool.and_assoc,zzj] at hb0;obtain ⟨n,m,rfl,rfl,h1,h2⟩:=gJ hb;cases h0:(m:Int)==0 with
  | true=>simp only [PXb,Bool.not_true,Bool.not_false,h0,hb0.1,hb0.2]
  | false =>
   rw [beq_eq_false_iff_ne] at h0;have e:(100 * (n:Int)).toNat=100 * n:=by omega
   simp only [PXb,Bool.not_true,Bool.not_false,hb0.1,hb0.2,beq_false_of_ne h0,cz h1,e,Int.toNat_natCast];refine Ec (mK hN (show 100 * n≤1000000000 by omega) (show 0<m by omega) (show m≤2000000 by omega)) ?_;rfl
def Ur (L:Rows):Nat→Int
 | 0=>0
 | n+1=>IntKind.i64.wrap (Ur L n+pvI (AG L n 1))
theorem bQ {N:Nat} (hN:2097152<N) {L:Rows} (hl:L.length≤1048576):Ic N [.rows L]=some [.int (Ur L L.length)]:=by
 show IM (std (PJ N) N) (xOf _)=_;simp only [IM,lq9,std,xOf,PXb];refine Ab (Cu (len:=L.length) (fun i=>[.int (Ur L i),.int (i:Int)]) [.int (Ur L L.length)] ?_ ?_ N (by omega)) rfl
 ·intro self;simp only [PXb,BE]
 ·intro i self hi;simp only [PXb,Ck (show i≤1099511627776 by omega),A5 hi,AY hi,Ur]
theorem jw {N:Nat} (hN:2097152<N) {L:Rows} (hl:L.length≤1048576):N5 N [.rows L]=some [.int (Ur L L.length)]:=by
 show OB (std (U1 N) N) (xOf _)=_;simp only [OB,lq9,std,xOf,PXb];refine Ab (Cu (len:=L.length) (fun i=>[.int (Ur L i),.int (i:Int)]) [.int (Ur L L.length)] ?_ ?_ N (by omega)) rfl
 ·intro self;simp only [PXb,BE]
 ·intro i self hi;simp only [PXb,Ck (show i≤1099511627776 by omega),A5 hi,AY hi,Ur]
theorem ny {N:Nat} {L:Rows}  : Oe N [.rows L]=some [.rows (cut L 11)]:=by
 show OO (std (KO N) N) (xOf _)=_;simp only [OO,lq9,std,xOf,PXb,PXc,PXn,PXm,Nat.reduceAdd,Int.reduceBEq,tR (show (0:Int)≤11 by omega)];rfl
theorem rM (b c:Int):((pvI (AA (SB b c) 2)==0) && !(IntKind.i64.wrap (IntKind.i64.wrap (100 * b) * pvI (AA (SB b c) 1))==IntKind.i64.wrap (pvI (AA (SB b c) 0) * c)))=false:=by
 unfold SB;cases hb:UU b c with
 | false=>rfl
 | true =>
  obtain ⟨n,m,rfl,rfl,h1,h2⟩:=gJ hb;cases h0:(m:Int)==0 with
  | true=>rfl
  | false =>
   rw [beq_eq_false_iff_ne] at h0;have e:(100 * (n:Int)).toNat=100 * n:=by omega
   obtain ⟨g1,g2,g3,g4,g5⟩:=WL (n:=100 * n) (show 0<m by omega);rw [cz h1,e,Int.toNat_natCast];have k:100 * n * (m / Nat.gcd (100 * n) m)=100 * n / Nat.gcd (100 * n) m * m:=by
    obtain ⟨p,hp⟩:=Nat.gcd_dvd_left (100 * n) m;obtain ⟨q,hq⟩:=Nat.gcd_dvd_right (100 * n) m;generalize Nat.gcd (100 * n) m=g at *
    rw [hp,hq,Nat.mul_div_cancel_left _ g1,Nat.mul_div_cancel_left _ g1,Nat.mul_assoc,Nat.mul_comm g (p * q),Nat.mul_assoc,Nat.mul_comm g q]
   show (((0:Int)==0) && !(IntKind.i64.wrap (((100 * n:Nat):Int) * ((m / Nat.gcd (100 * n) m:Nat):Int))==IntKind.i64.wrap (((100 * n / Nat.gcd (100 * n) m:Nat):Int) * (m:Int))))=false;rw [← Int.natCast_mul,← Int.natCast_mul,k];simp
set_option maxHeartbeats 4000000 in
theorem W6 {N:Nat} {L:Rows} (ha:KM N []=some [.bool true]) (hN:2097152<N):DW N [.rows L]=some [.bool true]:=by
 show Dl (std (Az N) N) (xOf _)=_;have l:(cut L 11).length≤1000000:=Nat.le_trans (sN L 11) (show 11≤1000000 by omega);simp only [Dl,NI,Oz,Ii,KA,LM,Nl,lq9,std,xOf,PXb,ha,ny,UZ hN,ZK hN];refine Ab (Cu (len:=(cut L 11).length) (fun i=>[.int (i:Int)]) [.int 1] ?_ ?_ N (by omega)) ?_
 ·intro self;simp only [PXb,BE]
 ·intro i self hi;have ro:=rM (pvI (AG (cut L 11) i 1)) (pvI (AG (cut L 11) i 2));simp only [PXb,Ck (show i≤1099511627776 by omega),A5 hi,AY hi,beq_self_eq_true,Bool.not_true,Int.toNat_natCast,ro]
 ·simp only [PXb,bQ hN (show (cut L 11).length≤1048576 by omega),jw hN (show (cut L 11).length≤1048576 by omega),beq_self_eq_true];rfl
end Go.Px
end
section
namespace Go.Proofs
open Go.Shelf
def Tryz.laysM246_ren:Go.Shelf.Ren:=⟨fun | 246=>101 | 283=>123 | 284=>124 | 285=>125 | 286=>126 | 129=>155 | 317=>154 | 318=>156 | 319=>157 | 320=>158 | 337=>182 | 338=>183 | n=>n,fun | 2=>2 | 3=>3 | 9=>9 | 4=>4 | 171=>181 | 0=>0 | 53=>166 | 37=>109 | 5=>5 | 173=>184 | 212=>202 | 51=>203 | 20=>20 | 213=>204 | 46=>205 | 232=>229 | 233=>230 | n=>n,fun | 17=>0 | 18=>1 | 19=>2 | n=>n⟩
theorem Tryz.laysM246:Go.Proofs.LaysM.n246 Tryz.prog Tryz.laysM246_ren:={
  mixed:=by kernel_rfl
  f129:=Tryz.func155.trans (congrArg some (by kernel_rfl))
  f246:=Tryz.func101.trans (congrArg some (by kernel_rfl))
  f283:=Tryz.func123.trans (congrArg some (by kernel_rfl))
  f284:=Tryz.func124.trans (congrArg some (by kernel_rfl))
  f285:=Tryz.func125.trans (congrArg some (by kernel_rfl))
  f286:=Tryz.func126.trans (congrArg some (by kernel_rfl))
  f317:=Tryz.func154.trans (congrArg some (by kernel_rfl))
  f318:=Tryz.func156.trans (congrArg some (by kernel_rfl))
  f319:=Tryz.func157.trans (congrArg some (by kernel_rfl))
  f320:=Tryz.func158.trans (congrArg some (by kernel_rfl))
  f337:=Tryz.func182.trans (congrArg some (by kernel_rfl))
  f338:=Tryz.func183.trans (congrArg some (by kernel_rfl))
  t0:=Tryz.underlying0
  a0:=Tryz.isAgg0
  z0:=Tryz.sizeOf0
  v0:=Tryz.zeroValue0
  t2:=Tryz.underlying2
  a2:=Tryz.isAgg2
  z2:=Tryz.sizeOf2
  v2:=Tryz.zeroValue2
  t3:=Tryz.underlying3
  a3:=Tryz.isAgg3
  z3:=Tryz.sizeOf3
  v3:=Tryz.zeroValue3
  t4:=Tryz.underlying4
  a4:=Tryz.isAgg4
  z4:=Tryz.sizeOf4
  v4:=Tryz.zeroValue4
  t5:=Tryz.underlying5
  a5:=Tryz.isAgg5
  z5:=Tryz.sizeOf5
  v5:=Tryz.zeroValue5
  t9:=Tryz.underlying9
  a9:=Tryz.isAgg9
  z9:=Tryz.sizeOf9
  v9:=Tryz.zeroValue9
  t20:=Tryz.underlying20
  a20:=Tryz.isAgg20
  z20:=Tryz.sizeOf20
  v20:=Tryz.zeroValue20
  t37:=Tryz.underlying109
  a37:=Tryz.isAgg109
  z37:=Tryz.sizeOf109
  v37:=Tryz.zeroValue109
  t46:=Tryz.underlying205
  a46:=Tryz.isAgg205
  z46:=Tryz.sizeOf205
  v46:=Tryz.zeroValue205
  t51:=Tryz.underlying203
  a51:=Tryz.isAgg203
  z51:=Tryz.sizeOf203
  v51:=Tryz.zeroValue203
  t53:=Tryz.underlying166
  a53:=Tryz.isAgg166
  z53:=Tryz.sizeOf166
  v53:=Tryz.zeroValue166
  t171:=Tryz.underlying181
  a171:=Tryz.isAgg181
  z171:=Tryz.sizeOf181
  v171:=Tryz.zeroValue181
  t173:=Tryz.underlying184
  a173:=Tryz.isAgg184
  z173:=Tryz.sizeOf184
  v173:=Tryz.zeroValue184
  t212:=Tryz.underlying202
  a212:=Tryz.isAgg202
  z212:=Tryz.sizeOf202
  v212:=Tryz.zeroValue202
  t213:=Tryz.underlying204
  a213:=Tryz.isAgg204
  z213:=Tryz.sizeOf204
  t232:=Tryz.underlying229
  a232:=Tryz.isAgg229
  z232:=Tryz.sizeOf229
  v232:=Tryz.zeroValue229
  t233:=Tryz.underlying230
  a233:=Tryz.isAgg230
  z233:=Tryz.sizeOf230
  v233:=Tryz.zeroValue230
  g17:=by kernel_rfl
  g18:=by kernel_rfl
  g19:=by kernel_rfl
  i0:=by kernel_rfl
  i2:=by kernel_rfl
  i3:=by kernel_rfl
  i4:=by kernel_rfl
  i5:=by kernel_rfl
  i9:=by kernel_rfl
  i20:=by kernel_rfl
  i37:=by kernel_rfl
  i46:=by kernel_rfl
  i51:=by kernel_rfl
  i53:=by kernel_rfl
  i171:=by kernel_rfl
  i173:=by kernel_rfl
  i212:=by kernel_rfl
  i232:=by kernel_rfl
  i233:=by kernel_rfl
  m17:=by kernel_rfl
  m18:=by kernel_rfl
  m19:=by kernel_rfl }
open Go.RowKit Go.Sort Go.Lib in
theorem Tryz.internal_strconv_FormatInt_10 (n : Int) (h0 : -9223372036854775808 ≤ n) (h1 : n ≤ 9223372036854775807) (w : World) (htab : Lib.TabIs Tryz.prog w "internal/strconv.uint64pow10" .u64 Lib.pow10Tab) :
    Calls Tryz.prog 101 #[.int .i64 n,.int .i64 10] w fun e w'=>e=.returned (.string ⟨(Lib.itoa n).toArray⟩)∧∃ k os,w'=grow (w.drewN k) os:=Any.internal_strconv_FormatInt_10 Tryz.laysM246 n h0 h1 w htab
end Go.Proofs
end
section
namespace Go.Px
open Go.Lib Go.RowKit
section
variable {P:Program} {w:World}
theorem BufAt.kept {w':World} {e:TypeId} {v:Value} {bs:List Value} (h:BufAt w e v bs) (hw:∀ g,v.ownBlock=some g→w'.heap[g]?=w.heap[g]?):BufAt w' e v bs:=by
 rcases h with h | ⟨g,cap,cur,h1,h2,h3⟩
 ·exact .inl h
 ·exact .inr ⟨g,cap,cur,h1,(hw g (by rw [h1];rfl)).trans h2,h3⟩
theorem SU (e : TypeId) (xs : List Value) (hx : 0 < xs.length) (old : Nat) (row : Option Nat) :
    BufAt (w.drew.alloc (.cells (xs.toArray++Builtin.zeroCells (Value.int .u8 0).cells (grownCap w xs.length old e - xs.length)) e)) e (.slice (some ⟨w.heap.size,0,none⟩) xs.length (grownCap w xs.length old e)) xs ∧
      w.grownBy (w.drew.alloc (.cells (xs.toArray++Builtin.zeroCells (Value.int .u8 0).cells (grownCap w xs.length old e - xs.length)) e)) row:=by
  have hge:=grownCap_ge w xs.length old e;refine ⟨.inr ⟨w.heap.size,_,_,rfl,heap_alloc_new w.drew _,by omega,hge,?_,?_⟩,⟨rfl,rfl,rfl,by simp,fun k hk _=>Lib.alloc_old w.drew _ k hk⟩⟩
  · have hz1:(Value.int IntKind.u8 0).cells.size=1:=rfl;simp only [Array.size_append,List.size_toArray,size_zeroCells,hz1];omega
  · simp only [Array.toList_append];exact List.take_left
theorem dN (t u ty e : TypeId) (i : TypeInfo) (ht : P.underlying t = some (.slice e)) (hu : P.underlying u = some .string) (hi : P.info? e = some i) (hz : i.zero = some (.int .u8 0))
    (hsize:i.size=1) (hby:i.bytes=1) (v:Value) (xs:List Value) (h:BufAt w e v xs) (s:ByteArray) (hb:xs.length+s.size≤140737488355328) :
    ∃ v' w',(Builtin.append_ #[t,u] ty #[v,.string s]).run P w=.ok v' w'∧BufAt w' e v' (xs++strCells s)∧w.grownBy w' v.ownBlock∧QM w v v':=by
  have hlen:(xs++strCells s).length=xs.length+s.size:=by rw [List.length_append,strCells_length]
  rcases h with ⟨rfl,rfl⟩ | ⟨g,cap,cur,rfl,hg,hc0,hnc,hcs,htake⟩
  · by_cases hm:s.size=0
    · have hn:strCells s=[]:=List.eq_nil_of_length_eq_zero (by rw [strCells_length];exact hm);refine ⟨.slice none 0 0,w,?_,by rw [hn];exact .inl ⟨rfl,rfl⟩,⟨rfl,rfl,rfl,Nat.le_refl _,fun _ _ _=>rfl⟩,.inl rfl⟩;have hf:=run_firstCells_string (P:=P) w 1 s;rw [hm] at hf;simp [Builtin.append_,run_underlying ht,run_underlying hu,sizeOf,typeInfo,hi,hsize,Builtin.lenOf,hm,hf]
    · have hr:=run_append_nil_string (P:=P) w t u ty e i (.int .u8 0) ht hu hi hz s (by omega) (by simp at hb;omega) (by rw [hby];simp at hb;omega);have e1:(s.data.map fun b=>Value.int .u8 b.toNat)=(strCells s).toArray:=by
        apply Array.ext';simp [strCells]
      rw [e1] at hr;have hgr:=SU (w:=w) e (strCells s) (by rw [strCells_length];omega) 0 (Value.ownBlock (.slice none 0 0));rw [strCells_length] at hgr;simp only [List.nil_append] at hgr ⊢;exact ⟨_,_,hr,hgr.1,hgr.2,.inr ⟨_,rfl,Nat.le_refl _⟩⟩
  · by_cases hroom:xs.length+s.size≤cap
    · have hr:=run_append_room_string (P:=P) w t u ty e i ht hu hi hsize g xs.length cap cur hg s hroom (by omega);refine ⟨_,_,hr,.inr ⟨g,cap,_,by rw [hlen],setRow_heap w g cur _ e _ hg,hc0,by rw [hlen];exact hroom,?_,?_⟩,⟨rfl,rfl,rfl,by simp,fun k _ hk=>setRow_other w g k _ (fun e=>hk (by simp [Value.ownBlock,e]))⟩,.inl rfl⟩
      · simp only [List.size_toArray,List.length_append,List.length_take,List.length_drop,Array.length_toList,strCells_length];omega
      · simp only [];rw [htake,List.take_left]
    · have holds : ∀ j u, xs[j]? = some u → w.cell? ((⟨g, 0, none⟩ : Addr).add j) = some u := fun j u hj => by
        have hjl:j<xs.length:=(List.getElem?_eq_some_iff.1 hj).1;rw [← htake,List.getElem?_take] at hj;rw [if_pos hjl] at hj;rw [HE];simpa [World.cell?,hg] using hj
      have hr:=run_append_grow_string (P:=P) w t u ty e i (.int .u8 0) ht hu hi hz ⟨g,0,none⟩ xs.length cap xs (by rw [hsize];simp) holds s (by omega) (by omega) (by rw [hby];exact growslice_fits (by omega) (by omega));have hgr:=SU (w:=w) e (xs++strCells s) (by rw [hlen];omega) cap (Value.ownBlock (.slice (some ⟨g,0,none⟩) xs.length cap));rw [hlen] at hgr;rw [← List.append_toArray] at hgr;exact ⟨_,_,hr,hgr.1,hgr.2,.inr ⟨_,rfl,Nat.le_refl _⟩⟩
theorem Y4 (t ty e : TypeId) (i : TypeInfo) (ht : P.underlying t = some (.slice e)) (hi : P.info? e = some i) (hz : i.zero = some (.int .u8 0))
    (hsize:i.size=1) (hby:i.bytes=1) (v:Value) (xs:List Value) (h:BufAt w e v xs) (a:Addr) (c:Nat) (news:List Value) (hn0:0<news.length) (hnews:∀ j u,news[j]?=some u→w.cell? (a.add j)=some u) (h1:∀ u∈news,u.oneCell'=true) (hb:xs.length+news.length≤140737488355328) :
    ∃ v' w',(Builtin.append_ #[t,t] ty #[v,.slice (some a) news.length c]).run P w=.ok v' w'∧BufAt w' e v' (xs++news)∧w.grownBy w' v.ownBlock∧QM w v v':=by
  have hlen:(xs++news).length=xs.length+news.length:=List.length_append;have hl:news.length=news.length * i.size:=by rw [hsize,Nat.mul_one]
  rcases h with ⟨rfl,rfl⟩ | ⟨g,cap,cur,rfl,hg,hc0,hnc,hcs,htake⟩
  · have hr:=run_append_nil (P:=P) w t ty e i (.int .u8 0) ht hi hz a news.length c news hl hnews hn0 (by simp at hb;omega) (by rw [hby];simp at hb;omega);have hgr:=SU (w:=w) e news hn0 0 (Value.ownBlock (.slice none 0 0));simp only [List.nil_append] at hgr ⊢;exact ⟨_,_,hr,hgr.1,hgr.2,.inr ⟨_,rfl,Nat.le_refl _⟩⟩
  · by_cases hroom:xs.length+news.length≤cap
    · have hr:=run_append_room (P:=P) w t ty e i ht hi g xs.length cap cur hg a news.length c news hl hnews h1 hroom (by rw [hsize];omega);rw [hsize,Nat.mul_one] at hr;refine ⟨_,_,hr,.inr ⟨g,cap,_,by rw [hlen],setRow_heap w g cur _ e _ hg,hc0,by rw [hlen];exact hroom,?_,?_⟩,⟨rfl,rfl,rfl,by simp,fun k _ hk=>setRow_other w g k _ (fun e=>hk (by simp [Value.ownBlock,e]))⟩,.inl rfl⟩
      · simp only [List.size_toArray,List.length_append,List.length_take,List.length_drop,Array.length_toList];omega
      · simp only [];rw [htake,List.take_left]
    · have holds : ∀ j u, xs[j]? = some u → w.cell? ((⟨g, 0, none⟩ : Addr).add j) = some u := fun j u hj => by
        have hjl:j<xs.length:=(List.getElem?_eq_some_iff.1 hj).1;rw [← htake,List.getElem?_take] at hj;rw [if_pos hjl] at hj;rw [HE];simpa [World.cell?,hg] using hj
      have hr:=run_append_grow (P:=P) w t ty e i (.int .u8 0) ht hi hz ⟨g,0,none⟩ xs.length cap xs (by rw [hsize];simp) holds a news.length c news hl hnews (by omega) (by omega) (by rw [hby];exact growslice_fits (by omega) (by omega));have hgr:=SU (w:=w) e (xs++news) (by rw [hlen];omega) cap (Value.ownBlock (.slice (some ⟨g,0,none⟩) xs.length cap));rw [hlen] at hgr;rw [← List.append_toArray] at hgr;exact ⟨_,_,hr,hgr.1,hgr.2,.inr ⟨_,rfl,Nat.le_refl _⟩⟩
theorem Xj {ops : Array Oper} {rest : List Oper} {o : Oper} {a : Act} {Q : Exit → Act → World → Prop} (hgd : o.guard = none) (sl x : Operand) (t u : TypeId)
    (ho:o.op=.call { callee:=.builtin .append,args:=#[sl,x],argTypes:=#[t,u] })
    (e:TypeId) (i:TypeInfo) (ht:P.underlying t=some (.slice e)) (hu:P.underlying u=some .string) (hi:P.info? e=some i) (hz:i.zero=some (.int .u8 0))
    (hsize:i.size=1) (hby:i.bytes=1) (v:Value) (xs:List Value) (hs:a.eval sl=v) (hown:BufAt w e v xs) (s:ByteArray) (hx:a.eval x=.string s) (hb:xs.length+s.size≤140737488355328)
    (h:∀ v' w',BufAt w' e v' (xs++strCells s)→w.grownBy w' v.ownBlock→QM w v v'→wpList P ops Q rest (a.put o.dst v') w'):wpList P ops Q (o::rest) a w:=by
  refine wpList_plain hgd fun K hK=>?_
  obtain ⟨v',w',hr,h2,h3,h4⟩:=dN (P:=P) (w:=w) t u o.type e i ht hu hi hz hsize hby v xs hown s hb;unfold Oper.wp execOp;simp only [ho,resolve,invoke,builtin,Sem.run_bind,Sem.run_pure,Result.andThen_ok,List.map_toArray,List.map_cons,List.map_nil,hs,hx,hr];exact hK _ _ (h v' w' h2 h3 h4)
theorem Vk {ops : Array Oper} {rest : List Oper} {o : Oper} {a : Act} {Q : Exit → Act → World → Prop} (hgd : o.guard = none) (sl x : Operand) (t : TypeId)
    (ho:o.op=.call { callee:=.builtin .append,args:=#[sl,x],argTypes:=#[t,t] })
    (e:TypeId) (i:TypeInfo) (ht:P.underlying t=some (.slice e)) (hi:P.info? e=some i) (hz:i.zero=some (.int .u8 0))
    (hsize:i.size=1) (hby:i.bytes=1) (v:Value) (xs:List Value) (hs:a.eval sl=v) (hown:BufAt w e v xs) (ad:Addr) (m c:Nat) (news:List Value) (hx:a.eval x=.slice (some ad) m c) (hm:news.length=m) (hn0:0<m)
    (hnews:∀ j u,news[j]?=some u→w.cell? (ad.add j)=some u) (h1:∀ u∈news,u.oneCell'=true) (hb:xs.length+news.length≤140737488355328)
    (h:∀ v' w',BufAt w' e v' (xs++news)→w.grownBy w' v.ownBlock→QM w v v'→wpList P ops Q rest (a.put o.dst v') w'):wpList P ops Q (o::rest) a w:=by
  subst hm;refine wpList_plain hgd fun K hK=>?_
  obtain ⟨v',w',hr,h2,h3,h4⟩:=Y4 (P:=P) (w:=w) t o.type e i ht hi hz hsize hby v xs hown ad c news hn0 hnews h1 hb;unfold Oper.wp execOp;simp only [ho,resolve,invoke,builtin,Sem.run_bind,Sem.run_pure,Result.andThen_ok,List.map_toArray,List.map_cons,List.map_nil,hs,hx,hr];exact hK _ _ (h v' w' h2 h3 h4)
theorem Z4 {e T:TypeId} {b:Nat} {v p x:Value} {bs:List Value} (h:BufAt w e v bs) (hb:w.heap[b]?=some (.cells #[p,x] T (0,0))) (hT:T≠e):v.ownBlock≠some b:=by
 rcases h with ⟨rfl,_⟩ | ⟨g,cap,cur,rfl,hg,_⟩
 ·simp [Value.ownBlock]
 ·intro h;simp only [Value.ownBlock,Option.some.injEq] at h;subst h;rw [hg] at hb;simp only [Option.some.injEq,Obj.cells.injEq] at hb;exact hT hb.2.1.symm
def ki (w:World) (T e:TypeId) (b:Nat) (v:Value) (bs:List Value) (w':World):Prop :=
 w'.heap[b]?=some (.cells #[.pointer (some ⟨b,0,none⟩),v] T (0,0))∧BufAt w' e v bs∧Rest w w' b none∧w'.heap.size=w.heap.size
theorem kj (T e : TypeId) (hT : T ≠ e) {b : Nat} {v v' : Value} {bs bs' : List Value} {w w1 w2 w3 : World} (h1 : ki w T e b v bs w1) (hal : w2 = w1 ∨ ∃ o, w2 = w1.alloc o) (hg : w2.grownBy w3 v.ownBlock) (hs : QM w2 v v') (hb : BufAt w3 e v' bs') (hv : v.ownBlock ≠ some b) :
    QI w T e b v bs' (w3.setCell ⟨b,1,none⟩ v'):=by
  obtain ⟨hbk,hbuf,hr,hsz⟩:=h1;have hlt:b<w1.heap.size:=A4 hbk;have h12:w1.heap.size≤w2.heap.size∧(∀ k,k<w1.heap.size→w2.heap[k]?=w1.heap[k]?)∧w2.os=w1.os∧w2.tape=w1.tape∧w2.output=w1.output:=by
    rcases hal with rfl | ⟨o,rfl⟩
    · exact ⟨Nat.le_refl _,fun _ _=>rfl,rfl,rfl,rfl⟩
    · exact ⟨by simp,fun k hk=>Lib.alloc_old w1 _ k hk,rfl,rfl,rfl⟩
  obtain ⟨s12,b12,o1,o2,o3⟩:=h12;have hb3:w3.heap[b]?=some (.cells #[.pointer (some ⟨b,0,none⟩),v] T (0,0)):=by rw [hg.block b (by omega) (fun e=>hv e.symm),b12 b hlt];exact hbk
  have hne:=Z4 hb hb3 hT;have hset:(w3.setCell ⟨b,1,none⟩ v').heap.size=w3.heap.size:=by simp [World.setCell]
  refine ⟨v',by simp [World.setCell,Array.getElem?_modify,hb3],hb.kept (fun g hgg=>?_),⟨?_,?_,?_,?_,fun k hk hkb hkg=>?_⟩,?_⟩
  · exact Below.heap_setCell _ _ _ _ (fun e=>hne (by rw [hgg];simp at e;rw [e]))
  · exact (hg.os.trans o1).trans hr.os
  · exact (hg.tape.trans o2).trans hr.tape
  · exact (hg.output.trans o3).trans hr.output
  · have:=hg.size;rw [hset];omega
  · rw [Below.heap_setCell _ _ _ _ (fun e=>hkb (by simpa using e)),hg.block k (by omega) (fun e=>hkg e.symm),b12 k (by omega),hr.block k hk hkb (by simp)]
  · rcases hs with hs | ⟨g,h1,h2⟩
    · exact .inl hs
    · exact .inr ⟨g,h1,by omega⟩
theorem jd (w:World) (g n:Nat) (v:Value) (hv:v.ownBlock=some g):pC w v (w.drew.freeze ⟨g,0,none⟩ n):=by
 unfold World.freeze
 split
 ·exact ⟨rfl,rfl,rfl,Nat.le_refl _,fun _ _ _=>rfl⟩
 ·refine ⟨rfl,rfl,rfl,by simp,fun k hk hkv=>?_⟩;simp only [Array.getElem?_modify];rw [if_neg (fun e=>hkv (by rw [hv,e]))];rfl
end
end Go.Px
end
section
namespace Go.Px
open Go.Lib Go.Proofs Go.RowKit
theorem qI:(Tryz.prog.info? 5).map (fun i=>(i.zero,i.size,i.bytes))=some (some (.int .u8 0),1,1):=by kernel_rfl
set_option maxHeartbeats 1000000 in
set_option maxRecDepth 100000 in
theorem qo (b : Nat) (w : World) (h0 : w.cell? ⟨b, 0, none⟩ = some (.pointer (some ⟨b, 0, none⟩))) :
    Calls Tryz.prog 76 #[.pointer (some ⟨b,0,none⟩)] w fun e w'=>e=.returned (.tuple #[])∧w'=w:=by
  obtain ⟨j,hj,_⟩:=zzo.1 (show (Tryz.prog.info? 111).map (·.size)=some 2 by kernel_rfl)
  go_enter Tryz.func76,Tryz.ntmps76
  go_wp2
  rw [Lib.run_neq_ptr_same w _ Tryz.underlying108 hj]
  go_wp2
  go_end0
  exact ⟨rfl,rfl⟩
set_option maxHeartbeats 1000000 in
set_option maxRecDepth 100000 in
theorem pb (b : Nat) (w : World) (h0 : w.cell? ⟨b, 0, none⟩ = some (.pointer none)) (hsh : w.shape? b = some (111, 2)) (hfz : w.frozen? ⟨b, 0, none⟩ = false) :
    Calls Tryz.prog 76 #[.pointer (some ⟨b,0,none⟩)] w fun e w'=>e=.returned (.tuple #[])∧w'=w.setCell ⟨b,0,none⟩ (.pointer (some ⟨b,0,none⟩)):=by
  obtain ⟨j,hj,hjs⟩:=zzo.1 (show (Tryz.prog.info? 111).map (·.size)=some 2 by kernel_rfl)
  go_enter Tryz.func76,Tryz.ntmps76
  go_wp2
  rw [Lib.run_to_unsafe w ⟨b,0,none⟩ Tryz.underlying108 Tryz.underlying164 hj (by rw [hjs];decide) hsh (Nat.zero_lt_succ 1)];simp only [Result.andThen];rw [Oper.upon_value]
  go_wp2
  rw [run_callFunc_extern Tryz.func100 (by kernel_rfl) (by kernel_rfl) (by kernel_rfl) (e:=Extern.AbiNoEscape.same) (by kernel_rfl)];rw [Lib.run_noEscape];simp only [Result.andThen];rw [Oper.upon_value]
  go_wp2
  rw [Lib.run_from_unsafe w ⟨b,0,none⟩ Tryz.underlying164 Tryz.underlying108 hj hsh (by kernel_rfl)];simp only [Result.andThen];rw [Oper.upon_value]
  go_wp2
  go_end0
  exact ⟨rfl,rfl⟩
theorem Zd (b : Nat) (v : Value) (bs : List Value) (w : World) (h : Pl w 111 5 b v bs) :
    Calls Tryz.prog 76 #[.pointer (some ⟨b,0,none⟩)] w fun e w'=>e=.returned (.tuple #[])∧ki w 111 5 b v bs w':=by
  obtain ⟨⟨p,hb,hp⟩,hbuf⟩:=h;have hne:=Z4 hbuf hb (by decide);have c0:w.cell? ⟨b,0,none⟩=some p:=by rw [Lib.cell_of_heap hb];rfl
  rcases hp with rfl | rfl
  · refine (pb b w c0 (by simp [World.shape?,hb]) (Lib.frozen_of_heap hb 0)).mono ?_
    rintro e w' ⟨rfl,rfl⟩
    refine ⟨rfl,by simp [World.setCell,Array.getElem?_modify,hb],hbuf.kept (fun g hg=>?_),⟨rfl,rfl,rfl,by simp [World.setCell],fun k _ hk _=>?_⟩,by simp [World.setCell]⟩
    · exact Below.heap_setCell _ _ _ _ (fun e=>hne (by rw [hg];simp at e;rw [e]))
    · exact Below.heap_setCell _ _ _ _ (fun e=>hk (by simpa using e))
  · refine (qo b w c0).mono ?_
    rintro e w' ⟨rfl,rfl⟩
    exact ⟨rfl,hb,hbuf,⟨rfl,rfl,rfl,Nat.le_refl _,fun _ _ _ _=>rfl⟩,rfl⟩
set_option maxHeartbeats 2000000 in
set_option maxRecDepth 100000 in
theorem gS (b : Nat) (v : Value) (bs : List Value) (s : ByteArray) (w : World) (h : Pl w 111 5 b v bs) (hlen : bs.length + s.size ≤ 140737488355328) :
    Calls Tryz.prog 41 #[.pointer (some ⟨b,0,none⟩),.string s] w fun e w'=>e=.returned (.tuple #[.int .i64 s.size,.nilIface])∧QI w 111 5 b v (bs++strCells s) w':=by
  obtain ⟨i0,hi,hz0,hz1,hz2⟩:=info_parts qI;have hne0:v.ownBlock≠some b:=by
    obtain ⟨⟨p,hb,hp⟩,hbuf⟩:=h;exact Z4 hbuf hb (by decide)
  go_enter Tryz.func41,Tryz.ntmps41
  go_wp2_with (go_at_call 76;refine (Zd b v bs _ h).mono ?_)
  rintro e w1 ⟨rfl,hck⟩
  have hbk:=hck.1;have hbuf:=hck.2.1;have c0:w1.cell? ⟨b,0,none⟩=some (.pointer (some ⟨b,0,none⟩)):=by rw [Lib.cell_of_heap hbk];rfl
  have c1:w1.cell? ⟨b,1,none⟩=some v:=by rw [Lib.cell_of_heap hbk];rfl
  go_wp2_with (at_builtin;refine Xj rfl _ _ 109 9 rfl 5 i0 Tryz.underlying109 Tryz.underlying9 hi hz0 hz1 hz2 v bs rfl hbuf s rfl hlen ?_)
  intro v' w2 hown' hgrow hsame;have hlt:b<w1.heap.size:=A4 hbk;have hb2:w2.heap[b]?=some (.cells #[.pointer (some ⟨b,0,none⟩),v] 111 (0,0)):=by
    rw [hgrow.block b hlt (fun e=>hne0 e.symm)];exact hbk
  have d0:w2.cell? ⟨b,0,none⟩=some (.pointer (some ⟨b,0,none⟩)):=by rw [Lib.cell_of_heap hb2];rfl
  have d1:w2.cell? ⟨b,1,none⟩=some v:=by rw [Lib.cell_of_heap hb2];rfl
  have f1:w2.frozen? ⟨b,1,none⟩=false:=Lib.frozen_of_heap hb2 1;have hw:=kj 111 5 (by decide) hck (.inl rfl) hgrow hsame hown' hne0;obtain ⟨ao,n',cap,rfl⟩:∃ ao n' cap,v'=.slice ao n' cap:=by
    rcases hown' with ⟨hv,_⟩ | ⟨g,cap,cur,hv,_⟩
    · exact ⟨_,_,_,hv⟩
    · exact ⟨_,_,_,hv⟩
  go_wp2
  go_ret2
  exact ⟨rfl,hw⟩
set_option maxHeartbeats 2000000 in
set_option maxRecDepth 100000 in
theorem lX (b : Nat) (v : Value) (bs : List Value) (c : Int) (w : World) (h : Pl w 111 5 b v bs) (hlen : bs.length + 1 ≤ 140737488355328) :
    Calls Tryz.prog 44 #[.pointer (some ⟨b,0,none⟩),.int .u8 c] w fun e w'=>e=.returned .nilIface∧QI w 111 5 b v (bs++[.int .u8 c]) w':=by
  obtain ⟨i0,hi,hz0,hz1,hz2⟩:=info_parts qI;have hne0:v.ownBlock≠some b:=by
    obtain ⟨⟨p,hb,hp⟩,hbuf⟩:=h;exact Z4 hbuf hb (by decide)
  go_enter Tryz.func44,Tryz.ntmps44
  go_wp2_with (go_at_call 76;refine (Zd b v bs _ h).mono ?_)
  rintro e w1 ⟨rfl,hck⟩
  have hbk:=hck.1;have hbuf:=hck.2.1;have hlt:b<w1.heap.size:=A4 hbk;have c0:w1.cell? ⟨b,0,none⟩=some (.pointer (some ⟨b,0,none⟩)):=by rw [Lib.cell_of_heap hbk];rfl
  have c1:w1.cell? ⟨b,1,none⟩=some v:=by rw [Lib.cell_of_heap hbk];rfl
  go_wp2_with (at_builtin;refine Vk rfl _ _ 109 rfl 5 i0 Tryz.underlying109 hi hz0 hz1 hz2 v bs rfl ?c0 ⟨w1.heap.size,0,none⟩ 1 1 [.int .u8 c] rfl rfl Nat.one_pos ?c1 ?c2 hlen ?_)
  case c0 =>
    refine hbuf.kept fun g hg=>?_
    refine Lib.alloc_old w1 _ g ?_
    rcases hbuf with ⟨rfl,_⟩ | ⟨g',cap,cur,rfl,hgg,_⟩
    · simp [Value.ownBlock] at hg
    · simp only [Value.ownBlock,Option.some.injEq] at hg;subst hg;exact A4 hgg
  case c1 =>
    intro j u hj
    match j,hj with
    | 0,hj=>simp at hj;subst hj;simp [Addr.add]
  case c2=>intro u hu;simp at hu;subst hu;rfl
  intro v' w2 hown' hgrow hsame;have hb2:w2.heap[b]?=some (.cells #[.pointer (some ⟨b,0,none⟩),v] 111 (0,0)):=by
    rw [hgrow.block b (by simp;omega) (fun e=>hne0 e.symm),Lib.alloc_old w1 _ b hlt];exact hbk
  have d0:w2.cell? ⟨b,0,none⟩=some (.pointer (some ⟨b,0,none⟩)):=by rw [Lib.cell_of_heap hb2];rfl
  have d1:w2.cell? ⟨b,1,none⟩=some v:=by rw [Lib.cell_of_heap hb2];rfl
  have f1:w2.frozen? ⟨b,1,none⟩=false:=Lib.frozen_of_heap hb2 1;have hw:=kj 111 5 (by decide) hck (.inr ⟨_,rfl⟩) hgrow hsame hown' hne0;obtain ⟨ao,n',cap,rfl⟩:∃ ao n' cap,v'=.slice ao n' cap:=by
    rcases hown' with ⟨hv,_⟩ | ⟨g,cap,cur,hv,_⟩
    · exact ⟨_,_,_,hv⟩
    · exact ⟨_,_,_,hv⟩
  go_wp2
  go_ret
  exact ⟨rfl,hw⟩
set_option maxHeartbeats 1000000 in
set_option maxRecDepth 100000 in
theorem j9 (b : Nat) (v : Value) (l : List UInt8) (w : World) (h : Pl w 111 5 b v (Lib.byteCells l)) (hl63 : l.length ≤ 9223372036854775807) :
    Calls Tryz.prog 45 #[.pointer (some ⟨b,0,none⟩)] w fun e w'=>e=.returned (.string ⟨l.toArray⟩)∧pC w v w':=by
  obtain ⟨⟨p,hbk,hp⟩,hbuf⟩:=h;have c1:w.drew.cell? ⟨b,1,none⟩=some v:=by
    have:w.drew.heap[b]?=some (.cells #[p,v] 111 (0,0)):=hbk;rw [Lib.cell_of_heap this];rfl
  have mixed:Tryz.prog.follows .mixedOrders=true:=by kernel_rfl
  rcases hbuf with ⟨rfl,hl⟩ | ⟨g,cap,cur,rfl,hg,hc0,hnc,hcs,htake⟩
  · have hl:l=[]:=by simpa [Lib.byteCells] using hl
    subst hl;have hUS:∀ (W:World) (q:Option Addr),(Builtin.unsafeString_ #[146,3] 9 #[.pointer q,.int .i64 0]).run Tryz.prog W=.ok (.string .empty) W:=fun W q=>Lib.run_unsafeString_none W _ _ _ q
    have hSD:(Builtin.unsafeSliceData_ #[109] 146 #[.slice none 0 0]).run Tryz.prog w.drew=.ok (.pointer none) w.drew:=rfl
    go_enter Tryz.func45,Tryz.ntmps45
    go_wp2
    go_region_o
    all_goals (go_wp2;go_ret;exact ⟨rfl,rfl,rfl,rfl,Nat.le_refl _,fun _ _ _=>rfl⟩)
  · rw [Lib.byteCells_length] at hnc c1;have hSD:(Builtin.unsafeSliceData_ #[109] 146 #[.slice (some ⟨g,0,none⟩) l.length cap]).run Tryz.prog w.drew=.ok (.pointer (some ⟨g,0,none⟩)) w.drew :=
      Lib.run_unsafeSliceData_row _ _ _ _ _ _ (by omega)
    by_cases h0:l=[]
    · subst h0;have hUS:∀ (W:World) (q:Option Addr),(Builtin.unsafeString_ #[146,3] 9 #[.pointer q,.int .i64 0]).run Tryz.prog W=.ok (.string .empty) W:=fun W q=>Lib.run_unsafeString_none W _ _ _ q
      simp only [List.length_nil] at c1 hSD;clear hc0
      go_enter Tryz.func45,Tryz.ntmps45
      go_wp2
      go_region_o
      all_goals (go_wp2;go_ret;exact ⟨rfl,rfl,rfl,rfl,Nat.le_refl _,fun _ _ _=>rfl⟩)
    · have hUS : (Builtin.unsafeString_ #[146, 3] 9 #[.pointer (some ⟨g, 0, none⟩), .int .i64 l.length]).run Tryz.prog w.drew = .ok (.string ⟨l.toArray⟩) (w.drew.freeze ⟨g, 0, none⟩ l.length) := by
        refine Lib.run_unsafeString_row w.drew 146 3 9 5 Tryz.underlying146 (by kernel_rfl) g cur.size (by have hg':w.drew.heap[g]?=some (.cells cur 5 (0,0)):=hg;simp [World.shape?,hg']) l h0 (by omega) hl63 ?_;intro j x hx;have hj:j<l.length:=(List.getElem?_eq_some_iff.1 hx).1;have h1:(Lib.byteCells l)[j]?=some (.int .u8 x.toNat):=by simp [Lib.byteCells,hx]
        rw [← htake,List.getElem?_take,if_pos (by rw [Lib.byteCells_length];exact hj)] at h1;have hg':w.drew.heap[g]?=some (.cells cur 5 (0,0)):=hg;rw [HE];simpa [World.cell?,hg'] using h1
      have hrd:=fun n=>jd w g n (.slice (some ⟨g,0,none⟩) (Lib.byteCells l).length cap) rfl
      go_enter Tryz.func45,Tryz.ntmps45
      go_wp2
      go_region_o
      all_goals (go_wp2;go_ret;exact ⟨rfl,hrd _⟩)
def pt:List Bld:=[⟨41,0,111,5⟩,⟨44,1,111,5⟩,⟨45,2,111,5⟩]
theorem se:∀ b∈pt,Pr Tryz.prog b:=fun b h=>by
 simp only [pt,List.mem_cons,List.not_mem_nil,or_false] at h
 rcases h with rfl | rfl | rfl
 ·exact fun n v bs s w h hl=>gS n v bs s w h hl
 ·exact fun n v bs c w h hl=>lX n v bs c w h hl
 ·exact fun n v l w h hl=>j9 n v l w h hl
end Go.Px
end
