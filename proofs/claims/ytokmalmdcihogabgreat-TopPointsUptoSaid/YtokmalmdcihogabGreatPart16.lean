/- Part 16. -/
import Derived.Test.YtokmalmdcihogabGreatPart15
import Derived.Test.YtokmalmdcihogabGreatPart14
import Derived.KernelRfl
import Derived.Test.YtokmalmdcihogabGreatPart09
import Derived.Laws.Externs
import Derived.Laws.ResultCell
import Derived.Laws.Rows
import Derived.WalkKit
import Derived.Below
import Derived.Test.YtokmalmdcihogabGreatProg
set_option linter.unusedVariables false
set_option linter.unusedSimpArgs false
variable {r1 r2 r3 r4 r5 r6 r7 r9 r10 r11 r12:Int}
section
namespace Go.Px
set_option maxRecDepth 100000
def Er (q:Int) (s:Inn):Sco:=⟨s.side,s.runs,s.wickets,Bv q s.complete s.inover,s.wides,s.noballs,s.byes,s.legbyes,s.pens,s.ending⟩
theorem rF (f:Inn→Sco) {xs:List Inn} {i:Nat} (h:i<xs.length):(xs.take i).map f++[f (inn xs i)]=(xs.take (i+1)).map f:=by
 rw [← Vj h,List.map_append];rfl
set_option maxHeartbeats 1000000 in
theorem ed {N:Nat} {m1 m2 m3 m4 m5 m6 m7 m9 m10 m11 m12 m14 m15 m18 m19 m20 m21 m22:Int} {m8 m16:Bool} {m0:ByteArray} {m13:Rows} {m17:List Inn} (hN:2097152<N) (hl:m17.length≤1000000):Js N [.str m0,.int m1,.int m2,.int m3,.int m4,.int m5,.int m6,.int m7,.bool m8,.int m9,.int m10,.int m11,.int m12,.rows m13,.int m14,.int m15,.bool m16,.rows (AZ m17),.int m18,.int m19,.int m20,.int m21,.int m22]=some [.rows (A5 (m17.map (Er m4)))]:=by
 show Jj (std (LH N) N) (xOf _)=_;generalize hres:(some [.rows (A5 (m17.map (Er m4)))]:Option (List PV))=RR;simp only [Jj,Gp,lq9,std,xOf,PXb,PXi];subst hres;refine Ad (DQ (len:=m17.length) (fun i=>[.rows (A5 ((m17.take i).map (Er m4))),.int (i:Int)]) [.rows (A5 (m17.map (Er m4)))] ?_ ?_ N (by omega)) rfl
 ·intro self;simp only [PXb,PXc,PXn,AG,Bh,List.take_length]
 ·intro i self hi;have h3:iSm ((i+1:Nat):Int) 80=true:=ID (by omega) (by omega);have tl:(m17.take i).length=i:=by rw [List.length_take];omega
  simp only [PXb,PXc,PXn,AG,LX (show i≤1099511627776 by omega),BR hi,Ax hi,PXi,Gp,Sb,PXs,List.length_append,List.length_map,tl,List.length_cons,List.length_nil,Nat.reduceAdd,h3,PXt];rw [← rF (Er m4) hi];rfl
theorem gR {n:Int} (h1:0≤n) (h2:n<18446744073709551616):IntKind.u64.wrap n=n:=by
 unfold IntKind.wrap;simp [IntKind.signed,IntKind.bits];omega
theorem Xt {x:Int}:U3 false .u64 x 32=x / 4294967296:=by
 show x.fdiv (2 ^ min (32:Int).toNat IntKind.u64.bits)=_;rw [show min (32:Int).toNat IntKind.u64.bits=32 from rfl,Int.fdiv_eq_ediv_of_nonneg _ (by omega)];rfl
theorem dM {x:Int} (h:0≤x∧x<4294967296):Qw 0 .u64 x 4294967295=x:=by
 obtain ⟨n,rfl⟩:=Int.eq_ofNat_of_zero_le h.1;have hn:n<4294967296:=by omega
 show IntKind.u64.wrap (((BitVec.ofInt 64 (n:Int)) &&& (BitVec.ofInt 64 4294967295)).toNat:Int)=_;have e:((BitVec.ofInt 64 (n:Int)) &&& (BitVec.ofInt 64 4294967295)).toNat=n:=by
  rw [BitVec.toNat_and,BitVec.toNat_ofInt,BitVec.toNat_ofInt];have e1:((n:Int) % ((2 ^ 64:Nat):Int)).toNat=n:=by omega
  have e2:((4294967295:Int) % ((2 ^ 64:Nat):Int)).toNat=2 ^ 32 - 1:=rfl;rw [e1,e2,Nat.and_two_pow_sub_one_eq_mod];omega
 rw [e];exact gR (by omega) (by omega)
theorem oG {x y:Int} (hx:0≤x∧x≤2147483647) (hy:0≤y∧y≤2147483647):0≤x * y∧x * y≤4611686014132420609:=by
 refine ⟨Int.mul_nonneg hx.1 hy.1,?_⟩;have h1:=Int.mul_le_mul_of_nonneg_right hx.2 hy.1;have h2:=Int.mul_le_mul_of_nonneg_left hy.2 (show (0:Int)≤2147483647 by omega);omega
theorem YS {N:Nat} {x y:Int} (hx:0≤x∧x≤2147483647) (hy:0≤y∧y≤2147483647):D9 N [.int x,.int y]=some [.int 0,.int (x * y)]:=by
 show GO (std (NM N) N) (xOf _)=_;have p:=oG hx hy;have ax:Qw 0 .u64 x 4294967295=x:=dM (by omega);have ay:Qw 0 .u64 y 4294967295=y:=dM (by omega);have sx:U3 false .u64 x 32=0:=by rw [Xt];omega
 have sy:U3 false .u64 y 32=0:=by rw [Xt];omega
 have wp:IntKind.u64.wrap (x * y)=x * y:=gR p.1 (by omega);have st:U3 false .u64 (x * y) 32=x * y / 4294967296:=Xt;have tb:0≤x * y / 4294967296∧x * y / 4294967296<4294967296:=by omega
 have wt:IntKind.u64.wrap (x * y / 4294967296)=x * y / 4294967296:=gR tb.1 (by omega);have at_:Qw 0 .u64 (x * y / 4294967296) 4294967295=x * y / 4294967296:=dM tb;have tt:U3 false .u64 (x * y / 4294967296) 32=0:=by rw [Xt];omega
 have w0:IntKind.u64.wrap 0=0:=rfl;simp only [GO,lq9,std,xOf,PXb];simp only [ax,ay,sx,sy,wp,st,wt,at_,tt,w0,Int.zero_mul,Int.mul_zero,Int.zero_add,Int.add_zero]
def wd (p:Int):List PV:=cond (iLt p 0) [.int (-1),.int (18446744073709551616+p)] [.int 0,.int p]
theorem Ye {N:Nat} {n:Int} (h : -2147483647≤n∧n≤2147483647):KM N [.int n]=some [.int (n.natAbs:Int),.bool (iLt n 0)]:=by
 show OP (std (Vi N) N) (xOf _)=_;simp only [OP,lq9,std,xOf,PXb];cases hn:iLt n 0 with
 | false =>
  simp only [iLt,decide_eq_false_iff_not] at hn;have:IntKind.u64.wrap n=n:=gR (by omega) (by omega);rw [this,show ((n.natAbs:Nat):Int)=n by omega];rfl
 | true =>
  simp only [iLt,decide_eq_true_eq] at hn;have e:IntKind.u64.wrap (0 - IntKind.u64.wrap n) = -n:=by
   unfold IntKind.wrap;simp [IntKind.signed,IntKind.bits];omega
  simp only [cond_true,e,show ((n.natAbs:Nat):Int) = -n by omega]
theorem tB (a b:Int):((a.natAbs:Int)) * (b.natAbs:Int)=((a * b).natAbs:Int):=by
 rw [Int.natAbs_mul];simp
theorem bG {N:Nat} {a b:Int} (ha : -2147483647≤a∧a≤2147483647) (hb : -2147483647≤b∧b≤2147483647):MD N [.int a,.int b]=some (wd (a * b)):=by
 show P8 (std (Ix N) N) (xOf _)=_;have p:=oG (x:=(a.natAbs:Int)) (y:=(b.natAbs:Int)) (by omega) (by omega);simp only [P8,Ut,O4,UX,lq9,std,xOf,PXb,Ye ha,Ye hb,YS (x:=(a.natAbs:Int)) (y:=(b.natAbs:Int)) (by omega) (by omega)];rw [tB] at p ⊢;have hm:KL N [.int 0,.int ((a * b).natAbs:Int),.bool (!(iLt a 0==iLt b 0))]=some (cond (!(iLt a 0==iLt b 0) && !(((a * b).natAbs:Int)==0)) [.int (-1),.int (18446744073709551616 - ((a * b).natAbs:Int)),.bool true] [.int 0,.int ((a * b).natAbs:Int),.bool true]):=by
  show bU _=_;unfold bU;simp only [beq_self_eq_true,decide_eq_true p.1,decide_eq_true (show ((a * b).natAbs:Int)<9223372036854775808 by omega),Bool.and_self,cond_true]
 rw [hm];unfold wd;have sg:(!(iLt a 0==iLt b 0) && !(((a * b).natAbs:Int)==0))=iLt (a * b) 0:=by
  rcases Int.lt_trichotomy a 0 with h1 | h1 | h1<;>rcases Int.lt_trichotomy b 0 with h2 | h2 | h2
  ·have:=Int.mul_pos_of_neg_of_neg h1 h2;simp [iLt,h1,h2];omega
  ·subst h2;simp [iLt]
  ·have:=Int.mul_neg_of_neg_of_pos h1 h2;simp [iLt,h1,show ¬ b<0 by omega,this];omega
  ·subst h1;simp [iLt]
  ·subst h1;simp [iLt]
  ·subst h1;simp [iLt]
  ·have:=Int.mul_neg_of_pos_of_neg h1 h2;simp [iLt,h2,show ¬ a<0 by omega,this];omega
  ·subst h2;simp [iLt]
  ·have:=Int.mul_pos h1 h2;simp [iLt,show ¬ a<0 by omega,show ¬ b<0 by omega];omega
 rw [sg];cases hs:iLt (a * b) 0 with
 | true =>
  simp only [iLt,decide_eq_true_eq] at hs;rw [show (18446744073709551616:Int) - ((a * b).natAbs:Int)=18446744073709551616+a * b by omega];rfl
 | false =>
  simp only [iLt,decide_eq_false_iff_not] at hs;rw [show ((a * b).natAbs:Int)=a * b by omega];rfl
def TO (p q:Int):Int:=cond (iLt p q) (-1) (cond (p==q) 0 1)
theorem mf {N:Nat} {p q:Int} (hp : -9223372036854775808<p∧p<9223372036854775808) (hq : -9223372036854775808<q∧q<9223372036854775808):HH N (wd p++wd q)=some [.int (TO p q)]:=by
 have e:∀ a b c d:Int,HH N [.int a,.int b,.int c,.int d]=some [.int (cond (iLt a c||(a==c&&iLt b d)) (-1) (cond (a==c&&b==d) 0 1))]:=fun a b c d=>by
  show QF (std (XT N) N) (xOf _)=_;simp only [QF,lq9,std,xOf,PXb];cases iLt a c||(a==c&&iLt b d)<;>cases a==c<;>cases b==d<;>rfl
 unfold wd TO;cases h1:iLt p 0<;>cases h2:iLt q 0<;>simp only [iLt,decide_eq_false_iff_not,decide_eq_true_eq] at h1 h2<;>simp only [cond_true,cond_false,List.cons_append,List.nil_append,e]
 ·simp [iLt]
 ·rw [show iLt p q=false by simp only [iLt,decide_eq_false_iff_not];omega,show (p==q)=false by rw [beq_eq_false_iff_ne];omega];simp [iLt]
 ·rw [show iLt p q=true by simp only [iLt,decide_eq_true_eq];omega];simp [iLt]
 ·have e1:iLt (18446744073709551616+p) (18446744073709551616+q)=iLt p q:=by simp [iLt]
  have e2:(18446744073709551616+p==18446744073709551616+q)=(p==q):=by
   rw [Bool.eq_iff_iff,beq_iff_eq,beq_iff_eq];omega
  rw [e1,e2];simp [iLt]
structure Sta where
 t:Int
 p:Int
 w:Int
 sh:Int
 l:Int
 pts:Int
 rf:Int
 bf:Int
 ra:Int
 ba:Int
def Sta.ls (s:Sta):List PV:=[.int s.t,.int s.p,.int s.w,.int s.sh,.int s.l,.int s.pts,.int s.rf,.int s.bf,.int s.ra,.int s.ba]
structure StaOk (s:Sta):Prop where
 rf:0≤s.rf∧s.rf≤20000
 bf:0≤s.bf∧s.bf≤10000
 ra:0≤s.ra∧s.ra≤20000
 ba:0≤s.ba∧s.ba≤10000
theorem Dl {N:Nat} {a b:Int}:Ca N [.int a,.int b]=some [.bool (iLe 0 a&&iLe a b)]:=by
 show IG (std (Pg N) N) (xOf _)=_;simp only [IG,lq9,std,xOf,PXb]
theorem aI {N:Nat} {b:Bool}:Fn N [.bool b]=some [.int (cond b (-1) 1)]:=by
 show II (std (Pq N) N) (xOf _)=_;simp only [II,lq9,std,xOf,PXb];cases b<;>rfl
def qA (s:Sta):Int:=cond (s.bf==0) 0 s.rf
def qB (s:Sta):Int:=cond (s.bf==0) 1 s.bf
def qC (s:Sta):Int:=cond (s.ba==0) 0 s.ra
def qE (s:Sta):Int:=cond (s.ba==0) 1 s.ba
def qN (s:Sta):Int:=qA s * qE s - qC s * qB s
def qD (s:Sta):Int:=qB s * qE s
theorem Tp {a b x y:Int} (ha:0≤a∧a≤x) (hb:0≤b∧b≤y) (hx:0≤y):0≤a * b∧a * b≤x * y:=by
 refine ⟨Int.mul_nonneg ha.1 hb.1,?_⟩;have h1:=Int.mul_le_mul_of_nonneg_right ha.2 hb.1;have h2:=Int.mul_le_mul_of_nonneg_left hb.2 (show 0≤x by omega);omega
theorem cO {s:Sta} (h:StaOk s):(0≤qA s * qE s∧qA s * qE s≤200000000)∧(0≤qC s * qB s∧qC s * qB s≤200000000)∧(0≤qD s∧qD s≤100000000):=by
 have h1:=h.rf;have h2:=h.bf;have h3:=h.ra;have h4:=h.ba;have a:0≤qA s∧qA s≤20000:=by unfold qA;cases s.bf==0<;>simp<;>omega
 have c:0≤qC s∧qC s≤20000:=by unfold qC;cases s.ba==0<;>simp<;>omega
 have b:0≤qB s∧qB s≤10000:=by unfold qB;cases s.bf==0<;>simp<;>omega
 have e:0≤qE s∧qE s≤10000:=by unfold qE;cases s.ba==0<;>simp<;>omega
 exact ⟨Tp a e (by omega),Tp c b (by omega),Tp b e (by omega)⟩
set_option maxHeartbeats 1000000 in
theorem Vx {N:Nat} {s:Sta} (hN:2097152<N) (h:StaOk s):Dy N s.ls=some [.int (qN s),.int (qD s),.bool true]:=by
 have h1:=h.rf;have h2:=h.bf;have h3:=h.ra;have h4:=h.ba;obtain ⟨b1,b2,b3⟩:=cO h;show Kp (std (MO N) N) (xOf [.int s.t,.int s.p,.int s.w,.int s.sh,.int s.l,.int s.pts,.int s.rf,.int s.bf,.int s.ra,.int s.ba])=_;simp only [Kp,Bj,lq9,std,xOf,PXb];have ww:∀ x:Int,0≤x→x≤20000→iLe 0 x=true∧iLe x 1048576=true:=fun x g1 g2=>by
  simp only [iLe,decide_eq_true_eq];omega
 refine Ad (DQ (len:=4) (fun i=>[.int (i:Int)]) [.int 1] ?_ ?_ N (by omega)) ?_
 ·intro self;rfl
 ·intro i self hi;have k1:=ww s.rf (by omega) (by omega);have k2:=ww s.bf (by omega) (by omega);have k3:=ww s.ra (by omega) (by omega);have k4:=ww s.ba (by omega) (by omega)
  rcases (show i=0∨i=1∨i=2∨i=3 by omega) with rfl | rfl | rfl | rfl
  ·simp only [PXb,PXc,PXn,AG,Bj,Dl];simp [k1.1,k1.2,iLt,iIn];rfl
  ·simp only [PXb,PXc,PXn,AG,Bj,Dl];simp [k2.1,k2.2,iLt,iIn];rfl
  ·simp only [PXb,PXc,PXn,AG,Bj,Dl];simp [k3.1,k3.2,iLt,iIn];rfl
  ·simp only [PXb,PXc,PXn,AG,Bj,Dl];simp [k4.1,k4.2,iLt,iIn];rfl
 ·have w1:IntKind.i64.wrap (qA s * qE s)=qA s * qE s:=Bg (by omega) (by omega);have w2:IntKind.i64.wrap (qC s * qB s)=qC s * qB s:=Bg (by omega) (by omega);have w3:IntKind.i64.wrap (qD s)=qD s:=Bg (by omega) (by omega);have w4:IntKind.i64.wrap (qN s)=qN s:=Bg (by unfold qN;omega) (by unfold qN;omega);unfold qN qD at *
  unfold qA qB qC qE at *
  generalize (s.bf==0)=x at *
  generalize (s.ba==0)=y at *
  cases x<;>cases y<;>simp only [cond_true,cond_false] at w1 w2 w3 w4<;>(simp only [PXb,PXc,PXn,AG,cond_true,cond_false,w1,w2,w3,w4];rfl)
def JF (a b:Sta):Int:=TO (qN a * qD b) (qN b * qD a)
theorem uU {a b:Sta} (ha:StaOk a) (hb:StaOk b) : -9223372036854775808<qN a * qD b∧qN a * qD b<9223372036854775808:=by
 obtain ⟨a1,a2,a3⟩:=cO ha;obtain ⟨b1,b2,b3⟩:=cO hb;have e:qN a * qD b=qA a * qE a * qD b - qC a * qB a * qD b:=by unfold qN;exact Int.sub_mul _ _ _
 have m1:=Tp a1 b3 (by omega);have m2:=Tp a2 b3 (by omega);rw [e];omega
theorem mH {a:Sta} (ha:StaOk a):(-2147483647≤qN a∧qN a≤2147483647)∧(-2147483647≤qD a∧qD a≤2147483647):=by
 obtain ⟨a1,a2,a3⟩:=cO ha;unfold qN;omega
set_option maxHeartbeats 1000000 in
theorem VD {N:Nat} {a b:Sta} (hN:2097152<N) (ha:StaOk a) (hb:StaOk b):CO N (a.ls++b.ls)=some [.int (JF a b)]:=by
 have k1:Dy N [.int a.t,.int a.p,.int a.w,.int a.sh,.int a.l,.int a.pts,.int a.rf,.int a.bf,.int a.ra,.int a.ba]=some [.int (qN a),.int (qD a),.bool true]:=Vx hN ha;have k2:Dy N [.int b.t,.int b.p,.int b.w,.int b.sh,.int b.l,.int b.pts,.int b.rf,.int b.bf,.int b.ra,.int b.ba]=some [.int (qN b),.int (qD b),.bool true]:=Vx hN hb;have k3:=bG (N:=N) (mH ha).1 (mH hb).2;have k4:=bG (N:=N) (mH hb).1 (mH ha).2;have k5:=mf (N:=N) (uU ha hb) (uU hb ha);show ER (std (Cj N) N) (xOf [.int a.t,.int a.p,.int a.w,.int a.sh,.int a.l,.int a.pts,.int a.rf,.int a.bf,.int a.ra,.int a.ba,.int b.t,.int b.p,.int b.w,.int b.sh,.int b.l,.int b.pts,.int b.rf,.int b.bf,.int b.ra,.int b.ba])=_;simp only [ER,Ky,M4,NF,lq9,std,xOf,PXb,k1,k2,k3,k4];have wl:∀ p:Int,∃ x y:Int,wd p=[.int x,.int y]:=fun p=>by unfold wd;cases iLt p 0<;>exact ⟨_,_,rfl⟩
 obtain ⟨x,y,e1⟩:=wl (qN a * qD b);obtain ⟨z,u,e2⟩:=wl (qN b * qD a);rw [e1,e2] at k5;have k5:HH N [.int x,.int y,.int z,.int u]=some [.int (TO (qN a * qD b) (qN b * qD a))]:=k5;simp only [PXb,PXc,PXn,AG,e1,e2,k5];rfl
def Bb (a b:Sta):Int:=cond (!(a.pts==b.pts)) (cond (iLt b.pts a.pts) (-1) 1) (cond (!(a.w==b.w)) (cond (iLt b.w a.w) (-1) 1) (cond (!(JF a b==0)) (-(JF a b)) (cond (!(a.t==b.t)) (cond (iLt a.t b.t) (-1) 1) 0)))
theorem aN (p q:Int):(p<q∧TO p q = -1)∨(p=q∧TO p q=0)∨(q<p∧TO p q=1):=by
 unfold TO
 rcases Int.lt_trichotomy p q with h | h | h
 ·exact .inl ⟨h,by simp [iLt,h]⟩
 ·subst h;exact .inr (.inl ⟨rfl,by simp [iLt]⟩)
 ·exact .inr (.inr ⟨h,by rw [show iLt p q=false by simp only [iLt,decide_eq_false_iff_not];omega,show (p==q)=false by rw [beq_eq_false_iff_ne];omega];rfl⟩)
theorem oB (p q:Int):TO q p = -TO p q:=by
 rcases aN p q with ⟨h1,h2⟩ | ⟨h1,h2⟩ | ⟨h1,h2⟩<;>rcases aN q p with ⟨g1,g2⟩ | ⟨g1,g2⟩ | ⟨g1,g2⟩<;>rw [h2,g2]<;>omega
theorem RB {N:Nat} {a b:Sta} (hN:2097152<N) (ha:StaOk a) (hb:StaOk b):CJ N (a.ls++b.ls)=some [.int (Bb a b)]:=by
 have k:CO N [.int a.t,.int a.p,.int a.w,.int a.sh,.int a.l,.int a.pts,.int a.rf,.int a.bf,.int a.ra,.int a.ba,.int b.t,.int b.p,.int b.w,.int b.sh,.int b.l,.int b.pts,.int b.rf,.int b.bf,.int b.ra,.int b.ba]=some [.int (JF a b)]:=VD hN ha hb;have w:IntKind.i64.wrap (0 - JF a b) = -(JF a b):=by
  unfold JF
  rcases aN (qN a * qD b) (qN b * qD a) with ⟨_,h⟩ | ⟨_,h⟩ | ⟨_,h⟩<;>rw [h]<;>rfl
 show HO (std (Fo N) N) (xOf [.int a.t,.int a.p,.int a.w,.int a.sh,.int a.l,.int a.pts,.int a.rf,.int a.bf,.int a.ra,.int a.ba,.int b.t,.int b.p,.int b.w,.int b.sh,.int b.l,.int b.pts,.int b.rf,.int b.bf,.int b.ra,.int b.ba])=_;simp only [HO,MU,JP,lq9,std,xOf,PXb,k,aI,w];unfold Bb;cases a.pts==b.pts<;>cases a.w==b.w<;>cases JF a b==0<;>cases a.t==b.t<;>rfl
theorem ZO {x y:Int} (h:(x==y)=false):(cond (iLt x y) (-1) 1:Int) = -(cond (iLt y x) (-1) 1):=by
 rw [beq_eq_false_iff_ne] at h
 rcases Int.lt_trichotomy x y with g | g | g
 ·rw [show iLt x y=true by simp only [iLt,decide_eq_true_eq];omega,show iLt y x=false by simp only [iLt,decide_eq_false_iff_not];omega];rfl
 ·exact absurd g h
 ·rw [show iLt x y=false by simp only [iLt,decide_eq_false_iff_not];omega,show iLt y x=true by simp only [iLt,decide_eq_true_eq];omega];rfl
theorem X2 (x y:Int):(y==x)=(x==y):=by rw [Bool.eq_iff_iff,beq_iff_eq,beq_iff_eq];exact eq_comm
theorem oE (a b:Sta):Bb b a = -Bb a b:=by
 have hr:JF b a = -JF a b:=oB _ _;unfold Bb;rw [X2 a.pts b.pts,X2 a.w b.w,X2 a.t b.t,hr];have e0:(-JF a b==0)=(JF a b==0):=by rw [Bool.eq_iff_iff,beq_iff_eq,beq_iff_eq];omega
 rw [e0];cases h1:a.pts==b.pts with
 | false=>exact ZO h1
 | true =>
  cases h2:a.w==b.w with
  | false=>exact ZO h2
  | true =>
   cases h3:JF a b==0 with
   | false=>rfl
   | true =>
    cases h4:a.t==b.t with
    | false=>exact ZO (by rw [X2];exact h4)
    | true=>rfl
theorem oU {a b:Sta} (h:¬ a.t=b.t):Bb a b = -1∨Bb a b=1:=by
 have c2:∀ b:Bool,(cond b (-1) 1:Int) = -1∨(cond b (-1) 1:Int)=1:=fun b=>by cases b<;>simp
 unfold Bb;rw [show (a.t==b.t)=false from beq_false_of_ne h];cases a.pts==b.pts with
 | false=>exact c2 _
 | true =>
  cases a.w==b.w with
  | false=>exact c2 _
  | true =>
   cases h3:JF a b==0 with
   | true=>exact c2 _
   | false =>
    show -(JF a b) = -1 ∨ -(JF a b)=1;rw [beq_eq_false_iff_ne] at h3;unfold JF at h3 ⊢
    rcases aN (qN a * qD b) (qN b * qD a) with ⟨_,g⟩ | ⟨_,g⟩ | ⟨_,g⟩<;>rw [g] at h3 ⊢<;>omega
structure Pl where
 h:Int
 a:Int
 hr:Int
 hb:Int
 ar:Int
 ab:Int
 win:Int
 void:Bool
def Pl.ls (p:Pl):List PV:=[.int p.h,.int p.a,.int p.hr,.int p.hb,.int p.ar,.int p.ab,.int p.win,.bool p.void]
def plZ:Pl:=⟨0,0,0,0,0,0,0,false⟩
def GP (l:List Pl):Rows:=l.map Pl.ls
def pln (l:List Pl) (i:Nat):Pl:=l.getD i plZ
theorem FX (l:List Pl):(GP l).length=l.length:=List.length_map _
theorem ZH {l:List Pl} {i:Nat} (h:i<l.length):AK (GP l) i=(pln l i).ls:=by
 unfold AK GP pln;rw [zzl,zzl,List.getElem?_map,zzo h];rfl
structure PlOk (p:Pl):Prop where
 h:p.h=0∨p.h=1∨p.h=2
 a:p.a=0∨p.a=1∨p.a=2
 ne:¬ p.h=p.a
 hr:0≤p.hr∧p.hr≤2000
 ar:0≤p.ar∧p.ar≤2000
 hb:0≤p.hb∧p.hb≤1000
 ab:0≤p.ab∧p.ab≤1000
 win:p.win=0∨p.win=1∨p.win=2
 void:p.void=true→p.win=0∧p.hr=0∧p.hb=0∧p.ar=0∧p.ab=0
theorem iZ {l:List Pl} (hl:∀ p,p∈l→PlOk p) {i:Nat} (h:i<l.length):PlOk (pln l i):=by
 unfold pln;rw [zzl,zzo h];exact hl _ (List.getElem_mem _)
set_option maxHeartbeats 2000000 in
theorem da {N:Nat} {l:List Pl} (hN:2097152<N) (hl:∀ p,p∈l→PlOk p) (h4:l.length≤400):Jh N [.int 3,.rows (GP l)]=some [.int 0]:=by
 show Jo (std (LE N) N) (xOf _)=_;simp only [Jo,Ge,lq9,std,xOf,PXb,Dl];have b4:iLt 400 ((GP l).length:Int)=false:=by rw [FX];simp only [iLt,decide_eq_false_iff_not];omega
 simp only [PXb,PXc,PXn,AG,b4,show (iLt 3 2||iLt 20 3)=false from rfl];refine Ad (DQ (len:=l.length) (fun i=>[.int (i:Int)]) [.int 1] ?_ ?_ N (by omega)) rfl
 ·intro self;simp only [PXb,PXc,PXn,AG,FX,Bh]
 ·intro i self hi;have ok:=iZ hl hi;have pa:∀ c,AF (GP l) i c=AD (pln l i).ls c:=fun c=>by unfold AF;rw [ZH hi]
  have c0:pvI (AD (pln l i).ls 0)=(pln l i).h:=rfl;have c1:pvI (AD (pln l i).ls 1)=(pln l i).a:=rfl;have c2:pvI (AD (pln l i).ls 2)=(pln l i).hr:=rfl;have c3:pvI (AD (pln l i).ls 3)=(pln l i).hb:=rfl;have c4:pvI (AD (pln l i).ls 4)=(pln l i).ar:=rfl;have c5:pvI (AD (pln l i).ls 5)=(pln l i).ab:=rfl;have c6:pvI (AD (pln l i).ls 6)=(pln l i).win:=rfl;have c7:pvB (AD (pln l i).ls 7)=(pln l i).void:=rfl;have w:∀ x y:Int,0≤x→x≤y→iLe 0 x=true∧iLe x y=true:=fun x y h1 h2=>by simp only [iLe,decide_eq_true_eq];omega
  have h1:=ok.h;have h2:=ok.a;have h3:=ok.hr;have h4':=ok.ar;have h5:=ok.hb;have h6:=ok.ab;have h7:=ok.win;have w0:=w (pln l i).h 2 (by omega) (by omega);have w1:=w (pln l i).a 2 (by omega) (by omega);have w2:=w (pln l i).hr 2000 (by omega) (by omega);have w3:=w (pln l i).hb 1000 (by omega) (by omega);have w4:=w (pln l i).ar 2000 (by omega) (by omega);have w5:=w (pln l i).ab 1000 (by omega) (by omega);have w6:=w (pln l i).win 2 (by omega) (by omega);have ne:((pln l i).h==(pln l i).a)=false:=beq_false_of_ne ok.ne;have e2:IntKind.i64.wrap (3 - 1)=2:=rfl;simp only [PXb,PXc,PXn,AG,FX,LX (show i≤1099511627776 by omega),BR hi,Ax hi,Int.toNat_natCast,pa,c0,c1,c2,c3,c4,c5,c6,c7,e2,Ge,Dl,w0.1,w0.2,w1.1,w1.2,w2.1,w2.2,w3.1,w3.2,w4.1,w4.2,w5.1,w5.2,w6.1,w6.2,ne];cases hv:(pln l i).void with
  | false=>rfl
  | true =>
   obtain ⟨v1,v2,v3,v4,v5⟩:=ok.void hv;simp only [v1,v2,v3,v4,v5];rfl
def Am (f:Pl→Int):List Pl→Int
 | []=>0
 | p::l=>f p+Am f l
theorem Ze (f:Pl→Int):∀ a b,Am f (a++b)=Am f a+Am f b
 | [],b=>by rw [List.nil_append];show _=0+Am f b;omega
 | p::a,b=>by
  have:=Ze f a b;show f p+Am f (a++b)=f p+Am f a+Am f b;omega
theorem Id {f:Pl→Int} {c:Int}:∀ {l:List Pl},(∀ p,p∈l→0≤f p∧f p≤c)→0≤Am f l∧Am f l≤c * (l.length:Int)
 | [],_=>by
  show (0:Int)≤0∧(0:Int)≤c * ((0:Nat):Int);omega
 | p::l,h=>by
  have h1:=h p zzm;have h2:=Id (l:=l) (fun q hq=>h q (zzn _ hq));show 0≤f p+Am f l∧f p+Am f l≤c * ((l.length+1:Nat):Int);have e:c * ((l.length+1:Nat):Int)=c * (l.length:Int)+c:=by rw [Int.natCast_add,Int.mul_add];simp
  omega
def aP (t:Int) (p:Pl):Int:=cond (p.h==t) 1 (cond (p.a==t) 1 0)
def aW (t:Int) (p:Pl):Int:=cond (p.h==t) (cond (p.win==1) 1 0) (cond (p.a==t) (cond (p.win==2) 1 0) 0)
def aS (t:Int) (p:Pl):Int:=cond (p.h==t) (cond (p.win==0) 1 0) (cond (p.a==t) (cond (p.win==0) 1 0) 0)
def aL (t:Int) (p:Pl):Int:=cond (p.h==t) (cond (p.win==2) 1 0) (cond (p.a==t) (cond (p.win==1) 1 0) 0)
def aT (t:Int) (p:Pl):Int:=cond (p.h==t) (cond (p.win==0) 1 (cond (p.win==1) 2 0)) (cond (p.a==t) (cond (p.win==0) 1 (cond (p.win==2) 2 0)) 0)
def aRF (t:Int) (p:Pl):Int:=cond (p.h==t) p.hr (cond (p.a==t) p.ar 0)
def aBF (t:Int) (p:Pl):Int:=cond (p.h==t) p.hb (cond (p.a==t) p.ab 0)
def aRA (t:Int) (p:Pl):Int:=cond (p.h==t) p.ar (cond (p.a==t) p.hr 0)
def aBA (t:Int) (p:Pl):Int:=cond (p.h==t) p.ab (cond (p.a==t) p.hb 0)
def A9 (l:List Pl) (t:Int):Sta:=⟨t,Am (aP t) l,Am (aW t) l,Am (aS t) l,Am (aL t) l,Am (aT t) l,Am (aRF t) l,Am (aBF t) l,Am (aRA t) l,Am (aBA t) l⟩
def Zr (l:List Pl):List Sta:=[A9 l 0,A9 l 1,A9 l 2]
def CR (l:List Sta):Rows:=l.map Sta.ls
theorem a_b {p:Pl} (h:PlOk p) (t:Int):(0≤aP t p∧aP t p≤2)∧(0≤aW t p∧aW t p≤2)∧(0≤aS t p∧aS t p≤2)∧(0≤aL t p∧aL t p≤2)∧(0≤aT t p∧aT t p≤2)∧(0≤aRF t p∧aRF t p≤2000)∧(0≤aBF t p∧aBF t p≤1000)∧(0≤aRA t p∧aRA t p≤2000)∧(0≤aBA t p∧aBA t p≤1000):=by
 have h1:=h.hr;have h2:=h.ar;have h3:=h.hb;have h4:=h.ab;unfold aP aW aS aL aT aRF aBF aRA aBA;cases p.h==t<;>cases p.a==t<;>cases p.win==0<;>cases p.win==1<;>cases p.win==2<;>simp only [cond_true,cond_false]<;>omega
theorem qT {l:List Pl} (hl:∀ p,p∈l→PlOk p) (h3:l.length≤5) (t:Int):(0≤(A9 l t).p∧(A9 l t).p≤10)∧(0≤(A9 l t).w∧(A9 l t).w≤10)∧(0≤(A9 l t).sh∧(A9 l t).sh≤10)∧(0≤(A9 l t).l∧(A9 l t).l≤10)∧(0≤(A9 l t).pts∧(A9 l t).pts≤10)∧StaOk (A9 l t):=by
 have b1:=Id (f:=aP t) (c:=2) (fun p hp=>(a_b (hl p hp) t).1);have b2:=Id (f:=aW t) (c:=2) (fun p hp=>(a_b (hl p hp) t).2.1);have b3:=Id (f:=aS t) (c:=2) (fun p hp=>(a_b (hl p hp) t).2.2.1);have b4:=Id (f:=aL t) (c:=2) (fun p hp=>(a_b (hl p hp) t).2.2.2.1);have b5:=Id (f:=aT t) (c:=2) (fun p hp=>(a_b (hl p hp) t).2.2.2.2.1);have b6:=Id (f:=aRF t) (c:=2000) (fun p hp=>(a_b (hl p hp) t).2.2.2.2.2.1);have b7:=Id (f:=aBF t) (c:=1000) (fun p hp=>(a_b (hl p hp) t).2.2.2.2.2.2.1);have b8:=Id (f:=aRA t) (c:=2000) (fun p hp=>(a_b (hl p hp) t).2.2.2.2.2.2.2.1);have b9:=Id (f:=aBA t) (c:=1000) (fun p hp=>(a_b (hl p hp) t).2.2.2.2.2.2.2.2);unfold A9;exact ⟨by dsimp only;omega,by dsimp only;omega,by dsimp only;omega,by dsimp only;omega,by dsimp only;omega,⟨by dsimp only;omega,by dsimp only;omega,by dsimp only;omega,by dsimp only;omega⟩⟩
def mN (s:Sta) (p:Pl) (me:Bool):Sta :=
 let w:=IntKind.i64.wrap
 let runs:=cond me p.hr p.ar
 let balls:=cond me p.hb p.ab
 let others:=cond me p.ar p.hr
 let against:=cond me p.ab p.hb
 let winner:Int:=cond me 1 2
 ⟨s.t,w (s.p+1),cond (p.win==0) s.w (cond (p.win==winner) (w (s.w+1)) s.w),cond (p.win==0) (w (s.sh+1)) s.sh,cond (p.win==0) s.l (cond (p.win==winner) s.l (w (s.l+1))),cond (p.win==0) (w (s.pts+1)) (cond (p.win==winner) (w (s.pts+2)) s.pts),w (s.rf+runs),w (s.bf+balls),w (s.ra+others),w (s.ba+against)⟩
def dL (t:Int) (s:Sta) (p:Pl):Sta:=cond (p.h==t) (mN s p true) (cond (p.a==t) (mN s p false) s)
theorem eS {l:List Pl} {p:Pl} {t:Int} (hl:∀ p,p∈l→PlOk p) (h3:l.length≤5) (hp:PlOk p):dL t (A9 l t) p=A9 (l++[p]) t:=by
 obtain ⟨b1,b2,b3,b4,b5,b6⟩:=qT hl h3 t;have c1:=b6.rf;have c2:=b6.bf;have c3:=b6.ra;have c4:=b6.ba;have h1:=hp.hr;have h2:=hp.ar;have h3:=hp.hb;have h4:=hp.ab;have one:∀ f:Pl→Int,Am f (l++[p])=Am f l+f p:=fun f=>by
  rw [Ze];show _+(f p+0)=_;omega
 have w:∀ n:Int,0≤n→n≤1000000→IntKind.i64.wrap n=n:=fun n g1 g2=>Bg (by omega) (by omega)
 unfold A9 at *
 dsimp only at b1 b2 b3 b4 b5 c1 c2 c3 c4
 unfold dL mN;simp only [one];have e0:aP t p=cond (p.h==t) 1 (cond (p.a==t) 1 0):=rfl;have e1:aW t p=cond (p.h==t) (cond (p.win==1) 1 0) (cond (p.a==t) (cond (p.win==2) 1 0) 0):=rfl;have e2:aS t p=cond (p.h==t) (cond (p.win==0) 1 0) (cond (p.a==t) (cond (p.win==0) 1 0) 0):=rfl;have e3:aL t p=cond (p.h==t) (cond (p.win==2) 1 0) (cond (p.a==t) (cond (p.win==1) 1 0) 0):=rfl;have e4:aT t p=cond (p.h==t) (cond (p.win==0) 1 (cond (p.win==1) 2 0)) (cond (p.a==t) (cond (p.win==0) 1 (cond (p.win==2) 2 0)) 0):=rfl;have e5:aRF t p=cond (p.h==t) p.hr (cond (p.a==t) p.ar 0):=rfl;have e6:aBF t p=cond (p.h==t) p.hb (cond (p.a==t) p.ab 0):=rfl;have e7:aRA t p=cond (p.h==t) p.ar (cond (p.a==t) p.hr 0):=rfl;have e8:aBA t p=cond (p.h==t) p.ab (cond (p.a==t) p.hb 0):=rfl;rw [e0,e1,e2,e3,e4,e5,e6,e7,e8];have x1:=w (Am (aP t) l+1) (by omega) (by omega);have x2:=w (Am (aW t) l+1) (by omega) (by omega);have x3:=w (Am (aS t) l+1) (by omega) (by omega);have x4:=w (Am (aL t) l+1) (by omega) (by omega);have x5:=w (Am (aT t) l+1) (by omega) (by omega);have x6:=w (Am (aT t) l+2) (by omega) (by omega);have y1:=w (Am (aRF t) l+p.hr) (by omega) (by omega);have y2:=w (Am (aRF t) l+p.ar) (by omega) (by omega);have y3:=w (Am (aBF t) l+p.hb) (by omega) (by omega);have y4:=w (Am (aBF t) l+p.ab) (by omega) (by omega);have y5:=w (Am (aRA t) l+p.ar) (by omega) (by omega);have y6:=w (Am (aRA t) l+p.hr) (by omega) (by omega);have y7:=w (Am (aBA t) l+p.ab) (by omega) (by omega);have y8:=w (Am (aBA t) l+p.hb) (by omega) (by omega);have z:∀ n:Int,n+0=n:=Int.add_zero;cases p.h==t with
 | true =>
  rcases hp.win with hw | hw | hw<;>rw [hw]<;>simp only [cond_true,cond_false,Int.reduceBEq,x1,x2,x3,x4,x5,x6,y1,y2,y3,y4,y5,y6,y7,y8,z]
 | false =>
  cases p.a==t with
  | true=>rcases hp.win with hw | hw | hw<;>rw [hw]<;>simp only [cond_true,cond_false,Int.reduceBEq,x1,x2,x3,x4,x5,x6,y1,y2,y3,y4,y5,y6,y7,y8,z]
  | false=>simp only [cond_false,z]
def Z3 (x y z:Sta):List Sta :=
 let u:=cond (iLt (Bb y x) 0) y x
 let v:=cond (iLt (Bb y x) 0) x y
 cond (iLt (Bb z v) 0) (cond (iLt (Bb z u) 0) [z,u,v] [u,z,v]) [u,v,z]
def z3 (a b c:Int):Rows:=[[.int a,.int 0,.int 0,.int 0,.int 0,.int 0,.int 0,.int 0,.int 0,.int 0],[.int b,.int 0,.int 0,.int 0,.int 0,.int 0,.int 0,.int 0,.int 0,.int 0],[.int c,.int 0,.int 0,.int 0,.int 0,.int 0,.int 0,.int 0,.int 0,.int 0]]
def zAt:Nat→Rows
 | 0=>z3 0 0 0
 | 1=>z3 0 0 0
 | 2=>z3 0 1 0
 | _=>z3 0 1 2
theorem pr1 (r:List PV) (k:Nat) (v:PV):A4 r k [v]=r.set k v:=rfl
theorem pv1 (l:Rows) (i j:Nat):AF l i j=AD (AK l i) j:=rfl
theorem L8 (x y z:List PV):AK [x,y,z] 0=x:=rfl
theorem Md (x y z:List PV):AK [x,y,z] 1=y:=rfl
theorem Mg (x y z:List PV):AK [x,y,z] 2=z:=rfl
theorem Me (x y z v:List PV):List.set [x,y,z] 0 v=[v,y,z]:=rfl
theorem MA (x y z v:List PV):List.set [x,y,z] 1 v=[x,v,z]:=rfl
theorem MG (x y z v:List PV):List.set [x,y,z] 2 v=[x,y,v]:=rfl
theorem P4 (a0 a1 a2 a3 a4 a5 a6 a7 a8 a9:PV):AD [a0,a1,a2,a3,a4,a5,a6,a7,a8,a9] 0=a0:=rfl
theorem QD (a0 a1 a2 a3 a4 a5 a6 a7 a8 a9:PV):AD [a0,a1,a2,a3,a4,a5,a6,a7,a8,a9] 1=a1:=rfl
theorem QM (a0 a1 a2 a3 a4 a5 a6 a7 a8 a9:PV):AD [a0,a1,a2,a3,a4,a5,a6,a7,a8,a9] 2=a2:=rfl
theorem QT (a0 a1 a2 a3 a4 a5 a6 a7 a8 a9:PV):AD [a0,a1,a2,a3,a4,a5,a6,a7,a8,a9] 3=a3:=rfl
theorem P9 (a0 a1 a2 a3 a4 a5 a6 a7 a8 a9:PV):AD [a0,a1,a2,a3,a4,a5,a6,a7,a8,a9] 4=a4:=rfl
theorem QN (a0 a1 a2 a3 a4 a5 a6 a7 a8 a9:PV):AD [a0,a1,a2,a3,a4,a5,a6,a7,a8,a9] 5=a5:=rfl
theorem P0 (a0 a1 a2 a3 a4 a5 a6 a7 a8 a9:PV):AD [a0,a1,a2,a3,a4,a5,a6,a7,a8,a9] 6=a6:=rfl
theorem QH (a0 a1 a2 a3 a4 a5 a6 a7 a8 a9:PV):AD [a0,a1,a2,a3,a4,a5,a6,a7,a8,a9] 7=a7:=rfl
theorem QY (a0 a1 a2 a3 a4 a5 a6 a7 a8 a9:PV):AD [a0,a1,a2,a3,a4,a5,a6,a7,a8,a9] 8=a8:=rfl
theorem QO (a0 a1 a2 a3 a4 a5 a6 a7 a8 a9:PV):AD [a0,a1,a2,a3,a4,a5,a6,a7,a8,a9] 9=a9:=rfl
theorem VF (a0 a1 a2 a3 a4 a5 a6 a7 a8 a9 v:PV):List.set [a0,a1,a2,a3,a4,a5,a6,a7,a8,a9] 0 v=[v,a1,a2,a3,a4,a5,a6,a7,a8,a9]:=rfl
theorem Ux (a0 a1 a2 a3 a4 a5 a6 a7 a8 a9 v:PV):List.set [a0,a1,a2,a3,a4,a5,a6,a7,a8,a9] 1 v=[a0,v,a2,a3,a4,a5,a6,a7,a8,a9]:=rfl
theorem UV (a0 a1 a2 a3 a4 a5 a6 a7 a8 a9 v:PV):List.set [a0,a1,a2,a3,a4,a5,a6,a7,a8,a9] 2 v=[a0,a1,v,a3,a4,a5,a6,a7,a8,a9]:=rfl
theorem VN (a0 a1 a2 a3 a4 a5 a6 a7 a8 a9 v:PV):List.set [a0,a1,a2,a3,a4,a5,a6,a7,a8,a9] 3 v=[a0,a1,a2,v,a4,a5,a6,a7,a8,a9]:=rfl
theorem Uk (a0 a1 a2 a3 a4 a5 a6 a7 a8 a9 v:PV):List.set [a0,a1,a2,a3,a4,a5,a6,a7,a8,a9] 4 v=[a0,a1,a2,a3,v,a5,a6,a7,a8,a9]:=rfl
theorem VI (a0 a1 a2 a3 a4 a5 a6 a7 a8 a9 v:PV):List.set [a0,a1,a2,a3,a4,a5,a6,a7,a8,a9] 5 v=[a0,a1,a2,a3,a4,v,a6,a7,a8,a9]:=rfl
theorem UZ (a0 a1 a2 a3 a4 a5 a6 a7 a8 a9 v:PV):List.set [a0,a1,a2,a3,a4,a5,a6,a7,a8,a9] 6 v=[a0,a1,a2,a3,a4,a5,v,a7,a8,a9]:=rfl
theorem Ug (a0 a1 a2 a3 a4 a5 a6 a7 a8 a9 v:PV):List.set [a0,a1,a2,a3,a4,a5,a6,a7,a8,a9] 7 v=[a0,a1,a2,a3,a4,a5,a6,v,a8,a9]:=rfl
theorem VL (a0 a1 a2 a3 a4 a5 a6 a7 a8 a9 v:PV):List.set [a0,a1,a2,a3,a4,a5,a6,a7,a8,a9] 8 v=[a0,a1,a2,a3,a4,a5,a6,a7,v,a9]:=rfl
theorem VJ (a0 a1 a2 a3 a4 a5 a6 a7 a8 a9 v:PV):List.set [a0,a1,a2,a3,a4,a5,a6,a7,a8,a9] 9 v=[a0,a1,a2,a3,a4,a5,a6,a7,a8,v]:=rfl
theorem U6 (A B C:Sta):CR [A,B,C]=[[.int A.t,.int A.p,.int A.w,.int A.sh,.int A.l,.int A.pts,.int A.rf,.int A.bf,.int A.ra,.int A.ba],[.int B.t,.int B.p,.int B.w,.int B.sh,.int B.l,.int B.pts,.int B.rf,.int B.bf,.int B.ra,.int B.ba],[.int C.t,.int C.p,.int C.w,.int C.sh,.int C.l,.int C.pts,.int C.rf,.int C.bf,.int C.ra,.int C.ba]]:=rfl
theorem M0 {F:(List AU→Option (List PV))→List PV→Option (List PV)} {n:Nat} {c:List PV}:DD F (n+1) c=F (fun ls=>DD F n (ls.map Leaf.pv)) c:=rfl
theorem ir {F : (List AU → Option (List PV)) → List PV → Option (List PV)} {n : Nat} {x y z : Sta} (hx : StaOk x) (hy : StaOk y) (hz : StaOk z)
    (g0:∀ (x y z:Sta) self,F self [.rows (CR [x,y,z]),.int 0]=some [.rows (CR [x,y,z]),.int 0])
    (g1:∀ (x y z:Sta) self,StaOk x→StaOk y→F self [.rows (CR [x,y,z]),.int 1]=cond (iLt (Bb y x) 0) (self [.rows (CR [y,x,z]),.int 0]) (some [.rows (CR [x,y,z]),.int 1]))
    (g2:∀ (x y z:Sta) self,StaOk y→StaOk z→F self [.rows (CR [x,y,z]),.int 2]=cond (iLt (Bb z y) 0) (self [.rows (CR [x,z,y]),.int 1]) (some [.rows (CR [x,y,z]),.int 2])) :
    (∃ j,DD F (n+3) [.rows (CR [x,y,z]),.int 1]=some [.rows (CR (cond (iLt (Bb y x) 0) [y,x,z] [x,y,z])),.int j]) ∧
    (∃ j,DD F (n+3) [.rows (CR [x,y,z]),.int 2]=some [.rows (CR (cond (iLt (Bb z y) 0) (cond (iLt (Bb z x) 0) [z,x,y] [x,z,y]) [x,y,z])),.int j]):=by
  have e0:∀ (x y z:Sta) m,DD F (m+1) [.rows (CR [x,y,z]),.int 0]=some [.rows (CR [x,y,z]),.int 0]:=fun x y z m=>by rw [M0,g0]
  have e1:∀ (x y z:Sta) m,StaOk x→StaOk y→∃ j,DD F (m+2) [.rows (CR [x,y,z]),.int 1]=some [.rows (CR (cond (iLt (Bb y x) 0) [y,x,z] [x,y,z])),.int j]:=fun x y z m h1 h2=>by
    rw [M0,g1 _ _ _ _ h1 h2];cases iLt (Bb y x) 0 with
    | false=>exact ⟨1,rfl⟩
    | true=>exact ⟨0,e0 _ _ _ _⟩
  refine ⟨e1 x y z (n+1) hx hy,?_⟩;rw [M0,g2 _ _ _ _ hy hz];cases iLt (Bb z y) 0 with
  | false=>exact ⟨2,rfl⟩
  | true=>exact e1 x z y n hx hz
theorem oQ {F : (List AU → Option (List PV)) → List PV → Option (List PV)} {n : Nat} {x y z : Sta} (hx : StaOk x) (hy : StaOk y) (hz : StaOk z)
    (p1:∀ (x y z:Sta) self,StaOk x→StaOk y→StaOk z→F self [.rows (CR [x,y,z]),.int 1]=self [.rows (CR (cond (iLt (Bb y x) 0) [y,x,z] [x,y,z])),.int 2])
    (p2:∀ (x y z:Sta) self,StaOk x→StaOk y→StaOk z→F self [.rows (CR [x,y,z]),.int 2]=self [.rows (CR (cond (iLt (Bb z y) 0) (cond (iLt (Bb z x) 0) [z,x,y] [x,z,y]) [x,y,z])),.int 3])
    (p3:∀ (l:List Sta) self,F self [.rows (CR l),.int 3]=some [.rows (CR l)]):DD F (n+3) [.rows (CR [x,y,z]),.int 1]=some [.rows (CR (Z3 x y z))]:=by
  rw [M0,p1 _ _ _ _ hx hy hz];unfold Z3;show DD F (n+2) [.rows (CR (cond (iLt (Bb y x) 0) [y,x,z] [x,y,z])),.int 2]=_;cases iLt (Bb y x) 0 with
  | true =>
    rw [cond_true,M0,p2 _ _ _ _ hy hx hz];show DD F (n+1) [.rows (CR _),.int 3]=_;rw [M0,p3];rfl
  | false =>
    rw [cond_false,M0,p2 _ _ _ _ hx hy hz];show DD F (n+1) [.rows (CR _),.int 3]=_;rw [M0,p3];rfl
theorem LT {x:Option (List PV)} {v:List PV} {f:List PV→Option (List PV)} {r:Option (List PV)} (h:x=some v) (hk:f v=r):x.bind f=r:=by rw [h];exact hk
set_option maxHeartbeats 4000000 in
theorem TQ {N:Nat} {l:List Pl} (hN:2097152<N) (hl:∀ p,p∈l→PlOk p) (h5:l.length≤5):Gy N [.int 3,.rows (GP l)]=some [.rows (CR (Z3 (A9 l 0) (A9 l 1) (A9 l 2))),.int 0]:=by
  show Gk (std (CE N) N) (xOf _)=_;simp only [Gk,NB,Ou,N7,lq9,std,xOf,PXb,da hN hl (show l.length≤400 by omega)];refine Ad (DQ (len:=3) (fun i=>[.rows (zAt i),.int (i:Int)]) [.rows (z3 0 1 2)] ?_ ?_ N (by omega)) ?_
  · intro self;rfl
  · intro i self hi
    rcases (show i=0∨i=1∨i=2 by omega) with rfl | rfl | rfl<;>rfl
  · simp only [PXb,PXc,PXn,AG];refine Ad (DQ (len:=l.length) (fun i=>[.rows (CR (Zr (l.take i))),.int (i:Int)]) [.rows (CR (Zr l))] ?_ ?_ N (by omega)) ?_
    · intro self;simp only [PXb,PXc,PXn,AG,FX,Bh,List.take_length]
    · intro i self hi;have ok:=iZ hl hi;have pa:∀ c,AF (GP l) i c=AD (pln l i).ls c:=fun c=>by unfold AF;rw [ZH hi]
      have te:Zr (l.take (i+1))=[dL 0 (A9 (l.take i) 0) (pln l i),dL 1 (A9 (l.take i) 1) (pln l i),dL 2 (A9 (l.take i) 2) (pln l i)]:=by
        have e:l.take (i+1)=l.take i++[pln l i]:=by
          rw [List.take_succ_eq_append_getElem hi];unfold pln;rw [zzl,zzo hi];rfl
        have lt:∀ p,p∈l.take i→PlOk p:=fun p hp=>hl p (List.mem_of_mem_take hp)
        have l5:(l.take i).length≤5:=by rw [List.length_take];omega
        unfold Zr;rw [eS lt l5 ok,eS lt l5 ok,eS lt l5 ok,e]
      have c0:pvI (AD (pln l i).ls 0)=(pln l i).h:=rfl;have c1:pvI (AD (pln l i).ls 1)=(pln l i).a:=rfl;have c2:pvI (AD (pln l i).ls 2)=(pln l i).hr:=rfl;have c3:pvI (AD (pln l i).ls 3)=(pln l i).hb:=rfl;have c4:pvI (AD (pln l i).ls 4)=(pln l i).ar:=rfl;have c5:pvI (AD (pln l i).ls 5)=(pln l i).ab:=rfl;have c6:pvI (AD (pln l i).ls 6)=(pln l i).win:=rfl;simp only [PXb,PXc,PXn,AG,FX,LX (show i≤1099511627776 by omega),BR hi,Ax hi,Int.toNat_natCast,pa,c0,c1,c2,c3,c4,c5,c6];rw [te];unfold Zr;generalize A9 (l.take i) 0=A;generalize A9 (l.take i) 1=B;generalize A9 (l.take i) 2=C;obtain ⟨o1,o2,o3,_,_,_,_,o8,_⟩:=ok;generalize pln l i=p at *
      obtain ⟨h,a,hr,hb,ar,ab,win,void⟩:=p;simp only at o1 o2 o3 o8;have n0:(0:Int).toNat=0:=rfl;have n1:(1:Int).toNat=1:=rfl;have n2:(2:Int).toNat=2:=rfl;have i0:iIn 0 ((3:Nat):Int)=true:=rfl;have i1:iIn 1 ((3:Nat):Int)=true:=rfl;have i2:iIn 2 ((3:Nat):Int)=true:=rfl
      rcases o1 with rfl | rfl | rfl<;>rcases o2 with rfl | rfl | rfl<;>first | exact absurd rfl o3 | (rcases o8 with rfl | rfl | rfl<;>(simp only [U6,dL,mN,n0,n1,n2,i0,i1,i2,List.length_cons,List.length_nil,Nat.reduceAdd,Int.reduceBEq,cond_true,cond_false,PXb,PXc,PXn,AG,pr1,pv1,L8,Md,Mg,Me,MA,MG,P4,QD,QM,QT,P9,QN,P0,QH,QY,QO,VF,Ux,UV,VN,Uk,VI,UZ,Ug,VL,VJ,i0,i1,i2]))
    · obtain ⟨n,rfl⟩:∃ n,N=n+3:=⟨N - 3,by omega⟩;have kl:∃ q,Fj (n+3) [PV.int (IntKind.u64.wrap ↑(List.length (CR (Zr l))))]=some [.int q]:=⟨_,by
        show Fj (n+3) [PV.int 3]=some [.int 2]
        kernel_rfl⟩
      obtain ⟨q,kl⟩:=kl;have ok:∀ t,StaOk (A9 l t):=fun t=>(qT hl h5 t).2.2.2.2.2
      have kc:∀ x y:Sta,StaOk x→StaOk y→CJ (n+3) [.int x.t,.int x.p,.int x.w,.int x.sh,.int x.l,.int x.pts,.int x.rf,.int x.bf,.int x.ra,.int x.ba,.int y.t,.int y.p,.int y.w,.int y.sh,.int y.l,.int y.pts,.int y.rf,.int y.bf,.int y.ra,.int y.ba]=some [.int (Bb x y)]:=fun _ _ h1 h2=>RB hN h1 h2
      have o0:=ok 0;have o1:=ok 1;have o2:=ok 2;unfold Zr at kl ⊢;generalize A9 l 0=A at *
      generalize A9 l 1=B at *
      generalize A9 l 2=C at *
      refine LT kl ?_;have le:∀ x y z:Sta,(CR [x,y,z]).length=3:=fun _ _ _=>rfl
      have n0:(0:Int).toNat=0:=rfl;have n1:(1:Int).toNat=1:=rfl;have n2:(2:Int).toNat=2:=rfl;have r0:iLt 0 0=false:=rfl;have r1:iLt 0 1=true:=rfl;have r2:iLt 0 2=true:=rfl;have ki:iLt 1 ((3:Nat):Int)=true:=rfl;have kj:iLt 2 ((3:Nat):Int)=true:=rfl;have kk:iLt 3 ((3:Nat):Int)=false:=rfl;have w1:IntKind.i64.wrap (1 - 1)=0:=rfl;have w2:IntKind.i64.wrap (2 - 1)=1:=rfl;have w3:IntKind.i64.wrap (0+1)=1:=rfl;have w4:IntKind.i64.wrap (1+1)=2:=rfl;have w5:IntKind.i64.wrap (2+1)=3:=rfl;have j0:iIn 0 ((3:Nat):Int)=true:=rfl;have j1:iIn 1 ((3:Nat):Int)=true:=rfl;have j2:iIn 2 ((3:Nat):Int)=true:=rfl;have l12:iLe (IntKind.i64.wrap (((3:Nat):Int) - 0)) 12=true:=rfl;simp only [PXb,PXc,PXn,AG,le];rw [M0];simp only [PXb,PXc,PXn,AG,l12,w3];refine LT (LT (oQ o0 o1 o2 ?_ ?_ ?_) rfl) rfl
      · intro x y z self hx hy hz;simp only [PXb,PXc,PXn,AG,ki];refine LT (Exists.choose_spec (ir hx hy hz ?_ ?_ ?_).1) ?_
        · intro x y z self;simp only [PXb,PXc,PXn,AG,le,r0,r1,r2,ki,kj,w1,w2,w3]
        · intro x y z self h1 h2;simp only [PXb,PXc,PXn,AG,le,r0,r1,r2,ki,kj,w1,w2,w3,j0,j1,j2,n0,n1,n2,U6,pr1,pv1,L8,Md,Mg,Me,MA,MG,P4,QD,QM,QT,P9,QN,P0,QH,QY,QO,VF,Ux,UV,VN,Uk,VI,UZ,Ug,VL,VJ,kc y x h2 h1]
          first | done | (cases iLt (Bb y x) 0<;>rfl)
        · intro x y z self h1 h2;simp only [PXb,PXc,PXn,AG,le,r0,r1,r2,ki,kj,w1,w2,w3,j0,j1,j2,n0,n1,n2,U6,pr1,pv1,L8,Md,Mg,Me,MA,MG,P4,QD,QM,QT,P9,QN,P0,QH,QY,QO,VF,Ux,UV,VN,Uk,VI,UZ,Ug,VL,VJ,kc z y h2 h1]
          first | done | (cases iLt (Bb z y) 0<;>rfl)
        · simp only [PXb,PXc,PXn,AG,w4]
      · intro x y z self hx hy hz;simp only [PXb,PXc,PXn,AG,kj];refine LT (Exists.choose_spec (ir hx hy hz ?_ ?_ ?_).2) ?_
        · intro x y z self;simp only [PXb,PXc,PXn,AG,le,r0,r1,r2,ki,kj,w1,w2,w3]
        · intro x y z self h1 h2;simp only [PXb,PXc,PXn,AG,le,r0,r1,r2,ki,kj,w1,w2,w3,j0,j1,j2,n0,n1,n2,U6,pr1,pv1,L8,Md,Mg,Me,MA,MG,P4,QD,QM,QT,P9,QN,P0,QH,QY,QO,VF,Ux,UV,VN,Uk,VI,UZ,Ug,VL,VJ,kc y x h2 h1]
          first | done | (cases iLt (Bb y x) 0<;>rfl)
        · intro x y z self h1 h2;simp only [PXb,PXc,PXn,AG,le,r0,r1,r2,ki,kj,w1,w2,w3,j0,j1,j2,n0,n1,n2,U6,pr1,pv1,L8,Md,Mg,Me,MA,MG,P4,QD,QM,QT,P9,QN,P0,QH,QY,QO,VF,Ux,UV,VN,Uk,VI,UZ,Ug,VL,VJ,kc z y h2 h1]
          first | done | (cases iLt (Bb z y) 0<;>rfl)
        · simp only [PXb,PXc,PXn,AG,w5]
      · intro l self;simp only [PXb,PXc,PXn,AG,kk]
def EO (r:Rul):Int:=cond (BE r==0) (IntKind.i64.wrap (r.overs * r.balls)) 0
theorem WQ {N:Nat} {r8:Bool} {r0:ByteArray} {r13:Rows} (hN:2097152<N) (hs:r0.size≤1048576):Ga N [.str r0,.int r1,.int r2,.int r3,.int r4,.int r5,.int r6,.int r7,.bool r8,.int r9,.int r10,.int r11,.int r12,.rows r13]=some [.int (EO (⟨r0,r1,r2,r3,r4,r5,r6,r7,r8,r9,r10,r11,r12,r13⟩:Rul))]:=by
 show MR (std (Nr N) N) (xOf _)=_;simp only [MR,RL,lq9,std,xOf,PXb,Cl hN hs];unfold EO;cases BE (⟨r0,r1,r2,r3,r4,r5,r6,r7,r8,r9,r10,r11,r12,r13⟩:Rul)==0<;>rfl
structure Four where
 hr:Int
 hb:Int
 ar:Int
 ab:Int
def ip (most:Int) (q:Four) (s:Sco):Four:=cond (s.side==1) ⟨s.runs,cond (s.ending==1) most s.balls,q.ar,q.ab⟩ ⟨q.hr,q.hb,s.runs,cond (s.ending==1) most s.balls⟩
def HY (most:Int) (xs:List Sco):Nat→Four
 | 0=>⟨0,0,0,0⟩
 | i+1=>ip most (HY most xs i) (sco xs i)
def Su (m:Mat):Bool:=m.stage==5&&(m.win==1||(m.win==2||m.win==4))
def J2 (most q:Int) (m:Mat) (ho aw:Int):Pl:=cond (Su m) (let f:=HY most (m.inns.map (Er q)) m.inns.length;⟨ho,aw,f.hr,f.hb,f.ar,f.ab,m.wside,false⟩) ⟨ho,aw,0,0,0,0,0,true⟩
set_option maxHeartbeats 2000000 in
theorem Wu {N:Nat} {r8:Bool} {r0:ByteArray} {r13:Rows} {ho:Int} {aw:Int} {L:Rows} (hN:2097152<N) (hs:r0.size≤1048576) (h13:r13.length≤1048576) (hL:L.length≤1048576):CL N [.str r0,.int r1,.int r2,.int r3,.int r4,.int r5,.int r6,.int r7,.bool r8,.int r9,.int r10,.int r11,.int r12,.rows r13,.int ho,.int aw,.rows L]=some ((J2 (EO (⟨r0,r1,r2,r3,r4,r5,r6,r7,r8,r9,r10,r11,r12,r13⟩:Rul)) (Aw (⟨r0,r1,r2,r3,r4,r5,r6,r7,r8,r9,r10,r11,r12,r13⟩:Rul) L).1.rules.balls (Aw (⟨r0,r1,r2,r3,r4,r5,r6,r7,r8,r9,r10,r11,r12,r13⟩:Rul) L).1 ho aw).ls++[.int (J2 (EO (⟨r0,r1,r2,r3,r4,r5,r6,r7,r8,r9,r10,r11,r12,r13⟩:Rul)) (Aw (⟨r0,r1,r2,r3,r4,r5,r6,r7,r8,r9,r10,r11,r12,r13⟩:Rul) L).1.rules.balls (Aw (⟨r0,r1,r2,r3,r4,r5,r6,r7,r8,r9,r10,r11,r12,r13⟩:Rul) L).1 ho aw).win]):=by
 show Dg (std (BW N) N) (xOf _)=_;simp only [Dg,M6,NC,Lp,lq9,std,xOf,PXb,jU hN hs h13 hL,mV,WQ hN hs];have ro:=pQ (r:=(⟨r0,r1,r2,r3,r4,r5,r6,r7,r8,r9,r10,r11,r12,r13⟩:Rul)) L hs h13;generalize (Aw (⟨r0,r1,r2,r3,r4,r5,r6,r7,r8,r9,r10,r11,r12,r13⟩:Rul) L).1=m at *
 have hl:=ro.len;have sc:=ed (N:=N) (m0:=m.rules.name) (m1:=m.rules.side) (m2:=m.rules.innings) (m3:=m.rules.overs) (m4:=m.rules.balls) (m5:=m.rules.quota) (m6:=m.rules.wide) (m7:=m.rules.noball) (m8:=m.rules.freehit) (m9:=m.rules.newball) (m10:=m.rules.followon) (m11:=m.rules.reviews) (m12:=m.rules.outside) (m13:=m.rules.power) (m14:=m.stage) (m15:=m.first) (m16:=m.follow) (m17:=m.inns) (m18:=m.pen1) (m19:=m.pen2) (m20:=m.win) (m21:=m.wside) (m22:=m.margin) hN (by omega);have e:(!m.stage==5||((!m.win==1 && !m.win==2) && !m.win==4)) = !Su m:=by
  unfold Su;cases m.stage==5<;>cases m.win==1<;>cases m.win==2<;>cases m.win==4<;>rfl
 unfold J2;simp only [Bool.and_assoc] at e ⊢;rw [e];cases Su m with
 | false=>rfl
 | true =>
  rw [Bool.not_true,cond_false];refine LT sc ?_;generalize EO (⟨r0,r1,r2,r3,r4,r5,r6,r7,r8,r9,r10,r11,r12,r13⟩:Rul)=most;refine Ad (DQ (len:=m.inns.length) (fun i=>[.int (i:Int),.int ho,.int aw,.int (HY most (m.inns.map (Er m.rules.balls)) i).hr,.int (HY most (m.inns.map (Er m.rules.balls)) i).hb,.int (HY most (m.inns.map (Er m.rules.balls)) i).ar,.int (HY most (m.inns.map (Er m.rules.balls)) i).ab,.int 0,.bool false])
   [.int ho,.int aw,.int (HY most (m.inns.map (Er m.rules.balls)) m.inns.length).hr,.int (HY most (m.inns.map (Er m.rules.balls)) m.inns.length).hb,.int (HY most (m.inns.map (Er m.rules.balls)) m.inns.length).ar,.int (HY most (m.inns.map (Er m.rules.balls)) m.inns.length).ab,.int 0,.bool false] ?_ ?_ N (by omega)) rfl
  ·intro self;simp only [PXb,PXc,PXn,AG,PXs,List.length_map,Bh]
  ·intro i self hi;have e:HY most (m.inns.map (Er m.rules.balls)) (i+1)=ip most (HY most (m.inns.map (Er m.rules.balls)) i) (sco (m.inns.map (Er m.rules.balls)) i):=rfl;rw [e];generalize HY most (m.inns.map (Er m.rules.balls)) i=q;simp only [PXb,PXc,PXn,AG,PXs,List.length_map,LX (show i≤1099511627776 by omega),BR hi,Ax hi,Int.toNat_natCast];unfold ip;cases (sco (m.inns.map (Er m.rules.balls)) i).side==1<;>cases (sco (m.inns.map (Er m.rules.balls)) i).ending==1<;>rfl
theorem vJ (r:Rul) (e:Ev):0≤Xl r e∧Xl r e≤1:=by unfold Xl;cases (EH r e).counts<;>decide
def Sd3 (n:Int):Prop:=n=0∨n=1∨n=2
theorem qj {m:Mat} (h:Sd3 m.wside):Sd3 (Nl m).2.1:=by
 unfold Nl;cases hv:Ec m with
 | false=>exact .inl rfl
 | true =>
  dsimp only
  cases h0:((m.inns.length:Nat):Int)==0 with
  | true=>exact .inl rfl
  | false =>
   have ok:=Th hv;have hl:=Tv h0 (by have:=ok.len;omega);have sd:=(LQ.1 (ok.innv (lnx m.inns) hl).1).side;have s1:Sd3 (Ak m).side:=by
    show Sd3 (inn m.inns (lnx m.inns)).side;unfold Sd3;omega
   have s2:Sd3 (CH (Ak m).side):=by
    show Sd3 (IntKind.i64.wrap (3 - (inn m.inns (lnx m.inns)).side));rw [Bg (by omega) (by omega)];unfold Sd3;omega
   have z:Sd3 0:=.inl rfl;have pc:∀ (b:Bool) (x y:Int×Int×Int),Sd3 x.2.1→Sd3 y.2.1→Sd3 (cond b x y).2.1:=fun b x y hx hy=>by cases b<;>assumption
   exact pc _ _ _ z (pc _ _ _ z (pc _ _ _ z (pc _ _ _ s1 (pc _ _ _ z (pc _ _ _ s2 (pc _ _ _ s2 z))))))
theorem rp {m:Mat} {e:Ev} (h:Sd3 m.wside):Sd3 (C3 m e).1.wside:=by
 have pm:∀ (b:Bool) (x y:Mat),Sd3 x.wside→Sd3 y.wside→Sd3 (cond b x y).wside:=fun b x y hx hy=>by cases b<;>assumption
 have pc:∀ (b:Bool) (x y:Mat×Int),Sd3 x.1.wside→Sd3 y.1.wside→Sd3 (cond b x y).1.wside:=fun b x y hx hy=>by cases b<;>assumption
 have ha:Sd3 (F5 m e).1.wside:=by
  unfold F5 Xr E8;refine pc _ _ _ (pc _ _ _ h h) (pc _ _ _ (pc _ _ _ h (pc _ _ _ h (pc _ _ _ h h))) (pc _ _ _ (pc _ _ _ h (pc _ _ _ h h)) (pc _ _ _ (.inl rfl) (pc _ _ _ h (pc _ _ _ h ?_)))));refine pm _ _ _ ?_ h;unfold Gm
  split<;>exact h
 unfold C3;refine pc _ _ _ h (pc _ _ _ h (pc _ _ _ h ?_));show Sd3 (Bl (F5 m e).1).wside;unfold Bl Nk;exact pm _ _ _ (pm _ _ _ (qj ha) (pm _ _ _ ha ha)) ha
structure RepF (r:Rul) (L:Rows) (m:Mat):Prop where
 side:Sd3 m.wside
 rules:m.rules=r
 inn:∀ k,k<m.inns.length→(0≤(inn m.inns k).runs∧0≤Bv r.balls (inn m.inns k).complete (inn m.inns k).inover∧Bv r.balls (inn m.inns k).complete (inn m.inns k).inover≤(L.length:Int))
theorem rc {r:Rul} {L:Rows} (hc:(BE r==0)=true) (h4:L.length≤4000):RepF r L (Aw r L).1:=by
 have rk:=EX (beq_iff_eq.1 hc);have hn:((BD r).2==0)=true:=by rw [qw];exact hc
 obtain ⟨j,h1,h2,_,h5⟩:=j7 L L.length 0 (BD r).1;have hrep:(Aw r L).1=stM L j 0 (BD r).1:=by
  have e:Aw r L=ES L L.length 0 (BD r).1:=by unfold Aw;rw [hn];rfl
  rw [e]
  rcases h5 with ⟨_,h6⟩ | ⟨_,_,h7⟩
  ·rw [h6]
  ·rw [h7]
 rw [hrep];obtain ⟨li,so,_⟩:=To hn h2 j (Nat.le_refl _);have cl:=oj hn h2 j (Nat.le_refl _);have sd:∀ i,i≤j→Sd3 (stM L i 0 (BD r).1).wside:=fun i=>by
  induction i with
  | zero=>intro _;show Sd3 (BD r).1.wside;rw [(dc hn).1];exact .inl rfl
  | succ i ih =>
   intro hi;have a0:=jx j 0 _ h2 i (by omega);have s0:=ZQ (L:=L) i 0 (BD r).1;rw [Nat.zero_add] at a0 s0;rw [(iM a0).1] at s0;rw [s0];exact rp (ih (by omega))
 refine ⟨sd j (Nat.le_refl _),so.rules,fun k hk=>?_⟩;have hk2:k<opn L j:=by rw [← li.len];exact hk
 have at1:=cl.at' k hk2;have e1:sco (FH (stM L j 0 (BD r).1)).xs k=BU r.balls (inn (stM L j 0 (BD r).1).inns k):=by
  unfold FH;rw [so.rules];exact Qj _ _ hk
 rw [e1] at at1;have sm:=tI rk L (sdF L j) (opn L j) k (i:=j) (by omega);have er:(inn (stM L j 0 (BD r).1).inns k).runs=(NY r L (sdF L j) (opn L j) k j).runs:=congrArg Sco.runs at1;have eb:Bv r.balls (inn (stM L j 0 (BD r).1).inns k).complete (inn (stM L j 0 (BD r).1).inns k).inover=smi L (Xl r) k j:=congrArg Sco.balls at1;have sb:=QE (L:=L) (f:=Xl r) (c:=1) (vJ r) k j;refine ⟨by rw [er];exact sm.runs.1,by rw [eb];exact sb.1,by rw [eb];omega⟩
structure Srt (A B C x y z:Sta):Prop where
 xy:Bb x y = -1
 yz:Bb y z = -1
 all:∀ Q:Sta→Prop,Q A→Q B→Q C→Q x∧Q y∧Q z
 sum:∀ f:Sta→Int,f x+f y+f z=f A+f B+f C
theorem XA {a b:Sta} (h:¬ a.t=b.t) (hc:iLt (Bb a b) 0=false):Bb b a = -1:=by
 simp only [iLt,decide_eq_false_iff_not] at hc;have:=oE a b
 rcases oU h with g | g<;>omega
theorem UH {a b:Sta} (h:¬ a.t=b.t) (hc:iLt (Bb a b) 0=true):Bb a b = -1:=by
 simp only [iLt,decide_eq_true_eq] at hc
 rcases oU h with g | g<;>omega
theorem nP {A B C:Sta} (h1:¬ A.t=B.t) (h2:¬ A.t=C.t) (h3:¬ B.t=C.t):∃ x y z,Z3 A B C=[x,y,z]∧Srt A B C x y z:=by
 unfold Z3;cases c1:iLt (Bb B A) 0 with
 | true =>
  have e1:=UH (Ne.symm h1) c1;simp only [cond_true];cases c2:iLt (Bb C A) 0 with
  | true =>
   have e2:=UH (Ne.symm h2) c2;cases c3:iLt (Bb C B) 0 with
   | true=>exact ⟨C,B,A,rfl,UH (Ne.symm h3) c3,e1,fun Q a b c=>⟨c,b,a⟩,fun f=>by omega⟩
   | false=>exact ⟨B,C,A,rfl,XA (Ne.symm h3) c3,e2,fun Q a b c=>⟨b,c,a⟩,fun f=>by omega⟩
  | false=>exact ⟨B,A,C,rfl,e1,XA (Ne.symm h2) c2,fun Q a b c=>⟨b,a,c⟩,fun f=>by omega⟩
 | false =>
  have e1:=XA (Ne.symm h1) c1;simp only [cond_false];cases c2:iLt (Bb C B) 0 with
  | true =>
   have e2:=UH (Ne.symm h3) c2;cases c3:iLt (Bb C A) 0 with
   | true=>exact ⟨C,A,B,rfl,UH (Ne.symm h2) c3,e1,fun Q a b c=>⟨c,a,b⟩,fun f=>by omega⟩
   | false=>exact ⟨A,C,B,rfl,XA (Ne.symm h2) c3,e2,fun Q a b c=>⟨a,c,b⟩,fun f=>by omega⟩
  | false=>exact ⟨A,B,C,rfl,e1,XA (Ne.symm h3) c2,fun Q a b c=>⟨a,b,c⟩,fun f=>by omega⟩
theorem oH {f g h u v w:Pl→Int}:∀ {l:List Pl},(∀ p,p∈l→f p+g p+h p=u p+v p+w p)→Am f l+Am g l+Am h l=Am u l+Am v l+Am w l
 | [],_=>rfl
 | p::l,hp=>by
  have h1:=hp p zzm;have h2:=oH (l:=l) (fun q hq=>hp q (zzn _ hq));show f p+Am f l+(g p+Am g l)+(h p+Am h l)=u p+Am u l+(v p+Am v l)+(w p+Am w l);omega
theorem qv {l:List Pl} (hl:∀ p,p∈l→PlOk p):(A9 l 0).rf+(A9 l 1).rf+(A9 l 2).rf=(A9 l 0).ra+(A9 l 1).ra+(A9 l 2).ra:=by
 refine oH (l:=l) (fun p hp=>?_);obtain ⟨o1,o2,o3,_,_,_,_,_,_⟩:=hl p hp;obtain ⟨h,a,hr,hb,ar,ab,win,void⟩:=p;simp only at o1 o2 o3;unfold aRF aRA
 rcases o1 with rfl | rfl | rfl<;>rcases o2 with rfl | rfl | rfl<;>first | exact absurd rfl o3 | (simp only [Int.reduceBEq,cond_true,cond_false];omega)
def rot (l:List Pl) (k n:Nat):List Pl:=(List.range n).map fun i=>pln l ((i+k) % l.length)
theorem ll (l:List Pl) (k n:Nat):(rot l k n).length=n:=by unfold rot;rw [List.length_map,List.length_range]
theorem qQ (l:List Pl) (k n:Nat):rot l k (n+1)=rot l k n++[pln l ((n+k) % l.length)]:=by
 unfold rot;rw [List.range_succ,List.map_append];rfl
theorem tS {l:List Pl} (hl:∀ p,p∈l→PlOk p) (k:Nat):∀ p,p∈rot l k l.length→PlOk p:=fun p hp=>by
 unfold rot at hp;obtain ⟨i,hi,rfl⟩:=List.mem_map.1 hp;have:=List.mem_range.1 hi;exact iZ hl (Nat.mod_lt _ (by omega))
theorem sq {l:List Pl} (h3:l.length≤3) (k:Nat) (f:Pl→Int):Am f (rot l k l.length)=Am f l:=by
 match l,h3 with
 | [],_=>rfl
 | [a],_ =>
  show f (pln [a] ((0+k) % 1))+0=f a+0;rw [Nat.mod_one];rfl
 | [a,b],_ =>
  show f (pln [a,b] ((0+k) % 2))+(f (pln [a,b] ((1+k) % 2))+0)=f a+(f b+0);have p0:pln [a,b] 0=a:=rfl;have p1:pln [a,b] 1=b:=rfl
  rcases (show k % 2=0∨k % 2=1 by omega) with hk | hk
  ·rw [show (0+k) % 2=0 by omega,show (1+k) % 2=1 by omega,p0,p1]
  ·rw [show (0+k) % 2=1 by omega,show (1+k) % 2=0 by omega,p0,p1];omega
 | [a,b,c],_ =>
  show f (pln [a,b,c] ((0+k) % 3))+(f (pln [a,b,c] ((1+k) % 3))+(f (pln [a,b,c] ((2+k) % 3))+0))=f a+(f b+(f c+0));have p0:pln [a,b,c] 0=a:=rfl;have p1:pln [a,b,c] 1=b:=rfl;have p2:pln [a,b,c] 2=c:=rfl
  rcases (show k % 3=0∨k % 3=1∨k % 3=2 by omega) with hk | hk | hk
  ·rw [show (0+k) % 3=0 by omega,show (1+k) % 3=1 by omega,show (2+k) % 3=2 by omega,p0,p1,p2]
  ·rw [show (0+k) % 3=1 by omega,show (1+k) % 3=2 by omega,show (2+k) % 3=0 by omega,p0,p1,p2];omega
  ·rw [show (0+k) % 3=2 by omega,show (1+k) % 3=0 by omega,show (2+k) % 3=1 by omega,p0,p1,p2];omega
 | _::_::_::_::_,h=>exact absurd h (by simp)
theorem iY {l:List Pl} (h3:l.length≤3) (k:Nat) (t:Int):A9 (rot l k l.length) t=A9 l t:=by
 unfold A9;simp only [sq h3]
theorem vK (most q:Int) (m:Mat) (ho aw:Int):(J2 most q m ho aw).h=ho:=by unfold J2;cases Su m<;>rfl
theorem uv (most q:Int) (m:Mat) (ho aw:Int):(J2 most q m ho aw).a=aw:=by unfold J2;cases Su m<;>rfl
theorem ss (most q:Int) {m:Mat} (h:Sd3 m.wside) (ho aw:Int):Sd3 (J2 most q m ho aw).win:=by
 unfold J2;cases Su m
 ·exact .inl rfl
 ·exact h
structure FourOk (q:Four):Prop where
 hr:0≤q.hr
 hb:0≤q.hb∧q.hb≤1000
 ar:0≤q.ar
 ab:0≤q.ab∧q.ab≤1000
theorem gz {most:Int} {xs:List Sco} (hm:0≤most∧most≤1000) (hx:∀ i,i<xs.length→0≤(sco xs i).runs∧0≤(sco xs i).balls∧(sco xs i).balls≤1000):∀ i,i≤xs.length→FourOk (HY most xs i)
 | 0,_=>⟨Int.le_refl _,by show (0:Int)≤0∧(0:Int)≤1000;omega,Int.le_refl _,by show (0:Int)≤0∧(0:Int)≤1000;omega⟩
 | i+1,h=>by
  obtain ⟨a,b,c,d⟩:=gz hm hx i (by omega);obtain ⟨x1,x2,x3⟩:=hx i (by omega);show FourOk (ip most (HY most xs i) (sco xs i));have bb:∀ e:Bool,0≤cond e most (sco xs i).balls∧cond e most (sco xs i).balls≤1000:=fun e=>by cases e<;>simp<;>omega
  unfold ip;cases (sco xs i).side==1
  ·exact ⟨a,b,x1,bb _⟩
  ·exact ⟨x1,bb _,c,d⟩
theorem tu {r : Rul} {X : Rows} (hc : (BE r == 0) = true) (h4 : X.length ≤ 70) (hm : 0 ≤ EO r ∧ EO r ≤ 1000) {ho aw : Int} (h1 : ho = 0 ∨ ho = 1 ∨ ho = 2) (h2 : aw = 0 ∨ aw = 1 ∨ aw = 2) (ne : ¬ ho = aw)
    (g1:(J2 (EO r) (Aw r X).1.rules.balls (Aw r X).1 ho aw).hr≤2000) (g2:(J2 (EO r) (Aw r X).1.rules.balls (Aw r X).1 ho aw).ar≤2000):PlOk (J2 (EO r) (Aw r X).1.rules.balls (Aw r X).1 ho aw):=by
  have rf:=rc hc (show X.length≤4000 by omega);have fo:=gz (xs:=(Aw r X).1.inns.map (Er (Aw r X).1.rules.balls)) hm (fun i hi=>by
    rw [List.length_map] at hi;have e:sco ((Aw r X).1.inns.map (Er (Aw r X).1.rules.balls)) i=Er (Aw r X).1.rules.balls (inn (Aw r X).1.inns i):=by
      rw [KV,KR,List.getElem?_map,zzo hi];rfl
    rw [e,rf.rules];obtain ⟨x1,x2,x3⟩:=rf.inn i hi;refine ⟨x1,x2,?_⟩;show Bv r.balls _ _≤1000;omega) _ (Nat.le_refl _)
  rw [List.length_map] at fo;unfold J2 at g1 g2 ⊢;have z2:(0:Int)≤0∧(0:Int)≤2000:=by decide
  have z1:(0:Int)≤0∧(0:Int)≤1000:=by decide
  cases ho':Su (Aw r X).1 with
  | false=>exact ⟨h1,h2,ne,z2,z2,z1,z1,.inl rfl,fun _=>⟨rfl,rfl,rfl,rfl,rfl⟩⟩
  | true =>
    rw [ho'] at g1 g2;exact ⟨h1,h2,ne,⟨fo.hr,g1⟩,⟨fo.ar,g2⟩,fo.hb,fo.ab,rf.side,fun h=>by cases h⟩
def plX (Y:Rows) (i:Nat):Rows:=cut (pvL (AF Y i 0)) 70
def plI (R:Rul) (Y:Rows) (i:Nat):Pl:=J2 (EO R) (Aw R (plX Y i)).1.rules.balls (Aw R (plX Y i)).1 (i:Int) (((i+1:Nat):Int).tmod 3)
def plT (R:Rul) (Y:Rows) (n:Nat):List Pl:=(List.range n).map (plI R Y)
theorem qt (R:Rul) (Y:Rows) (n:Nat):plT R Y (n+1)=plT R Y n++[plI R Y n]:=by
 unfold plT;rw [List.range_succ,List.map_append];rfl
theorem dz (R:Rul) (Y:Rows) (n:Nat):(plT R Y n).length=n:=by unfold plT;rw [List.length_map,List.length_range]
theorem fM (l:List Pl) (p:Pl):GP (l++[p])=GP l++[p.ls]:=by unfold GP;rw [List.map_append];rfl
theorem vQ (t:Int) (p:Pl):0≤aT t p∧aT t p≤2:=by
 unfold aT;cases p.h==t<;>cases p.a==t<;>cases p.win==0<;>cases p.win==1<;>cases p.win==2<;>simp only [cond_true,cond_false]<;>omega
theorem jz (R:Rul) (Y:Rows) (t:Int) {n:Nat} (h:n≤3):0≤Am (aT t) (plT R Y n)∧Am (aT t) (plT R Y n)≤6:=by
 have:=Id (f:=aT t) (c:=2) (l:=plT R Y n) (fun p _=>vQ t p);rw [dz] at this;omega
theorem tQ {r:Rul} (hc:(BE r==0)=true):0≤EO r:=by
 have rk:=EX (beq_iff_eq.1 hc);have h1:=rk.overs;have h2:=rk.balls;have m:=Tp (a:=r.overs) (b:=r.balls) (x:=1000000) (y:=100) (by omega) (by omega) (by omega);unfold EO;rw [hc];show 0≤IntKind.i64.wrap (r.overs * r.balls);rw [Bg (by omega) (by omega)];exact m.1
def dif (a b c:Int):Nat→Int
 | 0=>0
 | 1=>0+a
 | 2=>0+a+b
 | _=>0+a+b+c
set_option maxHeartbeats 8000000 in
theorem bQ {N:Nat} {r8:Bool} {r0:ByteArray} {r13:Rows} {L:Rows} {k:Int} (ha:D1 N []=some [.bool true]) (hN:2097152<N) (hs:r0.size≤1048576) (hk:0≤k∧k≤255):Ff N [.str r0,.int r1,.int r2,.int r3,.int r4,.int r5,.int r6,.int r7,.bool r8,.int r9,.int r10,.int r11,.int r12,.rows r13,.rows L,.int k]=some [.bool true]:=by
 show Fe (std (A0 N) N) (xOf _)=_;have nn:=kQ (⟨r0,r1,r2,r3,r4,r5,r6,r7,r8,r9,r10,r11,r12,r13⟩:Rul) hs;have pp:=gD (⟨r0,r1,r2,r3,r4,r5,r6,r7,r8,r9,r10,r11,r12,r13⟩:Rul);simp only [Fe,Lr,Od,Oh,PB,LF,Rp,N8,MV,lq9,std,xOf,PXb,ha,f8,Rul.ls,Cl hN nn,WQ hN nn,gb (show (0:Int)≤3 by omega)];generalize UQ (⟨r0,r1,r2,r3,r4,r5,r6,r7,r8,r9,r10,r11,r12,r13⟩:Rul)=B at *
 obtain ⟨R,hR⟩:∃ R:Rul,R=⟨B.name,B.side,1,B.overs,B.balls,B.quota,B.wide,B.noball,B.freehit,B.newball,B.followon,B.reviews,B.outside,B.power⟩:=⟨_,rfl⟩;rw [← hR];cases hc:BE R==0
 case false=>rfl
 have cy:List.drop (Int.toNat 0) (List.take (cond (iLt 3 (L.length:Int)) 3 (L.length:Int)).toNat L)=cut L 3:=rfl;have ly:(cut L 3).length≤3:=jk L 3;simp only [cy,cond_true,Option.bind_some,Bool.not_true,Bool.false_or,R2,dK];cases h0:EO R==0
 case true=>rfl
 simp only [Bool.not_false,cond_true,Bool.false_or,Option.bind_some,R2,dK];cases h1:iLt 1000 (EO R)
 case true=>rfl
 have hm:0≤EO R∧EO R≤1000:=⟨tQ hc,by simp only [iLt,decide_eq_false_iff_not] at h1;omega⟩;rw [cond_false];have ks:∀ (X:Rows) (ho aw:Int),X.length≤1048576→CL N [.str B.name,.int B.side,.int 1,.int B.overs,.int B.balls,.int B.quota,.int B.wide,.int B.noball,.bool B.freehit,.int B.newball,.int B.followon,.int B.reviews,.int B.outside,.rows B.power,.int ho,.int aw,.rows X]=some ((J2 (EO R) (Aw R X).1.rules.balls (Aw R X).1 ho aw).ls++[.int (J2 (EO R) (Aw R X).1.rules.balls (Aw R X).1 ho aw).win]):=fun X ho aw h=>by
  rw [hR];exact Wu hN nn pp h
 generalize hY:cut L 3=Y at *
 have lx:∀ i,(plX Y i).length≤70:=fun i=>jk _ 70
 refine Ad (ZR (len:=Y.length) (fun i=>[.rows (GP (plT R Y i)),.int (i:Int),.int (Am (aT 0) (plT R Y i)),.int (Am (aT 1) (plT R Y i)),.int (Am (aT 2) (plT R Y i))]) (fun i=>iLt 2000 (plI R Y i).hr||iLt 2000 (plI R Y i).ar) [.int 0,.bool true]
  [.int 1,.rows (GP (plT R Y Y.length)),.int (Am (aT 0) (plT R Y Y.length)),.int (Am (aT 1) (plT R Y Y.length)),.int (Am (aT 2) (plT R Y Y.length))] ?_ ?_ N (by omega)) ?_
 ·intro self;simp only [PXb,PXc,PXn,AG,Bh]
 ·intro i self hi;have kx:LR N [.rows (pvL (AF Y i 0))]=some [.rows (plX Y i)]:=oc;have ki:=ks (plX Y i) (i:Int) (((i+1:Nat):Int).tmod 3) (Nat.le_trans (lx i) (by omega));have eh:(plI R Y i).h=(i:Int):=vK _ _ _ _ _;have ea:(plI R Y i).a=((i+1:Nat):Int).tmod 3:=uv _ _ _ _ _;have ew:Sd3 (plI R Y i).win:=ss _ _ (rc hc (Nat.le_trans (lx i) (by omega))).side _ _;have b0:=jz R Y 0 (n:=i) (by omega);have b1:=jz R Y 1 (n:=i) (by omega);have b2:=jz R Y 2 (n:=i) (by omega);have sl:=FX (plT R Y i);rw [dz] at sl;have one:∀ t,Am (aT t) (plT R Y i++[plI R Y i])=Am (aT t) (plT R Y i)+aT t (plI R Y i):=fun t=>by
   rw [Ze];show _+(aT t (plI R Y i)+0)=_;omega
  rw [qt,fM,one,one,one];change CL N _=some ((plI R Y i).ls++[.int (plI R Y i).win]) at ki;generalize plI R Y i=P at *
  have d:P.ls++[.int P.win]=[.int P.h,.int P.a,.int P.hr,.int P.hb,.int P.ar,.int P.ab,.int P.win,.bool P.void,.int P.win]:=rfl;have d2:P.ls=[.int P.h,.int P.a,.int P.hr,.int P.hb,.int P.ar,.int P.ab,.int P.win,.bool P.void]:=rfl;rw [d] at ki;have h3:iSm ((i+1:Nat):Int) 64=true:=ID (by omega) (by omega);simp only [PXb,PXc,PXn,AG,Int.toNat_natCast,BR hi,Ax hi,kx,ki,List.length_append,sl,List.length_cons,List.length_nil,Nat.reduceAdd,h3,LX (show i≤1099511627776 by omega),d2];have w:∀ n:Int,0≤n→n≤100→IntKind.i64.wrap n=n:=fun n g1 g2=>Bg (by omega) (by omega)
  cases hb:iLt 2000 P.hr||iLt 2000 P.ar with
  | true=>rfl
  | false =>
   simp only [cond_false];clear hb ki kx ks ha d d2 hm h1 h0 cy hY;obtain ⟨h,a,hr,hb,ar,ab,win,void⟩:=P;simp only at eh ea ew;have a1:(((0+1:Nat):Int)).tmod 3=1:=rfl;have a2:(((1+1:Nat):Int)).tmod 3=2:=rfl;have a3:(((2+1:Nat):Int)).tmod 3=0:=rfl;have i0:iIn 0 3=true:=rfl;have i1:iIn 1 3=true:=rfl;have i2:iIn 2 3=true:=rfl;generalize Am (aT 0) (plT R Y i)=W0 at *
   generalize Am (aT 1) (plT R Y i)=W1 at *
   generalize Am (aT 2) (plT R Y i)=W2 at *
   have x1:=w (W0+1) (by omega) (by omega);have x2:=w (W1+1) (by omega) (by omega);have x3:=w (W2+1) (by omega) (by omega);have y1:=w (W0+2) (by omega) (by omega);have y2:=w (W1+2) (by omega) (by omega);have y3:=w (W2+2) (by omega) (by omega);unfold aT
   rcases (show i=0∨i=1∨i=2 by omega) with rfl | rfl | rfl
   ·rw [a1] at ea;have eh:h=0:=eh;subst eh;subst ea
    rcases ew with rfl | rfl | rfl<;>simp only [Int.reduceBEq,cond_true,cond_false,i0,i1,i2,x1,x2,x3,y1,y2,y3,Int.add_zero]
   ·rw [a2] at ea;have eh:h=1:=eh;subst eh;subst ea
    rcases ew with rfl | rfl | rfl<;>simp only [Int.reduceBEq,cond_true,cond_false,i0,i1,i2,x1,x2,x3,y1,y2,y3,Int.add_zero]
   ·rw [a3] at ea;have eh:h=2:=eh;subst eh;subst ea
    rcases ew with rfl | rfl | rfl<;>simp only [Int.reduceBEq,cond_true,cond_false,i0,i1,i2,x1,x2,x3,y1,y2,y3,Int.add_zero]
 ·cases hb:Bd (fun i=>iLt 2000 (plI R Y i).hr||iLt 2000 (plI R Y i).ar) Y.length 0 with
  | true=>rfl
  | false =>
   have lok:∀ p,p∈plT R Y Y.length→PlOk p:=fun p hp=>by
    unfold plT at hp;obtain ⟨i,hi,rfl⟩:=List.mem_map.1 hp;have hi:=List.mem_range.1 hi;have nb:=HC.1 hb i (Nat.zero_le _) (by omega);simp only [Bool.or_eq_false_iff,iLt,decide_eq_false_iff_not] at nb;refine tu hc (lx i) hm (by omega) ?_ ?_ (by have:=nb.1;unfold plI at this;omega) (by have:=nb.2;unfold plI at this;omega)
    ·rcases (show i=0∨i=1∨i=2 by omega) with rfl | rfl | rfl<;>decide
    ·rcases (show i=0∨i=1∨i=2 by omega) with rfl | rfl | rfl<;>decide
   have l3:(plT R Y Y.length).length≤3:=by rw [dz];exact ly
   generalize plT R Y Y.length=l at *
   have kt:=TQ hN lok (show l.length≤5 by omega);obtain ⟨x,y,z,e3,st⟩:=nP (A:=A9 l 0) (B:=A9 l 1) (C:=A9 l 2) (show ¬ (0:Int)=1 by decide) (show ¬ (0:Int)=2 by decide) (show ¬ (1:Int)=2 by decide);rw [e3] at kt;obtain ⟨⟨tx,ex⟩,⟨ty,ey⟩,⟨tz,ez⟩⟩:=st.all (fun s=>(s.t=0∨s.t=1∨s.t=2)∧s=A9 l s.t) ⟨.inl rfl,rfl⟩ ⟨.inr (.inl rfl),rfl⟩ ⟨.inr (.inr rfl),rfl⟩;have ok:∀ {s:Sta},s=A9 l s.t→StaOk s:=fun {s} h=>by rw [h];exact (qT lok (by omega) _).2.2.2.2.2
   have wt:∀ {s:Sta},(s.t=0∨s.t=1∨s.t=2)→s=A9 l s.t→cond (s.t==2) (Am (aT 2) l) (cond (s.t==1) (Am (aT 1) l) (Am (aT 0) l))=s.pts:=fun {s} h1 h2=>by
    have e:s.pts=Am (aT s.t) l:=congrArg Sta.pts h2;rw [e]
    rcases h1 with h | h | h<;>rw [h]<;>rfl
   have rg:∀ {s:Sta},(s.t=0∨s.t=1∨s.t=2)→iLt s.t 0=false∧iLt 2 s.t=false∧iIn s.t 3=true:=fun {s} h=>by
    simp only [iLt,iIn,decide_eq_false_iff_not,decide_eq_true_eq];omega
   have sm:(x.rf - x.ra)+(y.rf - y.ra)+(z.rf - z.ra)=((A9 l 0).rf - (A9 l 0).ra)+((A9 l 1).rf - (A9 l 1).ra)+((A9 l 2).rf - (A9 l 2).ra):=st.sum (fun s=>s.rf - s.ra);have rb:=qv lok;have x0:=ok ex;have y0:=ok ey;have z0:=ok ez;have x1:=wt tx ex;have y1:=wt ty ey;have z1:=wt tz ez;obtain ⟨x2,x3,x4⟩:=rg tx;obtain ⟨y2,y3,y4⟩:=rg ty;obtain ⟨z2,z3,z4⟩:=rg tz;have cxy:=st.xy;have cyz:=st.yz;have kc:∀ x y:Sta,StaOk x→StaOk y→CJ N [.int x.t,.int x.p,.int x.w,.int x.sh,.int x.l,.int x.pts,.int x.rf,.int x.bf,.int x.ra,.int x.ba,.int y.t,.int y.p,.int y.w,.int y.sh,.int y.l,.int y.pts,.int y.rf,.int y.bf,.int y.ra,.int y.ba]=some [.int (Bb x y)]:=fun _ _ h1 h2=>RB hN h1 h2
   have le:(CR [x,y,z]).length=3:=rfl;have r1:=x0.rf;have r2:=x0.ra;have r3:=y0.rf;have r4:=y0.ra;have r5:=z0.rf;have r6:=z0.ra;have w:∀ n:Int,-1000000≤n→n≤1000000→IntKind.i64.wrap n=n:=fun n g1 g2=>Bg (by omega) (by omega)
   have v1:=w (x.rf - x.ra) (by omega) (by omega);have v2:=w (y.rf - y.ra) (by omega) (by omega);have v3:=w (z.rf - z.ra) (by omega) (by omega);have v4:=w (0+(x.rf - x.ra)) (by omega) (by omega);have v5:=w (0+(x.rf - x.ra)+(y.rf - y.ra)) (by omega) (by omega);have v6:=w (0+(x.rf - x.ra)+(y.rf - y.ra)+(z.rf - z.ra)) (by omega) (by omega);simp only [cond_false,PXb,PXc,PXn,AG];refine LT kt ?_;simp only [PXb,PXc,PXn,AG,le];have q0:(!((0:Int)==0) || !(((3:Nat):Int)==3))=false:=rfl;rw [q0,cond_false];have c0_:((0:Nat):Int)=0:=rfl;have c1_:((1:Nat):Int)=1:=rfl;have c2_:((2:Nat):Int)=2:=rfl;have c3_:((3:Nat):Int)=3:=rfl;have n0:(0:Int).toNat=0:=rfl;have n1:(1:Int).toNat=1:=rfl;have n2:(2:Int).toNat=2:=rfl;have g0:iLt 0 3=true:=rfl;have g1:iLt 1 3=true:=rfl;have g2:iLt 2 3=true:=rfl;have h0_:iIn 0 3=true:=rfl;have h1_:iIn 1 3=true:=rfl;have h2_:iIn 2 3=true:=rfl;have k0:iLt 0 0=false:=rfl;have k1:iLt 0 1=true:=rfl;have k2:iLt 0 2=true:=rfl;have p1:IntKind.i64.wrap (1 - 1)=0:=rfl;have p2:IntKind.i64.wrap (2 - 1)=1:=rfl;have q1_:IntKind.i64.wrap (0+1)=1:=rfl;have q2_:IntKind.i64.wrap (1+1)=2:=rfl;have q3_:IntKind.i64.wrap (2+1)=3:=rfl;have kxy:=kc x y x0 y0;have kyz:=kc y z y0 z0;rw [cxy] at kxy;rw [cyz] at kyz;refine Ad (DQ (len:=3) (fun i=>[.int (dif (x.rf - x.ra) (y.rf - y.ra) (z.rf - z.ra) i),.int (i:Int)]) [.int 1,.int (0+(x.rf - x.ra)+(y.rf - y.ra)+(z.rf - z.ra))] ?_ ?_ N (by omega)) ?_
   ·intro self;rfl
   ·intro i self hi
    rcases (show i=0∨i=1∨i=2 by omega) with rfl | rfl | rfl
    ·simp only [dif,PXb,PXc,PXn,AG,le,c0_,c1_,c2_,c3_,n0,n1,n2,g0,g1,g2,h0_,h1_,h2_,k0,k1,k2,p1,p2,q1_,q2_,q3_,U6,pr1,pv1,L8,Md,Mg,Me,MA,MG,P4,QD,QM,QT,P9,QN,P0,QH,QY,QO,VF,Ux,UV,VN,Uk,VI,UZ,Ug,VL,VJ,x1,x2,x3,x4,v1,v4,beq_self_eq_true,Bool.not_true,Bool.or_false]
    ·simp only [dif,PXb,PXc,PXn,AG,le,c0_,c1_,c2_,c3_,n0,n1,n2,g0,g1,g2,h0_,h1_,h2_,k0,k1,k2,p1,p2,q1_,q2_,q3_,U6,pr1,pv1,L8,Md,Mg,Me,MA,MG,P4,QD,QM,QT,P9,QN,P0,QH,QY,QO,VF,Ux,UV,VN,Uk,VI,UZ,Ug,VL,VJ,y1,y2,y3,y4,v2,v5,kxy,beq_self_eq_true,Bool.not_true,Bool.not_false,Bool.or_false,Bool.and_self]
    ·simp only [dif,PXb,PXc,PXn,AG,le,c0_,c1_,c2_,c3_,n0,n1,n2,g0,g1,g2,h0_,h1_,h2_,k0,k1,k2,p1,p2,q1_,q2_,q3_,U6,pr1,pv1,L8,Md,Mg,Me,MA,MG,P4,QD,QM,QT,P9,QN,P0,QH,QY,QO,VF,Ux,UV,VN,Uk,VI,UZ,Ug,VL,VJ,z1,z2,z3,z4,v3,v6,kyz,beq_self_eq_true,Bool.not_true,Bool.not_false,Bool.or_false,Bool.and_self]
   ·have d0:0+(x.rf - x.ra)+(y.rf - y.ra)+(z.rf - z.ra)=0:=by omega
    rw [d0];simp only [PXb,PXc,PXn,AG];have q1:((1:Int)==((0:Nat):Int))=false:=rfl;rw [q1,cond_false];obtain ⟨kk,rfl⟩:∃ kk:Nat,k=(kk:Int):=⟨k.toNat,by omega⟩;refine Ad (DQ (len:=l.length) (fun i=>[.rows (GP (rot l kk i)),.int (i:Int)]) [.rows (GP (rot l kk l.length))] ?_ ?_ N (by omega)) ?_
    ·intro self;simp only [PXb,PXc,PXn,AG,FX,Bh]
    ·intro i self hi;have wk:IntKind.i64.wrap (kk:Int)=(kk:Int):=Bg (by omega) (by omega);have wi:IntKind.i64.wrap ((i:Int)+(kk:Int))=((i+kk:Nat):Int):=by rw [Bg (by omega) (by omega)];omega
     have ti:((i+kk:Nat):Int).tmod (l.length:Int)=(((i+kk) % l.length:Nat):Int):=rfl;have hj:(i+kk) % l.length<l.length:=Nat.mod_lt _ (by omega);have pa:∀ c,AF (GP l) ((i+kk) % l.length) c=AD (pln l ((i+kk) % l.length)).ls c:=fun c=>by unfold AF;rw [ZH hj]
     have nz:((l.length:Int)==0)=false:=beq_false_of_ne (by omega);have sl:=FX (rot l kk i);rw [ll] at sl;have h3:iSm ((i+1:Nat):Int) 64=true:=ID (by omega) (by omega);rw [qQ,fM];simp only [PXb,PXc,PXn,AG,FX,Int.toNat_natCast,BR hi,wk,wi,ti,Ax hj,nz,pa,List.length_append,sl,List.length_cons,List.length_nil,Nat.reduceAdd,h3,LX (show i≤1099511627776 by omega),Bool.not_false,cond_true];rfl
    ·have ku:=TQ hN (tS lok kk) (show (rot l kk l.length).length≤5 by rw [ll];omega);rw [iY l3 kk,iY l3 kk,iY l3 kk,e3] at ku;refine LT ku ?_;simp only [PXb,PXc,PXn,AG,le,c0_,c1_,c2_,c3_,n0,n1,n2,g0,g1,g2,h0_,h1_,h2_,k0,k1,k2,p1,p2,q1_,q2_,q3_,U6,pr1,pv1,L8,Md,Mg,Me,MA,MG,P4,QD,QM,QT,P9,QN,P0,QH,QY,QO,VF,Ux,UV,VN,Uk,VI,UZ,Ug,VL,VJ,beq_self_eq_true,Bool.not_true,Bool.not_false,Bool.or_false,Bool.and_self];rfl
open Go.Proofs Go.RowKit
theorem Mn {P : Program} {fn : Func} {p u : Tmp} {ty : TypeId} (h : fn.results = #[.cell p ty, .tmp u]) (tmps : Array Value) (w : World) (g : Nat) (t : TypeId) (cs : Array Value) (fr : Nat × Nat) (d : TypeDesc)
    (hp:tmps.getD p undef=.pointer (some ⟨g,0,none⟩)) (hg:w.heap[g]?=some (.cells cs t fr))
    (hu:P.underlying ty=some d) (hd:(match d with | .struct _ | .array _ _=>true | _=>false)=true) (hi:(P.info? ty).map (·.size)=some cs.size) :
    (results fn tmps).run P w=.ok (.tuple #[.agg cs,tmps.getD u undef]) w:=by
  rw [results_cell_tmp h,hp];simp [asAddr,run_loadVar_row w g t ty cs fr d hg hu hd hi,Result.andThen]
set_option maxHeartbeats 2000000 in
set_option maxRecDepth 100000 in
theorem qY (lo : Int) (w : World) (h0 : 0 ≤ lo) (h1 : lo < 9223372036854775808) :
    Calls Tryz.prog 52 #[.int .u64 0,.int .u64 lo,.bool false] w fun e w'=>e=.returned (.tuple #[.agg #[.int .i64 0,.int .u64 lo],.bool true])∧Below w.heap.size w w':=by
  go_enter Tryz.func52,Tryz.ntmps52
  go_wp2
  refine bodyPost_ret (Mn (P:=Tryz.prog) (p:=6) (u:=7) (by kernel_rfl) _ _ w.heap.size 103 _ _ _ rfl (heap_alloc_new _ _) Tryz.underlying103 rfl (by kernel_rfl)) rfl ?_;exact ⟨rfl,(Below.refl _ _).alloc (Nat.le_refl _) _⟩
theorem tC {x:Int} (h0:0≤x) (h1:x<9223372036854775808):bits BinOp.xor IntKind.u64 IntKind.u64.max x=18446744073709551615 - x:=by
 obtain ⟨n,rfl⟩:=Int.eq_ofNat_of_zero_le h0;have hn:n<9223372036854775808:=by omega
 show IntKind.u64.wrap (((BitVec.ofInt 64 18446744073709551615) ^^^ (BitVec.ofInt 64 (n:Int))).toNat:Int)=_;have e:BitVec.ofInt 64 18446744073709551615=BitVec.allOnes 64:=by decide
 have e2:(BitVec.ofInt 64 (n:Int)).toNat=n:=by
  rw [BitVec.toNat_ofInt];omega
 rw [e,BitVec.allOnes_xor,BitVec.toNat_not,e2];unfold IntKind.wrap;simp [IntKind.signed,IntKind.bits];omega
set_option maxHeartbeats 2000000 in
set_option maxRecDepth 100000 in
theorem pU (w : World) :
    Calls Tryz.prog 52 #[.int .u64 0,.int .u64 0,.bool true] w fun e w'=>e=.returned (.tuple #[.agg #[.int .i64 0,.int .u64 0],.bool true])∧Below w.heap.size w w':=by
  have b0:bits BinOp.xor IntKind.u64 IntKind.u64.max 0=18446744073709551615:=by kernel_rfl
  go_enter Tryz.func52,Tryz.ntmps52
  go_wp2_with fail
  rw [run_callFunc_extern Tryz.func61 (by kernel_rfl) (by kernel_rfl) (by kernel_rfl) (e:=add64Entry) (by kernel_rfl),run_add64 18446744073709551615 1 0 (by decide) (by decide) (by decide) (by decide)];simp only [Result.andThen];rw [Oper.upon_value]
  go_wp2_with fail
  rw [run_callFunc_extern Tryz.func61 (by kernel_rfl) (by kernel_rfl) (by kernel_rfl) (e:=add64Entry) (by kernel_rfl),run_add64 18446744073709551615 0 1 (by decide) (by decide) (by decide) (by decide)];simp only [Result.andThen];rw [Oper.upon_value]
  go_wp2
  refine bodyPost_ret (Mn (P:=Tryz.prog) (p:=6) (u:=7) (by kernel_rfl) _ _ w.heap.size 103 _ _ _ rfl (heap_alloc_new _ _) Tryz.underlying103 rfl (by kernel_rfl)) rfl ?_;exact ⟨rfl,(Below.refl _ _).alloc (Nat.le_refl _) _⟩
set_option maxHeartbeats 2000000 in
set_option maxRecDepth 100000 in
theorem qR (lo : Int) (w : World) (h0 : 0 < lo) (h1 : lo < 9223372036854775808) :
    Calls Tryz.prog 52 #[.int .u64 0,.int .u64 lo,.bool true] w fun e w'=>e=.returned (.tuple #[.agg #[.int .i64 (-1),.int .u64 (18446744073709551616 - lo)],.bool true])∧Below w.heap.size w w':=by
  have b0:bits BinOp.xor IntKind.u64 IntKind.u64.max 0=18446744073709551615:=by kernel_rfl
  obtain ⟨X,b1,hX⟩:∃ X,bits BinOp.xor IntKind.u64 IntKind.u64.max lo=X∧X=18446744073709551615 - lo:=⟨_,tC (by omega) h1,rfl⟩;have e1:(X+1+0) % 18446744073709551616=18446744073709551616 - lo:=by omega
  have e2:(X+1+0) / 18446744073709551616=0:=by omega
  have x0:0≤X:=by omega
  clear hX
  go_enter Tryz.func52,Tryz.ntmps52
  go_wp2_with fail
  rw [run_callFunc_extern Tryz.func61 (by kernel_rfl) (by kernel_rfl) (by kernel_rfl) (e:=add64Entry) (by kernel_rfl),run_add64 X 1 0 x0 (by decide) (by decide) (by decide),e1,e2];simp only [Result.andThen];rw [Oper.upon_value]
  go_wp2_with fail
  rw [run_callFunc_extern Tryz.func61 (by kernel_rfl) (by kernel_rfl) (by kernel_rfl) (e:=add64Entry) (by kernel_rfl),run_add64 18446744073709551615 0 0 (by decide) (by decide) (by decide) (by decide)];simp only [Result.andThen];rw [Oper.upon_value]
  go_wp2
  refine bodyPost_ret (Mn (P:=Tryz.prog) (p:=6) (u:=7) (by kernel_rfl) _ _ w.heap.size 103 _ _ _ rfl (heap_alloc_new _ _) Tryz.underlying103 rfl (by kernel_rfl)) rfl ?_;exact ⟨by kernel_rfl,(Below.refl _ _).alloc (Nat.le_refl _) _⟩
theorem mM (lo : Int) (neg : Bool) (w : World) (h0 : 0 ≤ lo) (h1 : lo < 9223372036854775808) :
    Calls Tryz.prog 52 #[.int .u64 0,.int .u64 lo,.bool neg] w fun e w'=>e=.returned (.tuple #[.agg #[.int .i64 (cond (neg && !(lo==0)) (-1) 0),.int .u64 (cond (neg && !(lo==0)) (18446744073709551616 - lo) lo)],.bool true])∧Below w.heap.size w w':=by
  cases neg with
  | false=>exact qY lo w h0 h1
  | true =>
    by_cases h:lo=0
    · subst h;exact pU w
    · have e:(lo==0)=false:=beq_false_of_ne h;rw [e];exact qR lo w (by omega) h1
end Go.Px
end
