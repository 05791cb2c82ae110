/- Part 10. -/
import Derived.Test.YtfelmmkjeicgoaaGreatDoorPart08
import Derived.Test.YtfelmmkjeicgoaaGreatDoorPart09
set_option linter.unusedVariables false
set_option linter.unusedSimpArgs false
section
namespace Go.Px
set_option maxRecDepth 100000
def btw (a b c:Int):Bool:=iLe b a&&iLe a c
theorem Cs (N:Nat) (a b c:Int):AX N [.int a,.int b,.int c]=some [.bool (btw a b c)]:=by
 show some [PV.bool (cond (iLe b a) (iLe a c) false)]=_;rw [Wf];rfl
theorem Fl (N:Nat) (a b c:Int):Ba N [.int a,.int b,.int c]=some [.bool (btw a b c)]:=by
 show some [PV.bool (cond (iLe b a) (iLe a c) false)]=_;rw [Wf];rfl
def G5 (x1 x2 x3 x4 x5 x6 x7 x9 x10 x11 x12:Int):Bool:=btw x1 2 11&&btw x2 1 2&&btw x3 0 90&&btw x4 4 8&&btw x5 0 90&&btw x6 1 5&&btw x7 1 5&&btw x9 0 200&&btw x10 0 1000&&btw x11 0 9&&btw x12 0 11
theorem Qh (N : Nat) (x0 : ByteArray) (x1 x2 x3 x4 x5 x6 x7 x9 x10 x11 x12 : Int) (x8 : Bool) (x13 : Rows) :
   Ct N [.str x0,.int x1,.int x2,.int x3,.int x4,.int x5,.int x6,.int x7,.bool x8,.int x9,.int x10,.int x11,.int x12,.rows x13]=some [.bool (G5 x1 x2 x3 x4 x5 x6 x7 x9 x10 x11 x12)]:=by
  show EI (std (E6 N) N) (xOf _)=_;have e:∀ ls,E6 N 61 [] ls=Ba N ls:=fun ls=>rfl
  simp only [EI,Alg.q,std,xOf,e,Fl,PXb,PXc,PXn,Ac,G5]
def PS (s:ByteArray) (i:Nat):Bool := !(iLe 65 (HX s i)&&iLe (HX s i) 90)&&((i:Int)==0||((!(HX s i==95) && !(HX s i==45))&&(iLt (HX s i) 48||iLt 57 (HX s i))))
def OX (s:ByteArray):Bool := !BD (PS s) s.size 0&&(iLe 1 s.size&&iLe s.size 16)
theorem Zr (s:ByteArray):(Cu s).length=s.size:=by
 simp only [Cu,List.length_map,Array.length_toList];rfl
theorem Zx (s:ByteArray) (i:Nat) (h:i<s.size):pvI (AL (Cu s) i 0)=HX s i:=by
 unfold AL Aq AF Cu HX;simp only [List.getD_eq_getElem?_getD,List.getElem?_map];have:i<s.data.toList.length:=by simpa using h
 rw [List.getElem?_eq_getElem this];simp [List.getElem?_eq_getElem this]
theorem VG (N:Nat) (s:ByteArray) (hN:s.size<N) (hs:s.size≤1048576):FJ N [.str s]=some [.bool (OX s)]:=by
 show HU (std (NV N) N) (xOf _)=_;simp only [HU,Alg.q,std,xOf,Zr,PXb,PXc,PXn,Ac];refine BZ (JI (len:=s.size) (PS s) [.bool false] ?_ ?_ N hN) ?_
 ·intro self;simp only [PXb,PXc,PXn,Ac,Ds]
 ·intro i self hi;simp only [PXb,PXc,PXn,Ac,Int.toNat_natCast,Zx s i hi,CG (show i≤1099511627776 by omega),Cq hi,Bs hi,PS]
 ·unfold OX;cases BD (PS s) s.size 0<;>rfl
end Go.Px
end
section
namespace Go.Px
set_option maxRecDepth 100000
theorem Y8 {i len:Nat} (h:i<len) (hl:len≤1099511627776):(!iLt 0 (i:Int)||iIn (IntKind.i64.wrap ((i:Int) - 1)) (len:Int))=true:=by
 rw [EX (by omega) (by omega)];simp only [iLt,iIn,Bool.or_eq_true,Bool.not_eq_true',decide_eq_false_iff_not,decide_eq_true_eq];omega
def Yb (L:Rows) (ov:Int) (i:Nat):Bool:=(iLt (atI L i 0) 1||iLt (atI L i 1) (atI L i 0)||iLt ov (atI L i 1)) || !btw (atI L i 2) 0 11
def W8 (L:Rows) (i:Nat):Bool:=iLt 0 (i:Int)&&iLe (atI L i 0) (pvI (AL L (IntKind.i64.wrap ((i:Int) - 1)).toNat 1))
def WR (L:Rows) (ov:Int) (i:Nat):Option (List PV):=cond (Yb L ov i) (some [.int 2]) (cond (W8 L i) (some [.int 8]) none)
def XT:Option (List PV)→Int
 | none=>0
 | some r=>pvI (AF r 0)
def UV (L:Rows) (ov:Int):Int:=cond (iLt 8 (L.length:Int)) 9 (XT (GY (WR L ov) L.length 0))
theorem We (o:Option (List PV)):cond (pvI (AF (V7 o) 0)==((0:Nat):Int)) (some [PV.int (pvI (AF (V7 o) 1))]) (some [PV.int 0])=some [PV.int (XT o)]:=by
 cases o<;>rfl
theorem SJ (N : Nat) (x0 : ByteArray) (x1 x2 x3 x4 x5 x6 x7 x9 x10 x11 x12 : Int) (x8 : Bool) (L : Rows) (hN : 2097152 < N) :
   DH N [.str x0,.int x1,.int x2,.int x3,.int x4,.int x5,.int x6,.int x7,.bool x8,.int x9,.int x10,.int x11,.int x12,.rows L]=some [.int (UV L x3)]:=by
  show Eo (std (Fi N) N) (xOf _)=_;have e:∀ ls,Fi N 61 [] ls=Ba N ls:=fun ls=>rfl
  simp only [Eo,Alg.q,std,xOf,e,Fl,PXb,PXc,PXn,Ac,UV];cases h8:iLt 8 (L.length:Int) with
  | true=>rfl
  | false =>
    have hl:L.length≤8:=by simp [iLt] at h8;omega
    simp only [cond_false];refine BZ (Hu (len:=L.length) (WR L x3) ?_ ?_ L.length 0 N (by omega) (by omega)) ?_
    · intro self;simp only [PXb,PXc,PXn,Ac,Ds]
    · intro i self hi;simp only [PXb,PXc,PXn,Ac,Int.toNat_natCast,CG (show i≤1099511627776 by omega),Cq hi,Bs hi,Fl,e,Y8 hi (by omega)];simp only [WR,Yb,W8,atI];cases (iLt (pvI (AL L i 0)) 1||iLt (pvI (AL L i 1)) (pvI (AL L i 0))||iLt x3 (pvI (AL L i 1)) || !btw (pvI (AL L i 2)) 0 11) <;>
      cases (iLt 0 (i:Int)&&iLe (pvI (AL L i 0)) (pvI (AL L (IntKind.i64.wrap ((i:Int) - 1)).toNat 1)))<;>rfl
    · exact We _
def F1 (x0:ByteArray) (x1 x2 x3 x4 x5 x6 x7 x9 x10 x11 x12:Int) (L:Rows):Int :=
  cond (!OX x0) 5 (cond (!G5 x1 x2 x3 x4 x5 x6 x7 x9 x10 x11 x12) 2
    (cond ((!(x10==0)&&x2==1)||((!(x5==0)||iLt 0 (L.length:Int))&&x3==0)) 1
      (cond (!(x5==0)&&iLt (IntKind.i64.wrap (x5 * x1)) x3) 13 (UV L x3))))
theorem LG (N : Nat) (x0 : ByteArray) (x1 x2 x3 x4 x5 x6 x7 x9 x10 x11 x12 : Int) (x8 : Bool) (L : Rows) (hN : 2097152 < N) (hs : x0.size ≤ 1048576) :
   AY N [.str x0,.int x1,.int x2,.int x3,.int x4,.int x5,.int x6,.int x7,.bool x8,.int x9,.int x10,.int x11,.int x12,.rows L]=some [.int (F1 x0 x1 x2 x3 x4 x5 x6 x7 x9 x10 x11 x12 L)]:=by
  show FW (std (Co N) N) (xOf _)=_;have e:∀ ls,Co N 36 [] ls=FJ N ls:=fun ls=>rfl
  have e2:∀ ls,Co N 37 [] ls=Ct N ls:=fun ls=>rfl
  have e3:∀ ls,Co N 38 [] ls=DH N ls:=fun ls=>rfl
  simp only [FW,Alg.q,std,xOf,e,e2,e3,VG N x0 (by omega) hs,Qh,SJ N _ _ _ _ _ _ _ _ _ _ _ _ _ _ hN,PXb,PXc,Ac,F1];cases OX x0<;>cases G5 x1 x2 x3 x4 x5 x6 x7 x9 x10 x11 x12<;>try rfl
  simp only [PXb,PXc,Ac,Bool.not_true];cases (!(x10==0)&&x2==1)<;>cases ((!(x5==0)||iLt 0 (L.length:Int))&&x3==0)<;>try rfl
  cases (!(x5==0)&&iLt (IntKind.i64.wrap (x5 * x1)) x3)<;>rfl
end Go.Px
end
section
namespace Go.Px
set_option maxRecDepth 100000
theorem Nc (N:Nat) (L:Rows) (v:Int) (hN:L.length<N) (hl:L.length≤2097152):B7 N [.rows L,.int v]=some [.int (Wl (fun j=>v==atI L j 0) L.length)]:=by
 show Cm (std (Gq N) N) (xOf _)=_;simp only [Cm,Alg.q,std,xOf,PXb,PXc,PXn,Ac];refine BZ (Hu (len:=L.length) (MM fun j=>v==atI L j 0) ?_ ?_ L.length 0 N (by omega) (by omega)) ?_
 ·intro self;simp only [PXb,PXc,PXn,Ac,Ds]
 ·intro i self hi;simp only [PXb,PXc,PXn,Ac,CG (show i≤1099511627776 by omega),Cq hi,Bs hi,MM,PF];cases v==atI L i 0<;>rfl
 ·unfold Wl;cases GY (MM fun j=>v==atI L j 0) L.length 0<;>rfl
def SP (L:Rows) (k:Nat) (v:Int):Bool:=BD (fun j=>v==atI L j 0) k 0
theorem K1 (N:Nat) (L:Rows) (v:Int) (hN:L.length<N) (hl:L.length≤2097152):Ai N [.rows L,.int v]=some [.bool (SP L L.length v)]:=by
 show CE (std (Ch N) N) (xOf _)=_;have e:∀ ls,Ch N 83 [] ls=B7 N ls:=fun ls=>rfl
 simp only [CE,Alg.q,std,xOf,PXb,PXc,PXn,Ac,e,Nc N L v hN hl,SA,SP]
theorem X3 (L:Rows) (i:Nat) (v:Int) (h:i≤L.length):SP (L.take i) (L.take i).length v=SP L i v:=by
 rw [List.length_take,Nat.min_eq_left h];exact RX i 0 (fun j _ hj=>by rw [YL (by omega)])
def PQ (L:Rows) (n:Int) (i:Nat):Bool := !btw (atI L i 0) 1 n||SP L i (atI L i 0)
def Hx (L:Rows) (n:Int):Bool := !BD (PQ L n) L.length 0
theorem GO (N:Nat) (L:Rows) (n:Int) (hN:L.length<N) (hl:L.length≤2097152):B1 N [.rows L,.int n]=some [.bool (Hx L n)]:=by
 show Cf (std (CF N) N) (xOf _)=_;have e:∀ ls,CF N 39 [] ls=AX N ls:=fun ls=>rfl
 have e2:∀ ls,CF N 62 [] ls=Ai N ls:=fun ls=>rfl
 simp only [Cf,Alg.q,std,xOf,PXb,PXc,PXn,Ac];refine BZ (JI (len:=L.length) (PQ L n) [.bool false] ?_ ?_ N hN) ?_
 ·intro self;simp only [PXb,PXc,PXn,Ac,Ds]
 ·intro i self hi;have h1:(L.take i).length≤L.length:=List.length_take_le' i L;simp only [PXb,PXc,PXn,Ac,CG (show i≤1099511627776 by omega),Cq hi,Bs hi,e,e2,Cs,Z4 (Nat.le_of_lt hi),Int.toNat_zero,List.drop_zero,K1 N (L.take i) _ (by omega) (by omega),X3 L i _ (by omega),PF,PQ];cases btw (atI L i 0) 1 n<;>cases SP L i (atI L i 0)<;>rfl
 ·unfold Hx;cases BD (PQ L n) L.length 0<;>rfl
def lsI (L14 L16 L17 L19 L24:Rows) (b18 b20:Bool) (x0 x1 x2 x3 x4 x5 x6 x7 x8 x9 x10 x11 x12 x13 x15 x21 x22 x23 x25 x26 x27:Int):List PV :=
 [.int x0,.int x1,.int x2,.int x3,.int x4,.int x5,.int x6,.int x7,.int x8,.int x9,.int x10,.int x11,.int x12,.int x13,.rows L14,.int x15,.rows L16,.rows L17,.bool b18,.rows L19,.bool b20,.int x21,.int x22,.int x23,.rows L24,.int x25,.int x26,.int x27]
theorem MH (N:Nat) (v:Int):B0 N [.int v]=some [.bool (!btw v 0 1000000000)]:=by
 show Ce (std (DV N) N) (xOf _)=_;have e:∀ ls,DV N 39 [] ls=AX N ls:=fun ls=>rfl
 simp only [Ce,Alg.q,std,xOf,PXb,PXc,PXn,Ac,e,Cs]
end Go.Px
end
section
namespace Go.Px
set_option maxRecDepth 100000
def pIs (L:Rows) (v:Int) (i:Nat):Bool:=atI L i 0==v
def PC (s n:Int) (i:Nat):Bool:=s==(i:Int)+1||n==(i:Int)+1
def I2 (L:Rows) (s n:Int) (i:Nat):Bool:=iLt 3 (atI L i 0)||(pIs L 1 i && !PC s n i)
def Rz (L:Rows) (s n:Int) (i:Nat):Bool:=iLt 3 (atI L i 0) || !(pIs L 1 i==PC s n i)
def Qn (L:Rows):Int:=BV (pIs L 2) L.length
def ins (L:Rows):Int:=BV (pIs L 1) L.length
def two (s n:Int):Int:=cond (!(n==0)) (IntKind.i64.wrap (cond (!(s==0)) (IntKind.i64.wrap (0+1)) 0+1)) (cond (!(s==0)) (IntKind.i64.wrap (0+1)) 0)
def T7 (L:Rows) (s n wk k:Int):Bool :=
 !BD (I2 L s n) L.length 0&&((btw s 0 k&&btw n 0 k)&&(!(s==n && !(s==0))&&((two s n==ins L&&(!Rf L||iLt 0 (two s n)))&&Qn L==wk)))
def PK (L:Rows) (s n wk:Int):Bool :=
 !BD (Rz L s n) L.length 0&&(!((Rf L&&iLt (ins L) 1)||(!(s==0)&&s==n))&&wk==Qn L)
def Wh (L:Rows):Nat→Bool
 | 0=>false
 | i+1=>Wh L i || !(atI L i 0==0)
theorem Vn (L:Rows):∀ i,Wh L i=BD (fun j => !(atI L j 0==0)) i 0
 | 0=>rfl
 | i+1=>by rw [Tf,Nat.zero_add,← Vn L i];rfl
section
variable (N:Nat) (L14 L16 L17 L19 L24:Rows) (b18 b20:Bool) (x0 x1 x2 x3 x4 x5 x6 x7 x8 x9 x10 x11 x12 x13 x15 x21 x22 x23 x25 x26 x27:Int)
theorem OC (k:Int) (hN:L14.length<N) (hl:L14.length≤2097152):CM N (lsI L14 L16 L17 L19 L24 b18 b20 x0 x1 x2 x3 x4 x5 x6 x7 x8 x9 x10 x11 x12 x13 x15 x21 x22 x23 x25 x26 x27++[.int k])=some [.bool (T7 L14 x12 x13 x4 k)]:=by
  simp only [lsI,List.cons_append,List.nil_append];show C5 (std (D3 N) N) (xOf _)=_;have e:∀ ls,D3 N 39 [] ls=AX N ls:=fun ls=>rfl
  simp only [C5,Alg.q,std,xOf,lsI,PXb,PXc,PXn,Ac];refine BZ (UT (len:=L14.length) (fun i=>[.int (BV (pIs L14 2) i),.int (BV (pIs L14 1) i),.bool (Wh L14 i),.int (i:Int)])
    (I2 L14 x12 x13) [.int 0,.bool false] [.int 1,.int (Qn L14),.int (ins L14),.bool (Rf L14)] ?_ ?_ N hN) ?_
  · intro self;simp only [PXb,PXc,PXn,Ac,Ds,Vn];rfl
  · intro i self hi;simp only [PXb,PXc,Ac,CG (show i≤1099511627776 by omega),Cq hi,Bs hi,PF,VJ (pIs L14 2) (show i≤1099511627776 by omega),VJ (pIs L14 1) (show i≤1099511627776 by omega)];unfold I2 pIs PC;simp only [BV,Wh];cases h3:iLt 3 (atI L14 i 0) with
    | true=>rfl
    | false =>
      cases h1:atI L14 i 0==1 with
      | true =>
        rw [ZO h1];cases x12==(i:Int)+1<;>cases x13==(i:Int)+1<;>rfl
      | false=>cases h2:atI L14 i 0==2<;>rfl
  · unfold T7;simp only [e,Cs];cases BD (I2 L14 x12 x13) L14.length 0 with
    | true=>rfl
    | false =>
      simp only [PXb,PXc,PXn,Ac];unfold two;cases btw x12 0 k<;>cases btw x13 0 k<;>try rfl
      cases x12==0<;>cases x13==0<;>cases x12==x13<;>try rfl
end
end Go.Px
end
section
namespace Go.Px
set_option maxRecDepth 100000
theorem Yk (s n:Int):two s n=cond (!(s==0)) 1 0+cond (!(n==0)) 1 0:=by
 unfold two;cases s==0<;>cases n==0<;>rfl
theorem Yt {s n:Int} {len:Nat} (h1:0≤s∧s≤(len:Int)) (h2:0≤n∧n≤(len:Int)) (hd:(s==n && !(s==0))=false):two s n=BV (PC s n) len:=by
 have hs:iLe s (len:Int)=true:=by simp only [iLe,decide_eq_true_eq];omega
 have hn:iLe n (len:Int)=true:=by simp only [iLe,decide_eq_true_eq];omega
 unfold PC;rw [XY (p:=fun i=>s==(i:Int)+1) (q:=fun i=>n==(i:Int)+1) len (fun j _ hp=>by
  have e1:s=(j:Int)+1:=by simpa using hp
  show (n==(j:Int)+1)=false;rw [beq_eq_false_iff_ne];intro e2;have e3:(s==n)=true:=by rw [beq_iff_eq];omega
  have e4:(s==0)=false:=by rw [beq_eq_false_iff_ne];omega
  rw [e3,e4] at hd;cases hd),UU s len h1.1,UU n len h2.1,hs,hn,Bool.and_true,Bool.and_true,Yk]
theorem Yq (x:Int):iLt 0 x = !iLt x 1:=by
 unfold iLt;rw [Bool.eq_iff_iff];simp only [decide_eq_true_eq,Bool.not_eq_true',decide_eq_false_iff_not];omega
theorem X2 {L : Rows} {s n : Int} (h1 : 0 ≤ s ∧ s ≤ (L.length : Int)) (h2 : 0 ≤ n ∧ n ≤ (L.length : Int)) (hd : (s == n && !(s == 0)) = false) :
    (!BD (I2 L s n) L.length 0&&two s n==ins L) = !BD (Rz L s n) L.length 0:=by
  have h2c:=Yt h1 h2 hd;rw [Bool.eq_iff_iff];simp only [Bool.and_eq_true,Bool.not_eq_true',Mh,beq_iff_eq];constructor
  · intro ⟨ha,hb⟩ j _ hj;have hm:∀ j,j<L.length→pIs L 1 j=true→PC s n j=true:=fun j hj hp=>by
      have:=ha j (Nat.zero_le _) (by omega);unfold I2 at this;rw [hp] at this;simp only [Bool.or_eq_false_iff,Bool.true_and,Bool.not_eq_false'] at this;exact this.2
    have he:=XW L.length hm (by rw [← h2c,hb];rfl) j (by omega);have:=ha j (Nat.zero_le _) hj;unfold I2 at this;unfold Rz;rw [Bool.or_eq_false_iff] at this ⊢;exact ⟨this.1,by rw [he];simp⟩
  · intro ha;have hm:∀ j,j<L.length→pIs L 1 j=PC s n j:=fun j hj=>by
      have:=ha j (Nat.zero_le _) (by omega);unfold Rz at this;rw [Bool.or_eq_false_iff] at this;simpa using this.2
    refine ⟨fun j h0 hj=>?_,?_⟩
    · have:=ha j h0 hj;unfold Rz at this;unfold I2;rw [Bool.or_eq_false_iff] at this ⊢;refine ⟨this.1,?_⟩;rw [hm j (by omega)];cases PC s n j<;>rfl
    · rw [h2c];exact (TO L.length hm).symm
theorem Zp (L:Rows) (s n wk k:Int) (hk:(L.length:Int)=k):T7 L s n wk k=(btw s 0 k&&btw n 0 k&&PK L s n wk):=by
 subst hk;unfold T7 PK;cases hs:btw s 0 (L.length:Int) with
 | false=>simp only [Bool.false_and,Bool.and_false]
 | true =>
  cases hn:btw n 0 (L.length:Int) with
  | false=>simp only [Bool.false_and,Bool.and_false]
  | true =>
   have h1:0≤s∧s≤(L.length:Int):=by simpa [btw,iLe] using hs
   have h2:0≤n∧n≤(L.length:Int):=by simpa [btw,iLe] using hn
   simp only [Bool.true_and];cases hd:(s==n && !(s==0)) with
   | true =>
    have:(!(s==0)&&s==n)=true:=by rw [Bool.and_comm];exact hd
    rw [this];simp only [Bool.or_true,Bool.not_true,Bool.false_and,Bool.and_false]
   | false =>
    have:(!(s==0)&&s==n)=false:=by rw [Bool.and_comm];exact hd
    rw [this,← X2 h1 h2 hd];simp only [Bool.or_false,Bool.not_false,Bool.true_and];rw [show (wk==Qn L)=(Qn L==wk) from BEq.comm];cases hA:BD (I2 L s n) L.length 0 with
    | true=>rfl
    | false =>
     cases hB:two s n==ins L with
     | false=>rfl
     | true =>
      rw [beq_iff_eq.1 hB,Yq];simp only [Bool.true_and,Bool.not_false,Bool.not_and]
end Go.Px
end
section
namespace Go.Px
set_option maxRecDepth 100000
def ET (v:Int):Bool := !btw v 0 1000000000
def Ug (x1 x3 x5 x6 x7 x8 x9 x10 x21 x23 x25 x26:Int):Rows:=[[.int x1],[.int x3],[.int x5],[.int x6],[.int x7],[.int x8],[.int x9],[.int x10],[.int x21],[.int x23],[.int x25],[.int x26]]
section
variable (N:Nat) (L14 L16 L17 L19 L24:Rows) (b18 b20:Bool) (x0 x1 x2 x3 x4 x5 x6 x7 x8 x9 x10 x11 x12 x13 x15 x21 x22 x23 x25 x26 x27:Int)
theorem Nq (hN:2097152<N) (hl:L19.length≤1048576):CO N (lsI L14 L16 L17 L19 L24 b18 b20 x0 x1 x2 x3 x4 x5 x6 x7 x8 x9 x10 x11 x12 x13 x15 x21 x22 x23 x25 x26 x27)=some [.bool (!(IH ET (Ug x1 x3 x5 x6 x7 x8 x9 x10 x21 x23 x25 x26)||IH ET L19))]:=by
 show C3 (std (D8 N) N) (xOf (lsI ..))=_;have e:∀ ls,D8 N 64 [] ls=B0 N ls:=fun ls=>rfl
 rw [← X7];simp only [C3,Alg.q,std,xOf,lsI,PXb,PXc,PXn,Ac,Ug];generalize hM:([PV.int x1]::[PV.int x3]::[PV.int x5]::[PV.int x6]::[PV.int x7]::[PV.int x8]::[PV.int x9]::[PV.int x10]::[PV.int x21]::[PV.int x23]::[PV.int x25]::[PV.int x26]::L19:Rows)=M;have hM2:M.length≤2097152:=by rw [← hM];simp only [List.length_cons];omega
 rw [SK (n:=M.length) (by omega) (by omega)];simp only [PXb,PXc,PXn,Ac];rw [Option.bind_assoc];refine BZ (Hu (len:=M.length) (MM fun i=>ET (atI M i 0)) ?_ ?_ M.length 0 N (by omega) (by omega)) ?_
 ·intro self;simp only [PXb,PXc,PXn,Ac,Ds]
 ·intro i self hi;simp only [PXb,PXc,PXn,Ac,CG (show i≤1099511627776 by omega),Cq hi,Bs hi,MM,PF,e,MH,ET];cases btw (atI M i 0) 0 1000000000<;>rfl
 ·unfold IH;rw [← SA];unfold Wl;cases GY (MM fun i=>ET (atI M i 0)) M.length 0<;>rfl
end
def Sp (a3 x2:Int):Bool:=cond (a3==0) (x2==0) (btw x2 1 a3)
def Ri (s:ByteArray) (a1 a2 a3 a4 a5 a6 a7 a9 a10 a11 a12:Int) (La L14 L16 L17 L19 L24:Rows) (x0 x1 x2 x3 x4 x5 x6 x7 x8 x9 x10 x11 x12 x13 x15 x21 x22 x23 x25 x26 x27:Int):Bool :=
  F1 s a1 a2 a3 a4 a5 a6 a7 a9 a10 a11 a12 La==0&&(btw x0 1 2&&((L14.length:Int)==a1&&((L19.length:Int)==a1&&((L24.length:Int)==a1&&(!iLt 5 x27 &&
    (btw x12 0 a1&&(btw x13 0 a1&&(PK L14 x12 x13 x4&&(btw x15 0 a1&&(btw x22 0 a1&&(Hx L16 a1&&(Hx L17 a1&&(Sp a3 x2&&(btw x11 0 (IntKind.i64.wrap (a4 - 1)) &&
      (!IH ET (Ug x1 x3 x5 x6 x7 x8 x9 x10 x21 x23 x25 x26) && !IH ET L19)))))))))))))))
section
variable (N:Nat) (s:ByteArray) (a1 a2 a3 a4 a5 a6 a7 a9 a10 a11 a12:Int) (a8:Bool) (La:Rows) (L14 L16 L17 L19 L24:Rows) (b18 b20:Bool) (x0 x1 x2 x3 x4 x5 x6 x7 x8 x9 x10 x11 x12 x13 x15 x21 x22 x23 x25 x26 x27:Int)
theorem Qf (hN:2097152<N) (hs:s.size≤1048576) (h14:L14.length≤1048576) (h16:L16.length≤1048576) (h17:L17.length≤1048576) (h19:L19.length≤1048576):BA N ([.str s,.int a1,.int a2,.int a3,.int a4,.int a5,.int a6,.int a7,.bool a8,.int a9,.int a10,.int a11,.int a12,.rows La]++lsI L14 L16 L17 L19 L24 b18 b20 x0 x1 x2 x3 x4 x5 x6 x7 x8 x9 x10 x11 x12 x13 x15 x21 x22 x23 x25 x26 x27)=some [.bool (Ri s a1 a2 a3 a4 a5 a6 a7 a9 a10 a11 a12 La L14 L16 L17 L19 L24 x0 x1 x2 x3 x4 x5 x6 x7 x8 x9 x10 x11 x12 x13 x15 x21 x22 x23 x25 x26 x27)]:=by
 simp only [lsI,List.cons_append,List.nil_append];show EA (std (BU N) N) (xOf _)=_;have e1:∀ ls,BU N 17 [] ls=AY N ls:=fun ls=>rfl
 have e2:∀ ls,BU N 39 [] ls=AX N ls:=fun ls=>rfl
 have e3:∀ ls,BU N 40 [] ls=CM N ls:=fun ls=>rfl
 have e4:∀ ls,BU N 41 [] ls=B1 N ls:=fun ls=>rfl
 have e5:∀ ls,BU N 42 [] ls=CO N ls:=fun ls=>rfl
 have l54:=OC N L14 L16 L17 L19 L24 b18 b20 x0 x1 x2 x3 x4 x5 x6 x7 x8 x9 x10 x11 x12 x13 x15 x21 x22 x23 x25 x26 x27 a1 (by omega) (by omega);have l56:=Nq N L14 L16 L17 L19 L24 b18 b20 x0 x1 x2 x3 x4 x5 x6 x7 x8 x9 x10 x11 x12 x13 x15 x21 x22 x23 x25 x26 x27 (by omega) (by omega);simp only [lsI,List.cons_append,List.nil_append] at l54 l56;simp only [EA,Alg.q,std,xOf,PXb,PXc,PXn,Ac,e1,e2,e3,e4,e5,LG N s _ _ _ _ _ _ _ _ _ _ _ _ _ hN hs,Cs,l54,l56,GO N L16 _ (by omega) (by omega),GO N L17 _ (by omega) (by omega)];unfold Ri Sp;cases hc:F1 s a1 a2 a3 a4 a5 a6 a7 a9 a10 a11 a12 La==0<;>try rfl
 cases btw x0 1 2<;>try rfl
 cases h14:(L14.length:Int)==a1<;>try rfl
 cases (L19.length:Int)==a1<;>try rfl
 cases (L24.length:Int)==a1<;>try rfl
 cases iLt 5 x27<;>try rfl
 rw [Zp L14 x12 x13 x4 a1 (beq_iff_eq.1 h14)];cases btw x12 0 a1<;>try rfl
 cases btw x13 0 a1<;>try rfl
 cases PK L14 x12 x13 x4<;>try rfl
 cases btw x15 0 a1<;>try rfl
 cases btw x22 0 a1<;>try rfl
 cases Hx L16 a1<;>try rfl
 cases Hx L17 a1<;>try rfl
 cases a3==0<;>cases x2==0<;>cases btw x2 1 a3<;>rfl
end
end Go.Px
end
section
namespace Go.Px
set_option maxRecDepth 100000
theorem Wn {c:Int} {n:Nat} (hc:0≤c):iRg 0 (cond (iLt c (n:Int)) c (n:Int)) (n:Int)=true:=by
 cases h:iLt c (n:Int) with
 | true=>simp only [iLt,decide_eq_true_eq] at h;simp only [cond_true,iRg,decide_eq_true_eq];omega
 | false=>simp only [cond_false,iRg,decide_eq_true_eq];omega
def cut (L:Rows) (c:Int):Rows:=(L.take (cond (iLt c (L.length:Int)) c (L.length:Int)).toNat).drop (0:Int).toNat
def X1 (s:ByteArray) (c:Int):ByteArray:=s.extract (0:Int).toNat (cond (iLt c (s.size:Int)) c (s.size:Int)).toNat
theorem Xx (s:ByteArray) (c:Int):(X1 s c).size≤s.size:=by
 unfold X1;rw [ByteArray.size_extract];omega
end Go.Px
end
section
namespace Go.Px
set_option maxRecDepth 100000
section
variable (N:Nat) (s:ByteArray) (a1 a2 a3 a4 a5 a6 a7 a9 a10 a11 a12:Int) (a8:Bool) (La:Rows) (L14 L16 L17 L19 L24:Rows) (b18 b20:Bool) (x0 x1 x2 x3 x4 x5 x6 x7 x8 x9 x10 x11 x12 x13 x15 x21 x22 x23 x25 x26 x27:Int)
def JN (a4 x10 x11:Int):Int:=IntKind.i64.wrap (IntKind.i64.wrap (x10 * a4)+x11)
end
end Go.Px
end
section
namespace Go.Px
set_option maxRecDepth 100000
def Km (r:Rul):Int:=F1 r.name r.side r.innings r.overs r.balls r.quota r.wide r.noball r.newball r.followon r.reviews r.outside r.power
theorem Ts {N:Nat} {r1 r2 r3 r4 r5 r6 r7 r9 r10 r11 r12:Int} {r8:Bool} {r0:ByteArray} {r13:Rows} (hN:2097152<N) (hs:r0.size≤1048576):AY N [.str r0,.int r1,.int r2,.int r3,.int r4,.int r5,.int r6,.int r7,.bool r8,.int r9,.int r10,.int r11,.int r12,.rows r13]=some [.int (Km (⟨r0,r1,r2,r3,r4,r5,r6,r7,r8,r9,r10,r11,r12,r13⟩:Rul))]:=by
 exact LG N _ _ _ _ _ _ _ _ _ _ _ _ _ _ hN hs
def inc (x:Int):Int:=IntKind.i64.wrap (x+1)
end Go.Px
end
section
namespace Go.Px
set_option maxRecDepth 100000
structure Cre where
 batter:Int
 wides:Int
 noballs:Int
 byes:Int
 legbyes:Int
 bowler:Int
 counts:Bool
 faced:Bool
 wicket:Bool
 swap:Bool
def Cre.ls (c:Cre):List PV:=[.int c.batter,.int c.wides,.int c.noballs,.int c.byes,.int c.legbyes,.int c.bowler,.bool c.counts,.bool c.faced,.bool c.wicket,.bool c.swap]
end Go.Px
end
section
namespace Go.Px
set_option maxRecDepth 100000
def uB (k:Int):Bool:=k==4
theorem c4 {c x x' y y':Bool} {a b d z z':Int} (h1:x=x') (h2:y=y') (h3:z=z'):(some [PV.int (cond c a (cond x b (cond y d z)))]:Option (List PV))=some [PV.int (cond c a (cond x' b (cond y' d z')))]:=by subst h1;subst h2;subst h3;rfl
end Go.Px
end
