/- Part 12. -/
import Derived.Test.YtokmalmdcihogabGreatPart09
import Derived.Test.YtokmalmdcihogabGreatPart11
set_option linter.unusedVariables false
set_option linter.unusedSimpArgs false
variable {s0 s1 s2 s3 s4 s5 s6 s7 s8 s9 s10 s11 s12 s13 s15 s21 s22 s23 s25 s26 s27:Int}
variable {s14 s16 s17 s19 s24:Go.Px.Rows}
variable {r1 r2 r3 r4 r5 r6 r7 r9 r10 r11 r12:Int}
variable {d0 d1 d2 d3 d4 d6 d7 d8 d9 d11:Int}
section
namespace Go.Px
set_option maxRecDepth 100000
theorem Gv {N:Nat} {s18 s20:Bool} (h:Fit s14 s16 s17 s19 s24):Au N [.int s0,.int s1,.int s2,.int s3,.int s4,.int s5,.int s6,.int s7,.int s8,.int s9,.int s10,.int s11,.int s12,.int s13,.rows s14,.int s15,.rows s16,.rows s17,.bool s18,.rows s19,.bool s20,.int s21,.int s22,.int s23,.rows s24,.int s25,.int s26,.int s27]=some [.int s0,.int s1,.int s2,.int s3,.int s4,.int s5,.int s6,.int s7,.int s8,.int s9,.int s10,.int s11,.int s12,.int s13,.rows s14,.int s15,.rows s16,.rows s17,.bool s18,.rows s19,.bool s20,.int s21,.int s22,.int s23,.rows s24,.int s25,.int s26,.int s27]:=by
 show Mf (std (Gx N) N) (xOf _)=_;simp only [Mf,K8,M7,Mx,lq9,std,xOf,PXb,PXc,PXn,PXm,Nat.reduceAdd,Int.reduceBEq,AS,Aa,AX,BZ h.bt (show 1≤4096 by omega),BZ h.bw' (show 8≤4096 by omega),BZ h.bf (show 8≤4096 by omega),BZ h.bd (show 8≤4096 by omega),BZ h.sb (show 1≤4096 by omega)]
theorem Gl {N:Nat} {s18 s20:Bool} {p:Int}  : Av N [.int s0,.int s1,.int s2,.int s3,.int s4,.int s5,.int s6,.int s7,.int s8,.int s9,.int s10,.int s11,.int s12,.int s13,.rows s14,.int s15,.rows s16,.rows s17,.bool s18,.rows s19,.bool s20,.int s21,.int s22,.int s23,.rows s24,.int s25,.int s26,.int s27,.int p]=some [.bool (inR p s14.length)]:=by
 show Jp (std (RU N) N) (xOf _)=_;simp only [Jp,lq9,std,xOf,PXb,PXc,PXn,PXm,Nat.reduceAdd,Int.reduceBEq];rfl
def Af (s:Inn) (d:Del):Inn :=
  let odd := !(d.runs.tmod 2==0) != d.crossed
  let t:Inn:=cond odd { s with striker:=s.other,other:=s.striker } s
  let k:Bool:=d.how==0
  cond (!k&&(d.victim==1 && !(s.striker==0)))
    { t with striker:=cond odd t.striker 0,other:=cond odd 0 t.other,batters:=cond (inR s.striker s.batters.length) (Nf s.batters s.striker 2) s.batters,wickets:=IntKind.i64.wrap (s.wickets+1) }
    (cond (!k&&(d.victim==2 && !(s.other==0)))
      { t with striker:=cond odd 0 t.striker,other:=cond odd t.other 0,batters:=cond (inR s.other s.batters.length) (Nf s.batters s.other 2) s.batters,wickets:=IntKind.i64.wrap (s.wickets+1) }
      t)
theorem jw {N:Nat} {s18 s20:Bool} {d5 d10:Bool} (h:Fit s14 s16 s17 s19 s24):JE N [.int s0,.int s1,.int s2,.int s3,.int s4,.int s5,.int s6,.int s7,.int s8,.int s9,.int s10,.int s11,.int s12,.int s13,.rows s14,.int s15,.rows s16,.rows s17,.bool s18,.rows s19,.bool s20,.int s21,.int s22,.int s23,.rows s24,.int s25,.int s26,.int s27,.int d0,.int d1,.int d2,.int d3,.int d4,.bool d5,.int d6,.int d7,.int d8,.int d9,.bool d10,.int d11]=some (Af (⟨s0,s1,s2,s3,s4,s5,s6,s7,s8,s9,s10,s11,s12,s13,s14,s15,s16,s17,s18,s19,s20,s21,s22,s23,s24,s25,s26,s27⟩:Inn) (⟨d0,d1,d2,d3,d4,d5,d6,d7,d8,d9,d10,d11⟩:Del)).ls:=by
 show MH (std (JK N) N) (xOf _)=_;simp only [MH,Ro,QW,lq9,std,xOf,PXb,PXc,PXn,PXm,Nat.reduceAdd,Int.reduceBEq,Gv h,Gl,ui h.bt];unfold Af;cases d5<;>cases d2.tmod 2==0<;>cases d6==0<;>cases d7==1<;>cases d7==2<;>cases s12==0<;>cases s13==0<;>rfl
def Hy (s:Inn):Inn:={ s with striker:=s.other,other:=s.striker }
theorem cX {N:Nat} {s18 s20:Bool} (h:Fit s14 s16 s17 s19 s24):Fq N [.int s0,.int s1,.int s2,.int s3,.int s4,.int s5,.int s6,.int s7,.int s8,.int s9,.int s10,.int s11,.int s12,.int s13,.rows s14,.int s15,.rows s16,.rows s17,.bool s18,.rows s19,.bool s20,.int s21,.int s22,.int s23,.rows s24,.int s25,.int s26,.int s27]=some (Hy (⟨s0,s1,s2,s3,s4,s5,s6,s7,s8,s9,s10,s11,s12,s13,s14,s15,s16,s17,s18,s19,s20,s21,s22,s23,s24,s25,s26,s27⟩:Inn)).ls:=by
 show IA (std (J8 N) N) (xOf _)=_;simp only [IA,PJ,lq9,std,xOf,PXb,PXc,PXn,PXm,Nat.reduceAdd,Int.reduceBEq,Gv h];rfl
theorem Zt {N:Nat} {v:Int}  : Cr N [.int v]=some [.bool (!(v==0))]:=by
 show LA (std (O0 N) N) (xOf _)=_;rfl
theorem YJ {N:Nat} {v:Int}  : EB N [.int v]=some [.bool (!(v==0))]:=by
 show Ju (std (NK N) N) (xOf _)=_;rfl
theorem Ts {N:Nat} {s18 s20:Bool} (h:s14.length≤1048576) (hN:2097152<N):Bz N [.int s0,.int s1,.int s2,.int s3,.int s4,.int s5,.int s6,.int s7,.int s8,.int s9,.int s10,.int s11,.int s12,.int s13,.rows s14,.int s15,.rows s16,.rows s17,.bool s18,.rows s19,.bool s20,.int s21,.int s22,.int s23,.rows s24,.int s25,.int s26,.int s27]=some [.bool (C2 s14)]:=by
 show Eb (std (Ej N) N) (xOf _)=_;simp only [Eb,GB,lq9,std,xOf,PXb,PXc,PXn,AG];rw [show C2 s14=iLe 0 (O8 (fun i => !(atI s14 i 0==0)) s14.length) from (Jr _ _).symm];rw [Option.bind_assoc];refine Ad (C6 (len:=s14.length) (F4 fun i => !(atI s14 i 0==0)) ?_ ?_ s14.length 0 N (by omega) (by omega)) ?_
 ·intro self;simp only [PXb,PXc,PXn,AG,Bh]
 ·intro i self hi;simp only [PXb,PXc,PXn,AG,BC (show i≤1099511627776 by omega),BR hi,Ax hi,F4,Dw,GB,Zt];cases atI s14 i 0==0<;>rfl
 ·unfold O8;cases CC (F4 fun i => !(atI s14 i 0==0)) s14.length 0<;>rfl
theorem cM {N:Nat} {s18 s20:Bool} (h:s14.length≤1048576) (hN:2097152<N):FQ N [.int s0,.int s1,.int s2,.int s3,.int s4,.int s5,.int s6,.int s7,.int s8,.int s9,.int s10,.int s11,.int s12,.int s13,.rows s14,.int s15,.rows s16,.rows s17,.bool s18,.rows s19,.bool s20,.int s21,.int s22,.int s23,.rows s24,.int s25,.int s26,.int s27]=some [.bool (C2 s14)]:=by
 show IY (std (J1 N) N) (xOf _)=_;simp only [IY,FB,lq9,std,xOf,PXb,PXc,PXn,AG];rw [show C2 s14=iLe 0 (O8 (fun i => !(atI s14 i 0==0)) s14.length) from (Jr _ _).symm];rw [Option.bind_assoc];refine Ad (C6 (len:=s14.length) (F4 fun i => !(atI s14 i 0==0)) ?_ ?_ s14.length 0 N (by omega) (by omega)) ?_
 ·intro self;simp only [PXb,PXc,PXn,AG,Bh]
 ·intro i self hi;simp only [PXb,PXc,PXn,AG,BC (show i≤1099511627776 by omega),BR hi,Ax hi,F4,Dw,FB,YJ];cases atI s14 i 0==0<;>rfl
 ·unfold O8;cases CC (F4 fun i => !(atI s14 i 0==0)) s14.length 0<;>rfl
theorem Ry {N:Nat} {s18 s20:Bool} (h:s14.length≤1048576) (hN:2097152<N):BI N [.int s0,.int s1,.int s2,.int s3,.int s4,.int s5,.int s6,.int s7,.int s8,.int s9,.int s10,.int s11,.int s12,.int s13,.rows s14,.int s15,.rows s16,.rows s17,.bool s18,.rows s19,.bool s20,.int s21,.int s22,.int s23,.rows s24,.int s25,.int s26,.int s27]=some [.bool (GV s14 s12 s13)]:=by
 show Du (std (D7 N) N) (xOf _)=_;simp only [Du,NS,lq9,std,xOf,PXb,PXc,PXn,PXm,Nat.reduceAdd,Int.reduceBEq,Ts h hN];rfl
theorem fk {N:Nat} {s18 s20:Bool} (h:s14.length≤1048576) (hN:2097152<N):Ck N [.int s0,.int s1,.int s2,.int s3,.int s4,.int s5,.int s6,.int s7,.int s8,.int s9,.int s10,.int s11,.int s12,.int s13,.rows s14,.int s15,.rows s16,.rows s17,.bool s18,.rows s19,.bool s20,.int s21,.int s22,.int s23,.rows s24,.int s25,.int s26,.int s27]=some [.rows (EI s14 s14.length)]:=by
 show FL (std (MX N) N) (xOf _)=_;simp only [FL,lq9,std,xOf,PXb,PXc,PXn,AG];refine Ad (DQ (len:=s14.length) (fun i=>[.rows (EI s14 i),.int (i:Int)]) [.rows (EI s14 s14.length)] ?_ ?_ N (by omega)) rfl
 ·intro self;simp only [PXb,PXc,PXn,AG,Bh]
 ·intro i self hi;have h2:(EI s14 i++[[PV.int ((i:Int)+1)]]).length≤4194304:=by have:=ZJ s14 i;simp;omega
  simp only [PXb,PXc,PXn,AG,BC (show i≤1099511627776 by omega),BR hi,Ax hi,Dw,EI,ID h2 (show 8≤4096 by omega)];cases (atI s14 i 0==0||atI s14 i 0==3)<;>rfl
def VH (s:Inn) (p q:Int):Inn×Int :=
  cond (C2 s.batters) (s,1) (cond (!inR p s.batters.length || !inR q s.batters.length) (s,3) (cond (p==q) (s,4)
    ({ s with batters:=Nf (Nf s.batters p 1) q 1,striker:=p,other:=q },0)))
theorem gL {N:Nat} {s18 s20:Bool} {p:Int} {q:Int} (h:Fit s14 s16 s17 s19 s24) (hN:2097152<N):Hl N [.int s0,.int s1,.int s2,.int s3,.int s4,.int s5,.int s6,.int s7,.int s8,.int s9,.int s10,.int s11,.int s12,.int s13,.rows s14,.int s15,.rows s16,.rows s17,.bool s18,.rows s19,.bool s20,.int s21,.int s22,.int s23,.rows s24,.int s25,.int s26,.int s27,.int p,.int q]=some (BG (VH (⟨s0,s1,s2,s3,s4,s5,s6,s7,s8,s9,s10,s11,s12,s13,s14,s15,s16,s17,s18,s19,s20,s21,s22,s23,s24,s25,s26,s27⟩:Inn) p q)):=by
 show Ku (std (Fp N) N) (xOf _)=_;generalize hres:(some (BG (VH (⟨s0,s1,s2,s3,s4,s5,s6,s7,s8,s9,s10,s11,s12,s13,s14,s15,s16,s17,s18,s19,s20,s21,s22,s23,s24,s25,s26,s27⟩:Inn) p q)):Option (List PV))=RR;simp only [Ku,RX,PG,PO,lq9,std,xOf,PXb,PXc,PXn,PXm,Nat.reduceAdd,Int.reduceBEq,Gv h,Ts h.bt hN,Gl];subst hres;simp only [VH];cases C2 s14<;>try rfl
 cases hp:inR p s14.length<;>cases hq:inR q s14.length<;>try rfl
 rw [Kj hp h.bt,Kj hq h.bt];cases p==q<;>rfl
def Ny (s:Inn) (p:Int):Int :=
 cond (!inR p s.batters.length) 3 (cond (!GV s.batters s.striker s.other||atI s.batters (ix p) 0==1) 4 (cond (atI s.batters (ix p) 0==2) 5 0))
theorem XZ {N:Nat} {s18 s20:Bool} {p:Int} (h:s14.length≤1048576) (hN:2097152<N):Dh N [.int s0,.int s1,.int s2,.int s3,.int s4,.int s5,.int s6,.int s7,.int s8,.int s9,.int s10,.int s11,.int s12,.int s13,.rows s14,.int s15,.rows s16,.rows s17,.bool s18,.rows s19,.bool s20,.int s21,.int s22,.int s23,.rows s24,.int s25,.int s26,.int s27,.int p]=some [.int (Ny (⟨s0,s1,s2,s3,s4,s5,s6,s7,s8,s9,s10,s11,s12,s13,s14,s15,s16,s17,s18,s19,s20,s21,s22,s23,s24,s25,s26,s27⟩:Inn) p)]:=by
 show MF (std (Je N) N) (xOf _)=_;generalize hres:(some [.int (Ny (⟨s0,s1,s2,s3,s4,s5,s6,s7,s8,s9,s10,s11,s12,s13,s14,s15,s16,s17,s18,s19,s20,s21,s22,s23,s24,s25,s26,s27⟩:Inn) p)]:Option (List PV))=RR;simp only [MF,O9,Qa,lq9,std,xOf,PXb,PXc,PXn,PXm,Nat.reduceAdd,Int.reduceBEq,Gl,Ry h hN];subst hres;simp only [Ny];cases hp:inR p s14.length<;>try rfl
 rw [Kj hp h];cases GV s14 s12 s13<;>try rfl
 simp only [PXb,PXc,PXn,PXm,Nat.reduceAdd,Int.reduceBEq,atI,ix]
theorem fI {s:Inn} {p:Int} (h:(Ny s p==0)=true):inR p s.batters.length=true:=by
 unfold Ny at h;cases hp:inR p s.batters.length with
 | true=>rfl
 | false=>rw [hp] at h;cases h
def Ol (s:Inn) (p:Int):Inn×Int :=
 cond (Ny s p==0) ({ s with batters:=Nf s.batters p 1,striker:=cond (s.striker==0) p s.striker,other:=cond (s.striker==0) s.other p },0) (s,Ny s p)
def HU (s:Inn) (p:Int):Inn×Int :=
 cond (Ny s p==0) ({ s with batters:=Nf s.batters p 2,wickets:=IntKind.i64.wrap (s.wickets+1) },0) (s,Ny s p)
theorem dk {N:Nat} {s18 s20:Bool} {p:Int} (h:Fit s14 s16 s17 s19 s24) (hN:2097152<N):Gt N [.int s0,.int s1,.int s2,.int s3,.int s4,.int s5,.int s6,.int s7,.int s8,.int s9,.int s10,.int s11,.int s12,.int s13,.rows s14,.int s15,.rows s16,.rows s17,.bool s18,.rows s19,.bool s20,.int s21,.int s22,.int s23,.rows s24,.int s25,.int s26,.int s27,.int p]=some (BG (Ol (⟨s0,s1,s2,s3,s4,s5,s6,s7,s8,s9,s10,s11,s12,s13,s14,s15,s16,s17,s18,s19,s20,s21,s22,s23,s24,s25,s26,s27⟩:Inn) p)):=by
 show Jl (std (HM N) N) (xOf _)=_;generalize hres:(some (BG (Ol (⟨s0,s1,s2,s3,s4,s5,s6,s7,s8,s9,s10,s11,s12,s13,s14,s15,s16,s17,s18,s19,s20,s21,s22,s23,s24,s25,s26,s27⟩:Inn) p)):Option (List PV))=RR;simp only [Jl,Qd,P1,lq9,std,xOf,PXb,PXc,PXn,PXm,Nat.reduceAdd,Int.reduceBEq,Gv h,XZ h.bt hN];subst hres;simp only [Ol];cases hm:Ny (⟨s0,s1,s2,s3,s4,s5,s6,s7,s8,s9,s10,s11,s12,s13,s14,s15,s16,s17,s18,s19,s20,s21,s22,s23,s24,s25,s26,s27⟩:Inn) p==0<;>try rfl
 rw [Kj (fI hm) h.bt];cases s12==0<;>rfl
theorem ZB {N:Nat} {s18 s20:Bool} {p:Int} (h:Fit s14 s16 s17 s19 s24) (hN:2097152<N):Ey N [.int s0,.int s1,.int s2,.int s3,.int s4,.int s5,.int s6,.int s7,.int s8,.int s9,.int s10,.int s11,.int s12,.int s13,.rows s14,.int s15,.rows s16,.rows s17,.bool s18,.rows s19,.bool s20,.int s21,.int s22,.int s23,.rows s24,.int s25,.int s26,.int s27,.int p]=some (BG (HU (⟨s0,s1,s2,s3,s4,s5,s6,s7,s8,s9,s10,s11,s12,s13,s14,s15,s16,s17,s18,s19,s20,s21,s22,s23,s24,s25,s26,s27⟩:Inn) p)):=by
 show HF (std (Da N) N) (xOf _)=_;generalize hres:(some (BG (HU (⟨s0,s1,s2,s3,s4,s5,s6,s7,s8,s9,s10,s11,s12,s13,s14,s15,s16,s17,s18,s19,s20,s21,s22,s23,s24,s25,s26,s27⟩:Inn) p)):Option (List PV))=RR;simp only [HF,Ov,ND,Ow,lq9,std,xOf,PXb,PXc,PXn,PXm,Nat.reduceAdd,Int.reduceBEq,Gv h,XZ h.bt hN,Gl];subst hres;simp only [HU];cases hm:Ny (⟨s0,s1,s2,s3,s4,s5,s6,s7,s8,s9,s10,s11,s12,s13,s14,s15,s16,s17,s18,s19,s20,s21,s22,s23,s24,s25,s26,s27⟩:Inn) p==0<;>try rfl
 have hk:inR p s14.length=true:=fI hm;rw [Kj hk h.bt,hk];rfl
def Jk (s:Inn) (p:Int) (hurt:Bool):Inn×Int :=
  cond (!inR p s.batters.length) (s,3) (cond (s.striker==0||s.other==0) (s,6) (cond (!(p==s.striker) && !(p==s.other)) (s,4)
    (cond (hurt&&((EI s.batters s.batters.length).length:Int)==0) (s,19)
      ({ s with striker:=cond (p==s.striker) 0 s.striker,other:=cond (p==s.striker) s.other 0,batters:=Nf s.batters p (cond hurt 3 2),wickets:=cond hurt s.wickets (IntKind.i64.wrap (s.wickets+1)) },0))))
theorem cw {N:Nat} {s18 s20:Bool} {p:Int} {b:Bool} (h:Fit s14 s16 s17 s19 s24) (hN:2097152<N):Ft N [.int s0,.int s1,.int s2,.int s3,.int s4,.int s5,.int s6,.int s7,.int s8,.int s9,.int s10,.int s11,.int s12,.int s13,.rows s14,.int s15,.rows s16,.rows s17,.bool s18,.rows s19,.bool s20,.int s21,.int s22,.int s23,.rows s24,.int s25,.int s26,.int s27,.int p,.bool b]=some (BG (Jk (⟨s0,s1,s2,s3,s4,s5,s6,s7,s8,s9,s10,s11,s12,s13,s14,s15,s16,s17,s18,s19,s20,s21,s22,s23,s24,s25,s26,s27⟩:Inn) p b)):=by
 show IH (std (EG N) N) (xOf _)=_;generalize hres:(some (BG (Jk (⟨s0,s1,s2,s3,s4,s5,s6,s7,s8,s9,s10,s11,s12,s13,s14,s15,s16,s17,s18,s19,s20,s21,s22,s23,s24,s25,s26,s27⟩:Inn) p b)):Option (List PV))=RR;simp only [IH,Og,O7,Nw,lq9,std,xOf,PXb,PXc,PXn,PXm,Nat.reduceAdd,Int.reduceBEq,Gv h,Gl,fk h.bt hN];subst hres;simp only [Jk];cases hp:inR p s14.length<;>try rfl
 rw [Kj hp h.bt];cases s12==0<;>cases s13==0<;>try rfl
 cases p==s12<;>cases p==s13<;>cases b<;>try rfl
 all_goals (simp only [PXb,PXc,PXn,PXm,Nat.reduceAdd,Int.reduceBEq];cases ((EI s14 s14.length).length:Int)==0<;>rfl)
def btw (a b c:Int):Bool:=iLe b a&&iLe a c
theorem DX (N:Nat) (a b c:Int):Ag N [.int a,.int b,.int c]=some [.bool (btw a b c)]:=by
 show some [PV.bool (cond (iLe b a) (iLe a c) false)]=_;rw [cZ];rfl
theorem K9 (N:Nat) (a b c:Int):CX N [.int a,.int b,.int c]=some [.bool (btw a b c)]:=by
 show some [PV.bool (cond (iLe b a) (iLe a c) false)]=_;rw [cZ];rfl
def NW (x1 x2 x3 x4 x5 x6 x7 x9 x10 x11 x12:Int):Bool:=btw x1 2 11&&btw x2 1 2&&btw x3 0 90&&btw x4 4 8&&btw x5 0 90&&btw x6 1 5&&btw x7 1 5&&btw x9 0 200&&btw x10 0 1000&&btw x11 0 9&&btw x12 0 11
theorem ZN (N : Nat) (x0 : ByteArray) (x1 x2 x3 x4 x5 x6 x7 x9 x10 x11 x12 : Int) (x8 : Bool) (x13 : Rows) :
   F2 N [.str x0,.int x1,.int x2,.int x3,.int x4,.int x5,.int x6,.int x7,.bool x8,.int x9,.int x10,.int x11,.int x12,.rows x13]=some [.bool (NW x1 x2 x3 x4 x5 x6 x7 x9 x10 x11 x12)]:=by
  show IX (std (Jv N) N) (xOf _)=_;have e:∀ ls,Jv N 27 [] ls=CX N ls:=fun ls=>rfl
  simp only [IX,lq9,std,xOf,e,K9,PXb,PXc,PXn,AG,NW]
def X4 (s:ByteArray) (i:Nat):Bool := !(iLe 65 (OH s i)&&iLe (OH s i) 90)&&((i:Int)==0||((!(OH s i==95) && !(OH s i==45))&&(iLt (OH s i) 48||iLt 57 (OH s i))))
def XM (s:ByteArray):Bool := !Bd (X4 s) s.size 0&&(iLe 1 s.size&&iLe s.size 16)
theorem uQ (s:ByteArray):(CQ s).length=s.size:=by
 simp only [CQ,List.length_map,Array.length_toList];rfl
theorem ul (s:ByteArray) (i:Nat) (h:i<s.size):pvI (AF (CQ s) i 0)=OH s i:=by
 unfold AF AK AD CQ OH;simp only [zzl,List.getElem?_map];have:i<s.data.toList.length:=by simpa using h
 rw [zzo this];simp [zzo this]
theorem gx (N:Nat) (s:ByteArray) (hN:s.size<N) (hs:s.size≤1048576):KP N [.str s]=some [.bool (XM s)]:=by
 show OO (std (Vz N) N) (xOf _)=_;simp only [OO,lq9,std,xOf,uQ,PXb,PXc,PXn,AG];refine Ad (LD (len:=s.size) (X4 s) [.bool false] ?_ ?_ N hN) ?_
 ·intro self;simp only [PXb,PXc,PXn,AG,Bh]
 ·intro i self hi;simp only [PXb,PXc,PXn,AG,Int.toNat_natCast,ul s i hi,BC (show i≤1099511627776 by omega),BR hi,Ax hi,X4]
 ·unfold XM;cases Bd (X4 s) s.size 0<;>rfl
theorem sH {i len:Nat} (h:i<len) (hl:len≤1099511627776):(!iLt 0 (i:Int)||iIn (IntKind.i64.wrap ((i:Int) - 1)) (len:Int))=true:=by
 rw [Bg (by omega) (by omega)];simp only [iLt,iIn,Bool.or_eq_true,Bool.not_eq_true',decide_eq_false_iff_not,decide_eq_true_eq];omega
def rP (L:Rows) (ov:Int) (i:Nat):Bool:=(iLt (atI L i 0) 1||iLt (atI L i 1) (atI L i 0)||iLt ov (atI L i 1)) || !btw (atI L i 2) 0 11
def pO (L:Rows) (i:Nat):Bool:=iLt 0 (i:Int)&&iLe (atI L i 0) (pvI (AF L (IntKind.i64.wrap ((i:Int) - 1)).toNat 1))
def mX (L:Rows) (ov:Int) (i:Nat):Option (List PV):=cond (rP L ov i) (some [.int 2]) (cond (pO L i) (some [.int 8]) none)
def pA:Option (List PV)→Int
 | none=>0
 | some r=>pvI (AD r 0)
def jZ (L:Rows) (ov:Int):Int:=cond (iLt 8 (L.length:Int)) 9 (pA (CC (mX L ov) L.length 0))
theorem bz (o:Option (List PV)):cond (pvI (AD (X5 o) 0)==((0:Nat):Int)) (some [PV.int (pvI (AD (X5 o) 1))]) (some [PV.int 0])=some [PV.int (pA o)]:=by
 cases o<;>rfl
theorem bV (N : Nat) (x0 : ByteArray) (x1 x2 x3 x4 x5 x6 x7 x9 x10 x11 x12 : Int) (x8 : Bool) (L : Rows) (hN : 2097152 < N) :
   Gj N [.str x0,.int x1,.int x2,.int x3,.int x4,.int x5,.int x6,.int x7,.bool x8,.int x9,.int x10,.int x11,.int x12,.rows L]=some [.int (jZ L x3)]:=by
  show JQ (std (LM N) N) (xOf _)=_;have e:∀ ls,LM N 27 [] ls=CX N ls:=fun ls=>rfl
  simp only [JQ,lq9,std,xOf,e,K9,PXb,PXc,PXn,AG,jZ];cases h8:iLt 8 (L.length:Int) with
  | true=>rfl
  | false =>
    have hl:L.length≤8:=by simp [iLt] at h8;omega
    simp only [cond_false];refine Ad (C6 (len:=L.length) (mX L x3) ?_ ?_ L.length 0 N (by omega) (by omega)) ?_
    · intro self;simp only [PXb,PXc,PXn,AG,Bh]
    · intro i self hi;simp only [PXb,PXc,PXn,AG,Int.toNat_natCast,BC (show i≤1099511627776 by omega),BR hi,Ax hi,K9,e,sH hi (by omega)];simp only [mX,rP,pO,atI];cases (iLt (pvI (AF L i 0)) 1||iLt (pvI (AF L i 1)) (pvI (AF L i 0))||iLt x3 (pvI (AF L i 1)) || !btw (pvI (AF L i 2)) 0 11) <;>
      cases (iLt 0 (i:Int)&&iLe (pvI (AF L i 0)) (pvI (AF L (IntKind.i64.wrap ((i:Int) - 1)).toNat 1)))<;>rfl
    · exact bz _
def LP (x0:ByteArray) (x1 x2 x3 x4 x5 x6 x7 x9 x10 x11 x12:Int) (L:Rows):Int :=
  cond (!XM x0) 5 (cond (!NW x1 x2 x3 x4 x5 x6 x7 x9 x10 x11 x12) 2
    (cond ((!(x10==0)&&x2==1)||((!(x5==0)||iLt 0 (L.length:Int))&&x3==0)) 1
      (cond (!(x5==0)&&iLt (IntKind.i64.wrap (x5 * x1)) x3) 13 (jZ L x3))))
theorem UA (N : Nat) (x0 : ByteArray) (x1 x2 x3 x4 x5 x6 x7 x9 x10 x11 x12 : Int) (x8 : Bool) (L : Rows) (hN : 2097152 < N) (hs : x0.size ≤ 1048576) :
   AN N [.str x0,.int x1,.int x2,.int x3,.int x4,.int x5,.int x6,.int x7,.bool x8,.int x9,.int x10,.int x11,.int x12,.rows L]=some [.int (LP x0 x1 x2 x3 x4 x5 x6 x7 x9 x10 x11 x12 L)]:=by
  show Kq (std (Fm N) N) (xOf _)=_;have e:∀ ls,Fm N 14 [] ls=KP N ls:=fun ls=>rfl
  have e2:∀ ls,Fm N 15 [] ls=F2 N ls:=fun ls=>rfl
  have e3:∀ ls,Fm N 16 [] ls=Gj N ls:=fun ls=>rfl
  simp only [Kq,lq9,std,xOf,e,e2,e3,gx N x0 (by omega) hs,ZN,bV N _ _ _ _ _ _ _ _ _ _ _ _ _ _ hN,PXb,PXc,AG,LP];cases XM x0<;>cases NW x1 x2 x3 x4 x5 x6 x7 x9 x10 x11 x12<;>try rfl
  simp only [PXb,PXc,AG,Bool.not_true];cases (!(x10==0)&&x2==1)<;>cases ((!(x5==0)||iLt 0 (L.length:Int))&&x3==0)<;>try rfl
  cases (!(x5==0)&&iLt (IntKind.i64.wrap (x5 * x1)) x3)<;>rfl
theorem V6 (N:Nat) (L:Rows) (v:Int) (hN:L.length<N) (hl:L.length≤2097152):De N [.rows L,.int v]=some [.int (O8 (fun j=>v==atI L j 0) L.length)]:=by
 show Fi (std (Mh N) N) (xOf _)=_;simp only [Fi,lq9,std,xOf,PXb,PXc,PXn,AG];refine Ad (C6 (len:=L.length) (F4 fun j=>v==atI L j 0) ?_ ?_ L.length 0 N (by omega) (by omega)) ?_
 ·intro self;simp only [PXb,PXc,PXn,AG,Bh]
 ·intro i self hi;simp only [PXb,PXc,PXn,AG,BC (show i≤1099511627776 by omega),BR hi,Ax hi,F4,Dw];cases v==atI L i 0<;>rfl
 ·unfold O8;cases CC (F4 fun j=>v==atI L j 0) L.length 0<;>rfl
def J6 (L:Rows) (k:Nat) (v:Int):Bool:=Bd (fun j=>v==atI L j 0) k 0
theorem KX (N:Nat) (L:Rows) (v:Int) (hN:L.length<N) (hl:L.length≤2097152):Ap N [.rows L,.int v]=some [.bool (J6 L L.length v)]:=by
 show Dn (std (FF N) N) (xOf _)=_;have e:∀ ls,FF N 109 [] ls=De N ls:=fun ls=>rfl
 simp only [Dn,lq9,std,xOf,PXb,PXc,PXn,AG,e,V6 N L v hN hl,Jr,J6]
theorem qy (L:Rows) (i:Nat) (v:Int) (h:i≤L.length):J6 (L.take i) (L.take i).length v=J6 L i v:=by
 rw [List.length_take,Nat.min_eq_left h];exact aA i 0 (fun j _ hj=>by rw [qO (by omega)])
def Qe (L:Rows) (n:Int) (i:Nat):Bool := !btw (atI L i 0) 1 n||J6 L i (atI L i 0)
def KG (L:Rows) (n:Int):Bool := !Bd (Qe L n) L.length 0
theorem Mc (N:Nat) (L:Rows) (n:Int) (hN:L.length<N) (hl:L.length≤2097152):DH N [.rows L,.int n]=some [.bool (KG L n)]:=by
 show E2 (std (Dq N) N) (xOf _)=_;have e:∀ ls,Dq N 86 [] ls=Ag N ls:=fun ls=>rfl
 have e2:∀ ls,Dq N 101 [] ls=Ap N ls:=fun ls=>rfl
 simp only [E2,lq9,std,xOf,PXb,PXc,PXn,AG];refine Ad (LD (len:=L.length) (Qe L n) [.bool false] ?_ ?_ N hN) ?_
 ·intro self;simp only [PXb,PXc,PXn,AG,Bh]
 ·intro i self hi;have h1:(L.take i).length≤L.length:=List.length_take_le' i L;simp only [PXb,PXc,PXn,AG,BC (show i≤1099511627776 by omega),BR hi,Ax hi,e,e2,DX,ux (Nat.le_of_lt hi),Int.toNat_zero,List.drop_zero,KX N (L.take i) _ (by omega) (by omega),qy L i _ (by omega),Dw,Qe];cases btw (atI L i 0) 1 n<;>cases J6 L i (atI L i 0)<;>rfl
 ·unfold KG;cases Bd (Qe L n) L.length 0<;>rfl
theorem YD (N:Nat) (v:Int):Cr N [.int v]=some [.bool (!(v==0))]:=rfl
def lsI (L14 L16 L17 L19 L24:Rows) (b18 b20:Bool) (x0 x1 x2 x3 x4 x5 x6 x7 x8 x9 x10 x11 x12 x13 x15 x21 x22 x23 x25 x26 x27:Int):List PV :=
 [.int x0,.int x1,.int x2,.int x3,.int x4,.int x5,.int x6,.int x7,.int x8,.int x9,.int x10,.int x11,.int x12,.int x13,.rows L14,.int x15,.rows L16,.rows L17,.bool b18,.rows L19,.bool b20,.int x21,.int x22,.int x23,.rows L24,.int x25,.int x26,.int x27]
section
variable (N:Nat) (L14 L16 L17 L19 L24:Rows) (b18 b20:Bool) (x0 x1 x2 x3 x4 x5 x6 x7 x8 x9 x10 x11 x12 x13 x15 x21 x22 x23 x25 x26 x27:Int)
theorem aK (hN:L14.length<N) (hl:L14.length≤2097152):Bz N (lsI L14 L16 L17 L19 L24 b18 b20 x0 x1 x2 x3 x4 x5 x6 x7 x8 x9 x10 x11 x12 x13 x15 x21 x22 x23 x25 x26 x27)=some [.bool (C2 L14)]:=by
 show Eb (std (Ej N) N) (xOf (lsI ..))=_;have e:∀ ls,Ej N 146 [] ls=Cr N ls:=fun ls=>rfl
 simp only [Eb,lq9,std,xOf,lsI,PXb,PXc,PXn,AG];rw [show C2 L14=iLe 0 (O8 (fun i => !(atI L14 i 0==0)) L14.length) from (Jr _ _).symm];rw [Option.bind_assoc];refine Ad (C6 (len:=L14.length) (F4 fun i => !(atI L14 i 0==0)) ?_ ?_ L14.length 0 N (by omega) (by omega)) ?_
 ·intro self;simp only [PXb,PXc,PXn,AG,Bh]
 ·intro i self hi;simp only [PXb,PXc,PXn,AG,BC (show i≤1099511627776 by omega),BR hi,Ax hi,F4,Dw,e,YD];cases atI L14 i 0==0<;>rfl
 ·unfold O8;cases CC (F4 fun i => !(atI L14 i 0==0)) L14.length 0<;>rfl
theorem ZD (hN:L14.length<N) (hl:L14.length≤2097152):BI N (lsI L14 L16 L17 L19 L24 b18 b20 x0 x1 x2 x3 x4 x5 x6 x7 x8 x9 x10 x11 x12 x13 x15 x21 x22 x23 x25 x26 x27)=some [.bool (GV L14 x12 x13)]:=by
 show Du (std (D7 N) N) (xOf (lsI ..))=_;have e:∀ ls,D7 N 132 [] ls=Bz N ls:=fun ls=>rfl
 have:=aK N L14 L16 L17 L19 L24 b18 b20 x0 x1 x2 x3 x4 x5 x6 x7 x8 x9 x10 x11 x12 x13 x15 x21 x22 x23 x25 x26 x27 hN hl;simp only [lsI] at this;simp only [Du,lq9,std,xOf,lsI,PXb,PXc,PXn,AG,e,this,GV]
theorem eO (hN:L14.length<N) (hl:L14.length≤2097152):Ck N (lsI L14 L16 L17 L19 L24 b18 b20 x0 x1 x2 x3 x4 x5 x6 x7 x8 x9 x10 x11 x12 x13 x15 x21 x22 x23 x25 x26 x27)=some [.rows (EI L14 L14.length)]:=by
 show FL (std (MX N) N) (xOf (lsI ..))=_;simp only [FL,lq9,std,xOf,lsI,PXb,PXc,PXn,AG];refine Ad (DQ (len:=L14.length) (fun i=>[.rows (EI L14 i),.int (i:Int)]) [.rows (EI L14 L14.length)] ?_ ?_ N hN) rfl
 ·intro self;simp only [PXb,PXc,PXn,AG,Bh]
 ·intro i self hi;have h2:(EI L14 i++[[PV.int ((i:Int)+1)]]).length≤4194304:=by have:=ZJ L14 i;simp;omega
  simp only [PXb,PXc,PXn,AG,BC (show i≤1099511627776 by omega),BR hi,Ax hi,Dw,EI,ID h2 (show 8≤4096 by omega)];cases (atI L14 i 0==0||atI L14 i 0==3)<;>rfl
end
theorem UY (N:Nat) (v:Int):DN N [.int v]=some [.bool (!btw v 0 1000000000)]:=by
 show E9 (std (Gz N) N) (xOf _)=_;have e:∀ ls,Gz N 86 [] ls=Ag N ls:=fun ls=>rfl
 simp only [E9,lq9,std,xOf,PXb,PXc,PXn,AG,e,DX]
def pIs (L:Rows) (v:Int) (i:Nat):Bool:=atI L i 0==v
def Wi (s n:Int) (i:Nat):Bool:=s==(i:Int)+1||n==(i:Int)+1
def P6 (L:Rows) (s n:Int) (i:Nat):Bool:=iLt 3 (atI L i 0)||(pIs L 1 i && !Wi s n i)
def Z4 (L:Rows) (s n:Int) (i:Nat):Bool:=iLt 3 (atI L i 0) || !(pIs L 1 i==Wi s n i)
def Y5 (L:Rows):Int:=Ch (pIs L 2) L.length
def ins (L:Rows):Int:=Ch (pIs L 1) L.length
def two (s n:Int):Int:=cond (!(n==0)) (IntKind.i64.wrap (cond (!(s==0)) (IntKind.i64.wrap (0+1)) 0+1)) (cond (!(s==0)) (IntKind.i64.wrap (0+1)) 0)
def gd (L:Rows) (s n wk k:Int):Bool :=
 !Bd (P6 L s n) L.length 0&&((btw s 0 k&&btw n 0 k)&&(!(s==n && !(s==0))&&((two s n==ins L&&(!C2 L||iLt 0 (two s n)))&&Y5 L==wk)))
def X3 (L:Rows) (s n wk:Int):Bool :=
 !Bd (Z4 L s n) L.length 0&&(!((C2 L&&iLt (ins L) 1)||(!(s==0)&&s==n))&&wk==Y5 L)
def mo (L:Rows):Nat→Bool
 | 0=>false
 | i+1=>mo L i || !(atI L i 0==0)
theorem lZ (L:Rows):∀ i,mo L i=Bd (fun j => !(atI L j 0==0)) i 0
 | 0=>rfl
 | i+1=>by rw [XJ,Nat.zero_add,← lZ L i];rfl
section
variable (N:Nat) (L14 L16 L17 L19 L24:Rows) (b18 b20:Bool) (x0 x1 x2 x3 x4 x5 x6 x7 x8 x9 x10 x11 x12 x13 x15 x21 x22 x23 x25 x26 x27:Int)
theorem Wg (k:Int) (hN:L14.length<N) (hl:L14.length≤2097152):D3 N (lsI L14 L16 L17 L19 L24 b18 b20 x0 x1 x2 x3 x4 x5 x6 x7 x8 x9 x10 x11 x12 x13 x15 x21 x22 x23 x25 x26 x27++[.int k])=some [.bool (gd L14 x12 x13 x4 k)]:=by
  simp only [lsI,List.cons_append,List.nil_append];show GL (std (H2 N) N) (xOf _)=_;have e:∀ ls,H2 N 86 [] ls=Ag N ls:=fun ls=>rfl
  simp only [GL,lq9,std,xOf,lsI,PXb,PXc,PXn,AG];refine Ad (ZR (len:=L14.length) (fun i=>[.int (Ch (pIs L14 2) i),.int (Ch (pIs L14 1) i),.bool (mo L14 i),.int (i:Int)])
    (P6 L14 x12 x13) [.int 0,.bool false] [.int 1,.int (Y5 L14),.int (ins L14),.bool (C2 L14)] ?_ ?_ N hN) ?_
  · intro self;simp only [PXb,PXc,PXn,AG,Bh,lZ];rfl
  · intro i self hi;simp only [PXb,PXc,AG,BC (show i≤1099511627776 by omega),BR hi,Ax hi,Dw,kJ (pIs L14 2) (show i≤1099511627776 by omega),kJ (pIs L14 1) (show i≤1099511627776 by omega)];unfold P6 pIs Wi;simp only [Ch,mo];cases h3:iLt 3 (atI L14 i 0) with
    | true=>rfl
    | false =>
      cases h1:atI L14 i 0==1 with
      | true =>
        rw [tD h1];cases x12==(i:Int)+1<;>cases x13==(i:Int)+1<;>rfl
      | false=>cases h2:atI L14 i 0==2<;>rfl
  · unfold gd;simp only [e,DX];cases Bd (P6 L14 x12 x13) L14.length 0 with
    | true=>rfl
    | false =>
      simp only [PXb,PXc,PXn,AG];unfold two;cases btw x12 0 k<;>cases btw x13 0 k<;>try rfl
      cases x12==0<;>cases x13==0<;>cases x12==x13<;>try rfl
end
theorem tF (s n:Int):two s n=cond (!(s==0)) 1 0+cond (!(n==0)) 1 0:=by
 unfold two;cases s==0<;>cases n==0<;>rfl
theorem tG {s n:Int} {len:Nat} (h1:0≤s∧s≤(len:Int)) (h2:0≤n∧n≤(len:Int)) (hd:(s==n && !(s==0))=false):two s n=Ch (Wi s n) len:=by
 have hs:iLe s (len:Int)=true:=by simp only [iLe,decide_eq_true_eq];omega
 have hn:iLe n (len:Int)=true:=by simp only [iLe,decide_eq_true_eq];omega
 unfold Wi;rw [pG (p:=fun i=>s==(i:Int)+1) (q:=fun i=>n==(i:Int)+1) len (fun j _ hp=>by
  have e1:s=(j:Int)+1:=by simpa using hp
  show (n==(j:Int)+1)=false;rw [beq_eq_false_iff_ne];intro e2;have e3:(s==n)=true:=by rw [beq_iff_eq];omega
  have e4:(s==0)=false:=by rw [beq_eq_false_iff_ne];omega
  rw [e3,e4] at hd;cases hd),i7 s len h1.1,i7 n len h2.1,hs,hn,Bool.and_true,Bool.and_true,tF]
theorem tL (x:Int):iLt 0 x = !iLt x 1:=by
 unfold iLt;rw [Bool.eq_iff_iff];simp only [decide_eq_true_eq,Bool.not_eq_true',decide_eq_false_iff_not];omega
theorem qf {L : Rows} {s n : Int} (h1 : 0 ≤ s ∧ s ≤ (L.length : Int)) (h2 : 0 ≤ n ∧ n ≤ (L.length : Int)) (hd : (s == n && !(s == 0)) = false) :
    (!Bd (P6 L s n) L.length 0&&two s n==ins L) = !Bd (Z4 L s n) L.length 0:=by
  have h2c:=tG h1 h2 hd;rw [Bool.eq_iff_iff];simp only [zzk,Bool.not_eq_true',HC,beq_iff_eq];constructor
  · intro ⟨ha,hb⟩ j _ hj;have hm:∀ j,j<L.length→pIs L 1 j=true→Wi s n j=true:=fun j hj hp=>by
      have:=ha j (Nat.zero_le _) (by omega);unfold P6 at this;rw [hp] at this;simp only [Bool.or_eq_false_iff,Bool.true_and,Bool.not_eq_false'] at this;exact this.2
    have he:=oT L.length hm (by rw [← h2c,hb];rfl) j (by omega);have:=ha j (Nat.zero_le _) hj;unfold P6 at this;unfold Z4;rw [Bool.or_eq_false_iff] at this ⊢;exact ⟨this.1,by rw [he];simp⟩
  · intro ha;have hm:∀ j,j<L.length→pIs L 1 j=Wi s n j:=fun j hj=>by
      have:=ha j (Nat.zero_le _) (by omega);unfold Z4 at this;rw [Bool.or_eq_false_iff] at this;simpa using this.2
    refine ⟨fun j h0 hj=>?_,?_⟩
    · have:=ha j h0 hj;unfold Z4 at this;unfold P6;rw [Bool.or_eq_false_iff] at this ⊢;refine ⟨this.1,?_⟩;rw [hm j (by omega)];cases Wi s n j<;>rfl
    · rw [h2c];exact (fW L.length hm).symm
theorem tn (L:Rows) (s n wk k:Int) (hk:(L.length:Int)=k):gd L s n wk k=(btw s 0 k&&btw n 0 k&&X3 L s n wk):=by
 subst hk;unfold gd X3;cases hs:btw s 0 (L.length:Int) with
 | false=>simp only [Bool.false_and,Bool.and_false]
 | true =>
  cases hn:btw n 0 (L.length:Int) with
  | false=>simp only [Bool.false_and,Bool.and_false]
  | true =>
   have h1:0≤s∧s≤(L.length:Int):=by simpa [btw,iLe] using hs
   have h2:0≤n∧n≤(L.length:Int):=by simpa [btw,iLe] using hn
   simp only [Bool.true_and];cases hd:(s==n && !(s==0)) with
   | true =>
    have:(!(s==0)&&s==n)=true:=by rw [Bool.and_comm];exact hd
    rw [this];simp only [Bool.or_true,Bool.not_true,Bool.false_and,Bool.and_false]
   | false =>
    have:(!(s==0)&&s==n)=false:=by rw [Bool.and_comm];exact hd
    rw [this,← qf h1 h2 hd];simp only [Bool.or_false,Bool.not_false,Bool.true_and];rw [show (wk==Y5 L)=(Y5 L==wk) from BEq.comm];cases hA:Bd (P6 L s n) L.length 0 with
    | true=>rfl
    | false =>
     cases hB:two s n==ins L with
     | false=>rfl
     | true =>
      rw [beq_iff_eq.1 hB,tL];simp only [Bool.true_and,Bool.not_false,Bool.not_and]
def Il (v:Int):Bool := !btw v 0 1000000000
def jI (x1 x3 x5 x6 x7 x8 x9 x10 x21 x23 x25 x26:Int):Rows:=[[.int x1],[.int x3],[.int x5],[.int x6],[.int x7],[.int x8],[.int x9],[.int x10],[.int x21],[.int x23],[.int x25],[.int x26]]
section
variable (N:Nat) (L14 L16 L17 L19 L24:Rows) (b18 b20:Bool) (x0 x1 x2 x3 x4 x5 x6 x7 x8 x9 x10 x11 x12 x13 x15 x21 x22 x23 x25 x26 x27:Int)
theorem Xg (hN:2097152<N) (hl:L19.length≤1048576):D8 N (lsI L14 L16 L17 L19 L24 b18 b20 x0 x1 x2 x3 x4 x5 x6 x7 x8 x9 x10 x11 x12 x13 x15 x21 x22 x23 x25 x26 x27)=some [.bool (!(Jw Il (jI x1 x3 x5 x6 x7 x8 x9 x10 x21 x23 x25 x26)||Jw Il L19))]:=by
 show GK (std (H3 N) N) (xOf (lsI ..))=_;have e:∀ ls,H3 N 103 [] ls=DN N ls:=fun ls=>rfl
 rw [← iP];simp only [GK,lq9,std,xOf,lsI,PXb,PXc,PXn,AG,jI];generalize hM:([PV.int x1]::[PV.int x3]::[PV.int x5]::[PV.int x6]::[PV.int x7]::[PV.int x8]::[PV.int x9]::[PV.int x10]::[PV.int x21]::[PV.int x23]::[PV.int x25]::[PV.int x26]::L19:Rows)=M;have hM2:M.length≤2097152:=by rw [← hM];simp only [List.length_cons];omega
 rw [ID (n:=M.length) (by omega) (by omega)];simp only [PXb,PXc,PXn,AG];rw [Option.bind_assoc];refine Ad (C6 (len:=M.length) (F4 fun i=>Il (atI M i 0)) ?_ ?_ M.length 0 N (by omega) (by omega)) ?_
 ·intro self;simp only [PXb,PXc,PXn,AG,Bh]
 ·intro i self hi;simp only [PXb,PXc,PXn,AG,BC (show i≤1099511627776 by omega),BR hi,Ax hi,F4,Dw,e,UY,Il];cases btw (atI M i 0) 0 1000000000<;>rfl
 ·unfold Jw;rw [← Jr];unfold O8;cases CC (F4 fun i=>Il (atI M i 0)) M.length 0<;>rfl
end
def eP (a3 x2:Int):Bool:=cond (a3==0) (x2==0) (btw x2 1 a3)
def UC (s:ByteArray) (a1 a2 a3 a4 a5 a6 a7 a9 a10 a11 a12:Int) (La L14 L16 L17 L19 L24:Rows) (x0 x1 x2 x3 x4 x5 x6 x7 x8 x9 x10 x11 x12 x13 x15 x21 x22 x23 x25 x26 x27:Int):Bool :=
  LP s a1 a2 a3 a4 a5 a6 a7 a9 a10 a11 a12 La==0&&(btw x0 1 2&&((L14.length:Int)==a1&&((L19.length:Int)==a1&&((L24.length:Int)==a1&&(!iLt 5 x27 &&
    (btw x12 0 a1&&(btw x13 0 a1&&(X3 L14 x12 x13 x4&&(btw x15 0 a1&&(btw x22 0 a1&&(KG L16 a1&&(KG L17 a1&&(eP a3 x2&&(btw x11 0 (IntKind.i64.wrap (a4 - 1)) &&
      (!Jw Il (jI x1 x3 x5 x6 x7 x8 x9 x10 x21 x23 x25 x26) && !Jw Il L19)))))))))))))))
theorem rm {a:Int} (h:0≤a):iLt 0 a = !(a==0):=by
 unfold iLt;rw [Bool.eq_iff_iff];simp only [decide_eq_true_eq,Bool.not_eq_true',beq_eq_false_iff_ne];omega
section
variable (N:Nat) (s:ByteArray) (a1 a2 a3 a4 a5 a6 a7 a9 a10 a11 a12:Int) (a8:Bool) (La:Rows) (L14 L16 L17 L19 L24:Rows) (b18 b20:Bool) (x0 x1 x2 x3 x4 x5 x6 x7 x8 x9 x10 x11 x12 x13 x15 x21 x22 x23 x25 x26 x27:Int)
theorem Ql (hN:2097152<N) (hs:s.size≤1048576) (h14:L14.length≤1048576) (h16:L16.length≤1048576) (h17:L17.length≤1048576) (h19:L19.length≤1048576):BJ N ([.str s,.int a1,.int a2,.int a3,.int a4,.int a5,.int a6,.int a7,.bool a8,.int a9,.int a10,.int a11,.int a12,.rows La]++lsI L14 L16 L17 L19 L24 b18 b20 x0 x1 x2 x3 x4 x5 x6 x7 x8 x9 x10 x11 x12 x13 x15 x21 x22 x23 x25 x26 x27)=some [.bool (UC s a1 a2 a3 a4 a5 a6 a7 a9 a10 a11 a12 La L14 L16 L17 L19 L24 x0 x1 x2 x3 x4 x5 x6 x7 x8 x9 x10 x11 x12 x13 x15 x21 x22 x23 x25 x26 x27)]:=by
 simp only [lsI,List.cons_append,List.nil_append];show H7 (std (CU N) N) (xOf _)=_;have e1:∀ ls,CU N 6 [] ls=AN N ls:=fun ls=>rfl
 have e2:∀ ls,CU N 86 [] ls=Ag N ls:=fun ls=>rfl
 have e3:∀ ls,CU N 87 [] ls=D3 N ls:=fun ls=>rfl
 have e4:∀ ls,CU N 88 [] ls=DH N ls:=fun ls=>rfl
 have e5:∀ ls,CU N 89 [] ls=D8 N ls:=fun ls=>rfl
 have l54:=Wg N L14 L16 L17 L19 L24 b18 b20 x0 x1 x2 x3 x4 x5 x6 x7 x8 x9 x10 x11 x12 x13 x15 x21 x22 x23 x25 x26 x27 a1 (by omega) (by omega);have l56:=Xg N L14 L16 L17 L19 L24 b18 b20 x0 x1 x2 x3 x4 x5 x6 x7 x8 x9 x10 x11 x12 x13 x15 x21 x22 x23 x25 x26 x27 (by omega) (by omega);simp only [lsI,List.cons_append,List.nil_append] at l54 l56;simp only [H7,lq9,std,xOf,PXb,PXc,PXn,AG,e1,e2,e3,e4,e5,UA N s _ _ _ _ _ _ _ _ _ _ _ _ _ hN hs,DX,l54,l56,Mc N L16 _ (by omega) (by omega),Mc N L17 _ (by omega) (by omega)];unfold UC eP;cases hc:LP s a1 a2 a3 a4 a5 a6 a7 a9 a10 a11 a12 La==0<;>try rfl
 cases btw x0 1 2<;>try rfl
 cases h14:(L14.length:Int)==a1<;>try rfl
 cases (L19.length:Int)==a1<;>try rfl
 cases (L24.length:Int)==a1<;>try rfl
 cases iLt 5 x27<;>try rfl
 rw [tn L14 x12 x13 x4 a1 (beq_iff_eq.1 h14)];cases btw x12 0 a1<;>try rfl
 cases btw x13 0 a1<;>try rfl
 cases X3 L14 x12 x13 x4<;>try rfl
 cases btw x15 0 a1<;>try rfl
 cases btw x22 0 a1<;>try rfl
 cases KG L16 a1<;>try rfl
 cases KG L17 a1<;>try rfl
 cases a3==0<;>cases x2==0<;>cases btw x2 1 a3<;>rfl
end
def pg (v:Bool) (L:Rows) (s n:Int) (x1 x2 x3 x10:Int):Int :=
 cond (!v) 0 (cond (iLt 0 x1&&iLe x1 x3) 3 (cond (GV L s n&&((EI L L.length).length:Int)==0) 1 (cond (iLt 0 x2&&iLe x2 x10) 2 0)))
theorem gb {c:Int} {n:Nat} (hc:0≤c):iRg 0 (cond (iLt c (n:Int)) c (n:Int)) (n:Int)=true:=by
 cases h:iLt c (n:Int) with
 | true=>simp only [iLt,decide_eq_true_eq] at h;simp only [cond_true,iRg,decide_eq_true_eq];omega
 | false=>simp only [cond_false,iRg,decide_eq_true_eq];omega
def cut (L:Rows) (c:Int):Rows:=(L.take (cond (iLt c (L.length:Int)) c (L.length:Int)).toNat).drop (0:Int).toNat
def qq (s:ByteArray) (c:Int):ByteArray:=s.extract (0:Int).toNat (cond (iLt c (s.size:Int)) c (s.size:Int)).toNat
theorem qd (s:ByteArray) (c:Int):(qq s c).size≤s.size:=by
 unfold qq;rw [ByteArray.size_extract];omega
section
variable (N:Nat) (s:ByteArray) (a1 a2 a3 a4 a5 a6 a7 a9 a10 a11 a12:Int) (a8:Bool) (La:Rows) (L14 L16 L17 L19 L24:Rows) (b18 b20:Bool) (x0 x1 x2 x3 x4 x5 x6 x7 x8 x9 x10 x11 x12 x13 x15 x21 x22 x23 x25 x26 x27:Int)
theorem YL (hN : 2097152 < N) (hs : s.size ≤ 1048576) (h14 : L14.length ≤ 1048576) (h16 : L16.length ≤ 1048576) (h17 : L17.length ≤ 1048576) (h19 : L19.length ≤ 1048576) : DR N ([.str s, .int a1, .int a2, .int a3, .int a4, .int a5, .int a6, .int a7, .bool a8, .int a9, .int a10, .int a11, .int a12, .rows La] ++ lsI L14 L16 L17 L19 L24 b18 b20 x0 x1 x2 x3 x4 x5 x6 x7 x8 x9 x10 x11 x12 x13 x15 x21 x22 x23 x25 x26 x27) =
    some [.int (pg (UC s a1 a2 a3 a4 a5 a6 a7 a9 a10 a11 a12 La L14 L16 L17 L19 L24 x0 x1 x2 x3 x4 x5 x6 x7 x8 x9 x10 x11 x12 x13 x15 x21 x22 x23 x25 x26 x27) L14 x12 x13 x1 x2 x3 x10)]:=by
  simp only [lsI,List.cons_append,List.nil_append];show HQ (std (Dj N) N) (xOf _)=_;have e1:∀ ls,Dj N 71 [] ls=BJ N ls:=fun ls=>rfl
  have e2:∀ ls,Dj N 128 [] ls=BI N ls:=fun ls=>rfl
  have e3:∀ ls,Dj N 129 [] ls=Ck N ls:=fun ls=>rfl
  have l16:=Ql N s a1 a2 a3 a4 a5 a6 a7 a9 a10 a11 a12 a8 La L14 L16 L17 L19 L24 b18 b20 x0 x1 x2 x3 x4 x5 x6 x7 x8 x9 x10 x11 x12 x13 x15 x21 x22 x23 x25 x26 x27 hN hs h14 h16 h17 h19;have l61:=ZD N L14 L16 L17 L19 L24 b18 b20 x0 x1 x2 x3 x4 x5 x6 x7 x8 x9 x10 x11 x12 x13 x15 x21 x22 x23 x25 x26 x27 (by omega) (by omega);have l62:=eO N L14 L16 L17 L19 L24 b18 b20 x0 x1 x2 x3 x4 x5 x6 x7 x8 x9 x10 x11 x12 x13 x15 x21 x22 x23 x25 x26 x27 (by omega) (by omega);simp only [lsI,List.cons_append,List.nil_append] at l16 l61 l62;simp only [HQ,lq9,std,xOf,PXb,PXc,PXn,AG,e1,e2,e3,l16,l61,l62,pg];cases UC s a1 a2 a3 a4 a5 a6 a7 a9 a10 a11 a12 La L14 L16 L17 L19 L24 x0 x1 x2 x3 x4 x5 x6 x7 x8 x9 x10 x11 x12 x13 x15 x21 x22 x23 x25 x26 x27<;>try rfl
  cases (iLt 0 x1&&iLe x1 x3)<;>try rfl
  cases GV L14 x12 x13
  · cases (iLt 0 x2&&iLe x2 x10)<;>rfl
  · simp only [PXb,PXc,PXn,AG];cases ((EI L14 L14.length).length:Int)==0<;>cases (iLt 0 x2&&iLe x2 x10)<;>rfl
end
section
variable (N:Nat) (s:ByteArray) (a1 a2 a3 a4 a5 a6 a7 a9 a10 a11 a12:Int) (a8:Bool) (La:Rows) (L14 L16 L17 L19 L24:Rows) (b18 b20:Bool) (x0 x1 x2 x3 x4 x5 x6 x7 x8 x9 x10 x11 x12 x13 x15 x21 x22 x23 x25 x26 x27:Int)
def Bv (a4 x10 x11:Int):Int:=IntKind.i64.wrap (IntKind.i64.wrap (x10 * a4)+x11)
end
def BE (r:Rul):Int:=LP r.name r.side r.innings r.overs r.balls r.quota r.wide r.noball r.newball r.followon r.reviews r.outside r.power
theorem Cl {N:Nat} {r8:Bool} {r0:ByteArray} {r13:Rows} (hN:2097152<N) (hs:r0.size≤1048576):AN N [.str r0,.int r1,.int r2,.int r3,.int r4,.int r5,.int r6,.int r7,.bool r8,.int r9,.int r10,.int r11,.int r12,.rows r13]=some [.int (BE (⟨r0,r1,r2,r3,r4,r5,r6,r7,r8,r9,r10,r11,r12,r13⟩:Rul))]:=by
 exact UA N _ _ _ _ _ _ _ _ _ _ _ _ _ _ hN hs
theorem TC {N:Nat} {s18 s20:Bool} (h:Fit s14 s16 s17 s19 s24):Cd N [.int s0,.int s1,.int s2,.int s3,.int s4,.int s5,.int s6,.int s7,.int s8,.int s9,.int s10,.int s11,.int s12,.int s13,.rows s14,.int s15,.rows s16,.rows s17,.bool s18,.rows s19,.bool s20,.int s21,.int s22,.int s23,.rows s24,.int s25,.int s26,.int s27]=some [.int s0,.int s1,.int s2,.int s3,.int s4,.int s5,.int s6,.int s7,.int s8,.int s9,.int s10,.int s11,.int s12,.int s13,.rows s14,.int s15,.rows s16,.rows s17,.bool s18,.rows s19,.bool s20,.int s21,.int s22,.int s23,.rows s24,.int s25,.int s26,.int s27]:=by
 show OL (std (Hj N) N) (xOf _)=_;simp only [OL,Lm,Ng,M8,lq9,std,xOf,PXb,PXc,PXn,PXm,Nat.reduceAdd,Int.reduceBEq,AS,Aa,AX,BZ h.bt (show 1≤4096 by omega),BZ h.bw' (show 8≤4096 by omega),BZ h.bf (show 8≤4096 by omega),BZ h.bd (show 8≤4096 by omega),BZ h.sb (show 1≤4096 by omega)]
theorem TE {N:Nat} {s18 s20:Bool} (h:Fit s14 s16 s17 s19 s24):Cg N [.int s0,.int s1,.int s2,.int s3,.int s4,.int s5,.int s6,.int s7,.int s8,.int s9,.int s10,.int s11,.int s12,.int s13,.rows s14,.int s15,.rows s16,.rows s17,.bool s18,.rows s19,.bool s20,.int s21,.int s22,.int s23,.rows s24,.int s25,.int s26,.int s27]=some [.int s0,.int s1,.int s2,.int s3,.int s4,.int s5,.int s6,.int s7,.int s8,.int s9,.int s10,.int s11,.int s12,.int s13,.rows s14,.int s15,.rows s16,.rows s17,.bool s18,.rows s19,.bool s20,.int s21,.int s22,.int s23,.rows s24,.int s25,.int s26,.int s27]:=by
 show ON (std (Hf N) N) (xOf _)=_;simp only [ON,Lo,NR,NA,lq9,std,xOf,PXb,PXc,PXn,PXm,Nat.reduceAdd,Int.reduceBEq,AS,Aa,AX,BZ h.bt (show 1≤4096 by omega),BZ h.bw' (show 8≤4096 by omega),BZ h.bf (show 8≤4096 by omega),BZ h.bd (show 8≤4096 by omega),BZ h.sb (show 1≤4096 by omega)]
theorem B8 {N:Nat} {s18 s20:Bool} (h:Fit s14 s16 s17 s19 s24):AQ N [.int s0,.int s1,.int s2,.int s3,.int s4,.int s5,.int s6,.int s7,.int s8,.int s9,.int s10,.int s11,.int s12,.int s13,.rows s14,.int s15,.rows s16,.rows s17,.bool s18,.rows s19,.bool s20,.int s21,.int s22,.int s23,.rows s24,.int s25,.int s26,.int s27]=some [.int s0,.int s1,.int s2,.int s3,.int s4,.int s5,.int s6,.int s7,.int s8,.int s9,.int s10,.int s11,.int s12,.int s13,.rows s14,.int s15,.rows s16,.rows s17,.bool s18,.rows s19,.bool s20,.int s21,.int s22,.int s23,.rows s24,.int s25,.int s26,.int s27]:=by
 show IV (std (EF N) N) (xOf _)=_;simp only [IV,Jd,K4,KS,lq9,std,xOf,PXb,PXc,PXn,PXm,Nat.reduceAdd,Int.reduceBEq,AS,Aa,AX,BZ h.bt (show 1≤4096 by omega),BZ h.bw' (show 8≤4096 by omega),BZ h.bf (show 8≤4096 by omega),BZ h.bd (show 8≤4096 by omega),BZ h.sb (show 1≤4096 by omega)]
theorem PN {N:Nat} {s18 s20:Bool} {p:Int}  : Bx N [.int s0,.int s1,.int s2,.int s3,.int s4,.int s5,.int s6,.int s7,.int s8,.int s9,.int s10,.int s11,.int s12,.int s13,.rows s14,.int s15,.rows s16,.rows s17,.bool s18,.rows s19,.bool s20,.int s21,.int s22,.int s23,.rows s24,.int s25,.int s26,.int s27,.int p]=some [.bool (inR p s19.length)]:=by
 show Kg (std (Sn N) N) (xOf _)=_;simp only [Kg,lq9,std,xOf,PXb,PXc,PXn,PXm,Nat.reduceAdd,Int.reduceBEq];rfl
theorem Ha {N:Nat} {s18 s20:Bool} {p:Int}  : A2 N [.int s0,.int s1,.int s2,.int s3,.int s4,.int s5,.int s6,.int s7,.int s8,.int s9,.int s10,.int s11,.int s12,.int s13,.rows s14,.int s15,.rows s16,.rows s17,.bool s18,.rows s19,.bool s20,.int s21,.int s22,.int s23,.rows s24,.int s25,.int s26,.int s27,.int p]=some [.bool (inR p s24.length)]:=by
 show Kc (std (S0 N) N) (xOf _)=_;simp only [Kc,lq9,std,xOf,PXb,PXc,PXn,PXm,Nat.reduceAdd,Int.reduceBEq];rfl
def atB (L:Rows) (i j:Nat):Bool:=pvB (AF L i j)
theorem sN (L:Rows) (i j:Nat):pvB (AF L i j)=atB L i j:=rfl
def HN (s:Inn) (p:Int):Bool:=inR p s.subs.length&&atB s.subs (ix p) 0
theorem HE {N:Nat} {s18 s20:Bool} {p:Int} (h:s24.length≤1048576):Az N [.int s0,.int s1,.int s2,.int s3,.int s4,.int s5,.int s6,.int s7,.int s8,.int s9,.int s10,.int s11,.int s12,.int s13,.rows s14,.int s15,.rows s16,.rows s17,.bool s18,.rows s19,.bool s20,.int s21,.int s22,.int s23,.rows s24,.int s25,.int s26,.int s27,.int p]=some [.bool (HN (⟨s0,s1,s2,s3,s4,s5,s6,s7,s8,s9,s10,s11,s12,s13,s14,s15,s16,s17,s18,s19,s20,s21,s22,s23,s24,s25,s26,s27⟩:Inn) p)]:=by
 show HX (std (Ig N) N) (xOf _)=_;generalize hres:(some [.bool (HN (⟨s0,s1,s2,s3,s4,s5,s6,s7,s8,s9,s10,s11,s12,s13,s14,s15,s16,s17,s18,s19,s20,s21,s22,s23,s24,s25,s26,s27⟩:Inn) p)]:Option (List PV))=RR;simp only [HX,NU,lq9,std,xOf,PXb,PXc,PXn,PXm,Nat.reduceAdd,Int.reduceBEq,Ha,ui h];subst hres;simp only [HN];cases hp:inR p s24.length with
 | false=>rfl
 | true=>first | rfl | (rw [Kj hp h];rfl)
def nZ (x:Int):Int:=cond (iLt x 0) 0 x
def bC (r:Rul) (s:Inn) (p:Int):Int :=
 cond (!inR p s.bowled.length || !(BE r==0)) 0 (cond (r.quota==0) (-1) (nZ (IntKind.i64.wrap (IntKind.i64.wrap (r.quota * r.balls) - nZ (atI s.bowled (ix p) 0)))))
theorem ic {N:Nat} {r8:Bool} {r0:ByteArray} {r13:Rows} {s18 s20:Bool} {p:Int} (h:Fit s14 s16 s17 s19 s24) (hN:2097152<N) (hs:r0.size≤1048576):Ip N [.str r0,.int r1,.int r2,.int r3,.int r4,.int r5,.int r6,.int r7,.bool r8,.int r9,.int r10,.int r11,.int r12,.rows r13,.int s0,.int s1,.int s2,.int s3,.int s4,.int s5,.int s6,.int s7,.int s8,.int s9,.int s10,.int s11,.int s12,.int s13,.rows s14,.int s15,.rows s16,.rows s17,.bool s18,.rows s19,.bool s20,.int s21,.int s22,.int s23,.rows s24,.int s25,.int s26,.int s27,.int p]=some [.int (bC (⟨r0,r1,r2,r3,r4,r5,r6,r7,r8,r9,r10,r11,r12,r13⟩:Rul) (⟨s0,s1,s2,s3,s4,s5,s6,s7,s8,s9,s10,s11,s12,s13,s14,s15,s16,s17,s18,s19,s20,s21,s22,s23,s24,s25,s26,s27⟩:Inn) p)]:=by
 show MT (std (JN N) N) (xOf _)=_;generalize hres:(some [.int (bC (⟨r0,r1,r2,r3,r4,r5,r6,r7,r8,r9,r10,r11,r12,r13⟩:Rul) (⟨s0,s1,s2,s3,s4,s5,s6,s7,s8,s9,s10,s11,s12,s13,s14,s15,s16,s17,s18,s19,s20,s21,s22,s23,s24,s25,s26,s27⟩:Inn) p)]:Option (List PV))=RR;simp only [MT,RS,Qm,lq9,std,xOf,PXb,PXc,PXn,PXm,Nat.reduceAdd,Int.reduceBEq,Cl hN hs,PN];subst hres;simp only [bC];cases hp:inR p s19.length with
 | false=>rfl
 | true=>rw [Kj hp h.bd];cases BE (⟨r0,r1,r2,r3,r4,r5,r6,r7,r8,r9,r10,r11,r12,r13⟩:Rul)==0<;>cases r5==0<;>rfl
theorem Lc {N:Nat} {L:Rows} {v:Int} (hN:2097152<N) (hl:L.length≤1048576):Ap N [.rows L,.int v]=some [.bool (J6 L L.length v)]:=by
 exact KX N L v (by omega) (by omega)
def NV (r:Rul) (s:Inn) (p:Int):Int :=
  cond (!inR p s.bowled.length || !(BE r==0)) 3 (cond (p==s.keeper||p==s.bowler||HN s p) 7
    (cond (J6 s.before s.before.length p) 8 (cond (!(bC r s p == -1)&&iLt s.inover (IntKind.i64.wrap (r.balls - bC r s p))) 9 0)))
theorem oo {p:Int} {n m:Nat} (h:inR p n=true):inR p m=iLe p (m:Int):=by
 unfold inR at h ⊢;rw [zzk] at h;rw [h.1,Bool.true_and]
theorem kh {N:Nat} {r8:Bool} {r0:ByteArray} {r13:Rows} {s18 s20:Bool} {p:Int} (h:Fit s14 s16 s17 s19 s24) (hN:2097152<N) (hs:r0.size≤1048576):KF N [.str r0,.int r1,.int r2,.int r3,.int r4,.int r5,.int r6,.int r7,.bool r8,.int r9,.int r10,.int r11,.int r12,.rows r13,.int s0,.int s1,.int s2,.int s3,.int s4,.int s5,.int s6,.int s7,.int s8,.int s9,.int s10,.int s11,.int s12,.int s13,.rows s14,.int s15,.rows s16,.rows s17,.bool s18,.rows s19,.bool s20,.int s21,.int s22,.int s23,.rows s24,.int s25,.int s26,.int s27,.int p]=some [.int (NV (⟨r0,r1,r2,r3,r4,r5,r6,r7,r8,r9,r10,r11,r12,r13⟩:Rul) (⟨s0,s1,s2,s3,s4,s5,s6,s7,s8,s9,s10,s11,s12,s13,s14,s15,s16,s17,s18,s19,s20,s21,s22,s23,s24,s25,s26,s27⟩:Inn) p)]:=by
 show OJ (std (FK N) N) (xOf _)=_;generalize hres:(some [.int (NV (⟨r0,r1,r2,r3,r4,r5,r6,r7,r8,r9,r10,r11,r12,r13⟩:Rul) (⟨s0,s1,s2,s3,s4,s5,s6,s7,s8,s9,s10,s11,s12,s13,s14,s15,s16,s17,s18,s19,s20,s21,s22,s23,s24,s25,s26,s27⟩:Inn) p)]:Option (List PV))=RR;simp only [OJ,Rq,Ll,Rn,TK,lq9,std,xOf,PXb,PXc,PXn,PXm,Nat.reduceAdd,Int.reduceBEq,Cl hN hs,PN,ic h hN hs,Lc hN h.bf];subst hres;simp only [NV,HN];cases hp:inR p s19.length with
 | false=>rfl
 | true =>
  rw [oo (m:=s24.length) hp];have hq:(!(iLe p (s24.length:Int))||iIn (IntKind.i64.wrap (p - 1)) (s24.length:Int))=true:=by
   cases h1:iLe p (s24.length:Int) with
   | false=>rfl
   | true=>rw [Kj (by rw [oo hp];exact h1) h.sb];rfl
  rw [hq];cases BE (⟨r0,r1,r2,r3,r4,r5,r6,r7,r8,r9,r10,r11,r12,r13⟩:Rul)==0<;>rfl
def Uf (r:Rul) (s:Inn) (p:Int):Inn×Int:=(cond (NV r s p==0) { s with bowler:=p } s,NV r s p)
theorem jH {N:Nat} {r8:Bool} {r0:ByteArray} {r13:Rows} {s18 s20:Bool} {p:Int} (h:Fit s14 s16 s17 s19 s24) (hN:2097152<N) (hs:r0.size≤1048576):JB N [.str r0,.int r1,.int r2,.int r3,.int r4,.int r5,.int r6,.int r7,.bool r8,.int r9,.int r10,.int r11,.int r12,.rows r13,.int s0,.int s1,.int s2,.int s3,.int s4,.int s5,.int s6,.int s7,.int s8,.int s9,.int s10,.int s11,.int s12,.int s13,.rows s14,.int s15,.rows s16,.rows s17,.bool s18,.rows s19,.bool s20,.int s21,.int s22,.int s23,.rows s24,.int s25,.int s26,.int s27,.int p]=some (BG (Uf (⟨r0,r1,r2,r3,r4,r5,r6,r7,r8,r9,r10,r11,r12,r13⟩:Rul) (⟨s0,s1,s2,s3,s4,s5,s6,s7,s8,s9,s10,s11,s12,s13,s14,s15,s16,s17,s18,s19,s20,s21,s22,s23,s24,s25,s26,s27⟩:Inn) p)):=by
 show Mz (std (JW N) N) (xOf _)=_;generalize hres:(some (BG (Uf (⟨r0,r1,r2,r3,r4,r5,r6,r7,r8,r9,r10,r11,r12,r13⟩:Rul) (⟨s0,s1,s2,s3,s4,s5,s6,s7,s8,s9,s10,s11,s12,s13,s14,s15,s16,s17,s18,s19,s20,s21,s22,s23,s24,s25,s26,s27⟩:Inn) p)):Option (List PV))=RR;simp only [Mz,S9,S8,lq9,std,xOf,PXb,PXc,PXn,PXm,Nat.reduceAdd,Int.reduceBEq,TC h,kh h hN hs];subst hres;simp only [Uf];cases NV (⟨r0,r1,r2,r3,r4,r5,r6,r7,r8,r9,r10,r11,r12,r13⟩:Rul) (⟨s0,s1,s2,s3,s4,s5,s6,s7,s8,s9,s10,s11,s12,s13,s14,s15,s16,s17,s18,s19,s20,s21,s22,s23,s24,s25,s26,s27⟩:Inn) p==0<;>rfl
def qH (x:Inn×Bool):List PV:=[.int x.1.side,.int x.1.target,.int x.1.overs,.int x.1.runs,.int x.1.wickets,.int x.1.wides,.int x.1.noballs,.int x.1.byes,.int x.1.legbyes,.int x.1.pens,.int x.1.complete,.int x.1.inover,.int x.1.striker,.int x.1.other,.rows x.1.batters,.int x.1.bowler,.rows x.1.bowlers,.rows x.1.before,.bool x.1.fresh,.rows x.1.bowled,.bool x.1.freehit,.int x.1.ballage,.int x.1.keeper,.int x.1.outside,.rows x.1.subs,.int x.1.rev1,.int x.1.rev2,.int x.1.ending,.bool x.2]
def inc (x:Int):Int:=IntKind.i64.wrap (x+1)
def Ao (r:Rul) (s:Inn) (counts:Bool):Inn×Bool :=
  cond (!inR s.bowler s.bowled.length || !(BE r==0)) (s,false)
    (let L:=cond (J6 s.bowlers s.bowlers.length s.bowler) s.bowlers (s.bowlers++[[.int s.bowler]])
     let o:=cond counts (inc s.inover) s.inover
     let t:Inn:={ s with bowlers:=L,bowled:=cond counts (Nf s.bowled s.bowler (inc (atI s.bowled (ix s.bowler) 0))) s.bowled,inover:=o,ballage:=cond counts (inc s.ballage) s.ballage }
     cond (iLt o r.balls) (t,false) ({ t with complete:=inc s.complete,inover:=0,before:=L,bowlers:=[],bowler:=0 },true))
theorem kF {N:Nat} {r8:Bool} {r0:ByteArray} {r13:Rows} {s18 s20:Bool} {b:Bool} (h:Fit s14 s16 s17 s19 s24) (hw:s16.length≤1048575) (hN:2097152<N) (hs:r0.size≤1048576):Ih N [.str r0,.int r1,.int r2,.int r3,.int r4,.int r5,.int r6,.int r7,.bool r8,.int r9,.int r10,.int r11,.int r12,.rows r13,.int s0,.int s1,.int s2,.int s3,.int s4,.int s5,.int s6,.int s7,.int s8,.int s9,.int s10,.int s11,.int s12,.int s13,.rows s14,.int s15,.rows s16,.rows s17,.bool s18,.rows s19,.bool s20,.int s21,.int s22,.int s23,.rows s24,.int s25,.int s26,.int s27,.bool b]=some (qH (Ao (⟨r0,r1,r2,r3,r4,r5,r6,r7,r8,r9,r10,r11,r12,r13⟩:Rul) (⟨s0,s1,s2,s3,s4,s5,s6,s7,s8,s9,s10,s11,s12,s13,s14,s15,s16,s17,s18,s19,s20,s21,s22,s23,s24,s25,s26,s27⟩:Inn) b)):=by
 show MY (std (Ea N) N) (xOf _)=_;generalize hres:(some (qH (Ao (⟨r0,r1,r2,r3,r4,r5,r6,r7,r8,r9,r10,r11,r12,r13⟩:Rul) (⟨s0,s1,s2,s3,s4,s5,s6,s7,s8,s9,s10,s11,s12,s13,s14,s15,s16,s17,s18,s19,s20,s21,s22,s23,s24,s25,s26,s27⟩:Inn) b)):Option (List PV))=RR;have ha:(s16++[[PV.int s15]]).length≤1048576:=by simp;omega
 simp only [MY,Ri,LO,TF,RV,lq9,std,xOf,PXb,PXc,PXn,PXm,Nat.reduceAdd,Int.reduceBEq,TC h,PN,Cl hN hs,Lc hN h.bw',tW ha (show 8≤4096 by omega)];subst hres;simp only [Ao];cases hp:inR s15 s19.length with
 | false=>rfl
 | true =>
  rw [Kj hp h.bd];cases BE (⟨r0,r1,r2,r3,r4,r5,r6,r7,r8,r9,r10,r11,r12,r13⟩:Rul)==0<;>try rfl
  cases J6 s16 s16.length s15<;>cases b<;>simp only [PXb,PXc,PXn,PXm,Nat.reduceAdd,Int.reduceBEq,inc]
  all_goals first | (cases iLt s11 r4<;>rfl) | (cases iLt (IntKind.i64.wrap (s11+1)) r4<;>rfl)
def K1 (r:Rul) (s:Inn):Inn×Int :=
 cond (!(BE r==0)||r.newball==0||iLt s.ballage (IntKind.i64.wrap (r.newball * r.balls))) (s,22) ({ s with ballage:=0 },0)
theorem cm {N:Nat} {r8:Bool} {r0:ByteArray} {r13:Rows} {s18 s20:Bool} (h:Fit s14 s16 s17 s19 s24) (hN:2097152<N) (hs:r0.size≤1048576):Fc N [.str r0,.int r1,.int r2,.int r3,.int r4,.int r5,.int r6,.int r7,.bool r8,.int r9,.int r10,.int r11,.int r12,.rows r13,.int s0,.int s1,.int s2,.int s3,.int s4,.int s5,.int s6,.int s7,.int s8,.int s9,.int s10,.int s11,.int s12,.int s13,.rows s14,.int s15,.rows s16,.rows s17,.bool s18,.rows s19,.bool s20,.int s21,.int s22,.int s23,.rows s24,.int s25,.int s26,.int s27]=some (BG (K1 (⟨r0,r1,r2,r3,r4,r5,r6,r7,r8,r9,r10,r11,r12,r13⟩:Rul) (⟨s0,s1,s2,s3,s4,s5,s6,s7,s8,s9,s10,s11,s12,s13,s14,s15,s16,s17,s18,s19,s20,s21,s22,s23,s24,s25,s26,s27⟩:Inn))):=by
 show IB (std (GM N) N) (xOf _)=_;generalize hres:(some (BG (K1 (⟨r0,r1,r2,r3,r4,r5,r6,r7,r8,r9,r10,r11,r12,r13⟩:Rul) (⟨s0,s1,s2,s3,s4,s5,s6,s7,s8,s9,s10,s11,s12,s13,s14,s15,s16,s17,s18,s19,s20,s21,s22,s23,s24,s25,s26,s27⟩:Inn))):Option (List PV))=RR;simp only [IB,OT,P5,lq9,std,xOf,PXb,PXc,PXn,PXm,Nat.reduceAdd,Int.reduceBEq,TC h,Cl hN hs];subst hres;simp only [K1];cases (!(BE (⟨r0,r1,r2,r3,r4,r5,r6,r7,r8,r9,r10,r11,r12,r13⟩:Rul)==0)||r9==0||iLt s21 (IntKind.i64.wrap (r9 * r4)))<;>rfl
def iK (r:Rul) (over:Int):Int :=
 match CC (fun i=>cond (iLe (atI r.power i 0) (inc over)&&iLe (inc over) (atI r.power i 1)) (some [.int (atI r.power i 2)]) none) r.power.length 0 with
 | some x=>pvI (AD x 0)
 | none=>r.outside
theorem bl {N:Nat} {r8:Bool} {r0:ByteArray} {r13:Rows} {o:Int} (hN:2097152<N) (h13:r13.length≤1048576):FU N [.str r0,.int r1,.int r2,.int r3,.int r4,.int r5,.int r6,.int r7,.bool r8,.int r9,.int r10,.int r11,.int r12,.rows r13,.int o]=some [.int (iK (⟨r0,r1,r2,r3,r4,r5,r6,r7,r8,r9,r10,r11,r12,r13⟩:Rul) o)]:=by
 show IM (std (Pr N) N) (xOf _)=_;simp only [IM,lq9,std,xOf,PXb,PXc,PXn,AG];refine Ad (C6 (len:=r13.length) (fun i=>cond (iLe (atI r13 i 0) (inc o)&&iLe (inc o) (atI r13 i 1)) (some [.int (atI r13 i 2)]) none) ?_ ?_ r13.length 0 N (by omega) (by omega)) ?_
 ·intro self;simp only [PXb,PXc,PXn,AG,Bh]
 ·intro i self hi;simp only [PXb,PXc,PXn,AG,BC (show i≤1099511627776 by omega),BR hi,Ax hi];cases hq:iLe (atI r13 i 0) (inc o)&&iLe (inc o) (atI r13 i 1)<;>unfold inc atI at hq<;>rw [hq]<;>rfl
 ·unfold iK;cases CC (fun i=>cond (iLe (atI r13 i 0) (inc o)&&iLe (inc o) (atI r13 i 1)) (some [.int (atI r13 i 2)]) none) r13.length 0<;>rfl
def NX (s:Inn) (p:Int):Inn×Int :=
 cond (!inR p s.subs.length) (s,3) (cond (HN s p) (s,18) (cond (p==s.bowler||p==s.keeper) (s,17) ({ s with keeper:=p },0)))
theorem eJ {N:Nat} {s18 s20:Bool} {p:Int} (h:Fit s14 s16 s17 s19 s24):Gn N [.int s0,.int s1,.int s2,.int s3,.int s4,.int s5,.int s6,.int s7,.int s8,.int s9,.int s10,.int s11,.int s12,.int s13,.rows s14,.int s15,.rows s16,.rows s17,.bool s18,.rows s19,.bool s20,.int s21,.int s22,.int s23,.rows s24,.int s25,.int s26,.int s27,.int p]=some (BG (NX (⟨s0,s1,s2,s3,s4,s5,s6,s7,s8,s9,s10,s11,s12,s13,s14,s15,s16,s17,s18,s19,s20,s21,s22,s23,s24,s25,s26,s27⟩:Inn) p)):=by
 show JU (std (El N) N) (xOf _)=_;generalize hres:(some (BG (NX (⟨s0,s1,s2,s3,s4,s5,s6,s7,s8,s9,s10,s11,s12,s13,s14,s15,s16,s17,s18,s19,s20,s21,s22,s23,s24,s25,s26,s27⟩:Inn) p)):Option (List PV))=RR;simp only [JU,RF,PC,M5,lq9,std,xOf,PXb,PXc,PXn,PXm,Nat.reduceAdd,Int.reduceBEq,TE h,Ha,HE h.sb];subst hres;simp only [NX];cases inR p s24.length<;>cases HN (⟨s0,s1,s2,s3,s4,s5,s6,s7,s8,s9,s10,s11,s12,s13,s14,s15,s16,s17,s18,s19,s20,s21,s22,s23,s24,s25,s26,s27⟩:Inn) p<;>cases p==s15<;>cases p==s22<;>rfl
def RD (s:Inn) (p:Int) (on:Bool):Inn×Int :=
  cond (!inR p s.subs.length) (s,3) (cond (HN s p==on) (s,18)
    ({ s with subs:=rI s.subs p on,keeper:=cond (on&&s.keeper==p) 0 s.keeper,bowler:=cond (on&&s.bowler==p) 0 s.bowler },0))
theorem Xc {N:Nat} {s18 s20:Bool} {p:Int} {b:Bool} (h:Fit s14 s16 s17 s19 s24):Dc N [.int s0,.int s1,.int s2,.int s3,.int s4,.int s5,.int s6,.int s7,.int s8,.int s9,.int s10,.int s11,.int s12,.int s13,.rows s14,.int s15,.rows s16,.rows s17,.bool s18,.rows s19,.bool s20,.int s21,.int s22,.int s23,.rows s24,.int s25,.int s26,.int s27,.int p,.bool b]=some (BG (RD (⟨s0,s1,s2,s3,s4,s5,s6,s7,s8,s9,s10,s11,s12,s13,s14,s15,s16,s17,s18,s19,s20,s21,s22,s23,s24,s25,s26,s27⟩:Inn) p b)):=by
 show Fv (std (C1 N) N) (xOf _)=_;generalize hres:(some (BG (RD (⟨s0,s1,s2,s3,s4,s5,s6,s7,s8,s9,s10,s11,s12,s13,s14,s15,s16,s17,s18,s19,s20,s21,s22,s23,s24,s25,s26,s27⟩:Inn) p b)):Option (List PV))=RR;simp only [Fv,Nq,MQ,KJ,lq9,std,xOf,PXb,PXc,PXn,PXm,Nat.reduceAdd,Int.reduceBEq,TE h,Ha,HE h.sb];subst hres;simp only [RD];cases hp:inR p s24.length<;>try rfl
 rw [Kj hp h.sb];cases HN (⟨s0,s1,s2,s3,s4,s5,s6,s7,s8,s9,s10,s11,s12,s13,s14,s15,s16,s17,s18,s19,s20,s21,s22,s23,s24,s25,s26,s27⟩:Inn) p==b<;>cases b<;>cases s22==p<;>cases s15==p<;>rfl
def K5 (s:Inn) (n:Int):Inn×Int :=
 cond (iLt n 0||iLt (IntKind.i64.wrap ((s.subs.length:Int) - 2)) n) (s,16) ({ s with outside:=n },0)
theorem bR {N:Nat} {s18 s20:Bool} {n:Int} (h:Fit s14 s16 s17 s19 s24):Fh N [.int s0,.int s1,.int s2,.int s3,.int s4,.int s5,.int s6,.int s7,.int s8,.int s9,.int s10,.int s11,.int s12,.int s13,.rows s14,.int s15,.rows s16,.rows s17,.bool s18,.rows s19,.bool s20,.int s21,.int s22,.int s23,.rows s24,.int s25,.int s26,.int s27,.int n]=some (BG (K5 (⟨s0,s1,s2,s3,s4,s5,s6,s7,s8,s9,s10,s11,s12,s13,s14,s15,s16,s17,s18,s19,s20,s21,s22,s23,s24,s25,s26,s27⟩:Inn) n)):=by
 show H6 (std (Jt N) N) (xOf _)=_;generalize hres:(some (BG (K5 (⟨s0,s1,s2,s3,s4,s5,s6,s7,s8,s9,s10,s11,s12,s13,s14,s15,s16,s17,s18,s19,s20,s21,s22,s23,s24,s25,s26,s27⟩:Inn) n)):Option (List PV))=RR;simp only [H6,QK,lq9,std,xOf,PXb,PXc,PXn,PXm,Nat.reduceAdd,Int.reduceBEq,TE h];subst hres;simp only [K5];cases (iLt n 0||iLt (IntKind.i64.wrap ((s24.length:Int) - 2)) n)<;>rfl
def RC (r:Rul) (s:Inn):Int :=
 cond (!inR s.keeper s.subs.length||HN s s.keeper||s.keeper==s.bowler) 17 (cond (iLt (iK r s.complete) s.outside) 16 0)
theorem gM {N:Nat} {r8:Bool} {r0:ByteArray} {r13:Rows} {s18 s20:Bool} (h:Fit s14 s16 s17 s19 s24) (hN:2097152<N) (h13:r13.length≤1048576):Hs N [.str r0,.int r1,.int r2,.int r3,.int r4,.int r5,.int r6,.int r7,.bool r8,.int r9,.int r10,.int r11,.int r12,.rows r13,.int s0,.int s1,.int s2,.int s3,.int s4,.int s5,.int s6,.int s7,.int s8,.int s9,.int s10,.int s11,.int s12,.int s13,.rows s14,.int s15,.rows s16,.rows s17,.bool s18,.rows s19,.bool s20,.int s21,.int s22,.int s23,.rows s24,.int s25,.int s26,.int s27]=some [.int (RC (⟨r0,r1,r2,r3,r4,r5,r6,r7,r8,r9,r10,r11,r12,r13⟩:Rul) (⟨s0,s1,s2,s3,s4,s5,s6,s7,s8,s9,s10,s11,s12,s13,s14,s15,s16,s17,s18,s19,s20,s21,s22,s23,s24,s25,s26,s27⟩:Inn))]:=by
 show Kh (std (Fl N) N) (xOf _)=_;generalize hres:(some [.int (RC (⟨r0,r1,r2,r3,r4,r5,r6,r7,r8,r9,r10,r11,r12,r13⟩:Rul) (⟨s0,s1,s2,s3,s4,s5,s6,s7,s8,s9,s10,s11,s12,s13,s14,s15,s16,s17,s18,s19,s20,s21,s22,s23,s24,s25,s26,s27⟩:Inn))]:Option (List PV))=RR;simp only [Kh,QB,Nj,Of,lq9,std,xOf,PXb,PXc,PXn,PXm,Nat.reduceAdd,Int.reduceBEq,Ha,HE h.sb,bl hN h13];subst hres;simp only [RC];cases inR s22 s24.length<;>cases HN (⟨s0,s1,s2,s3,s4,s5,s6,s7,s8,s9,s10,s11,s12,s13,s14,s15,s16,s17,s18,s19,s20,s21,s22,s23,s24,s25,s26,s27⟩:Inn) s22<;>cases s22==s15<;>rfl
def RH (s:Inn) (d:Del):Int :=
  cond (iLt 0 d.fielder && !inR d.fielder s.subs.length) 3 (cond (iLt 0 d.fielder && !(d.sub==HN s d.fielder)) 18
    (cond (iLt 0 d.second && !inR d.second s.subs.length) 3 (cond (iLt 0 d.second&&HN s d.second) 18
      (cond (d.how==4 && !(nZ d.fielder==s.keeper)) 17 0))))
theorem fx {N:Nat} {s18 s20:Bool} {d5 d10:Bool} (h:Fit s14 s16 s17 s19 s24):Hm N [.int s0,.int s1,.int s2,.int s3,.int s4,.int s5,.int s6,.int s7,.int s8,.int s9,.int s10,.int s11,.int s12,.int s13,.rows s14,.int s15,.rows s16,.rows s17,.bool s18,.rows s19,.bool s20,.int s21,.int s22,.int s23,.rows s24,.int s25,.int s26,.int s27,.int d0,.int d1,.int d2,.int d3,.int d4,.bool d5,.int d6,.int d7,.int d8,.int d9,.bool d10,.int d11]=some [.int (RH (⟨s0,s1,s2,s3,s4,s5,s6,s7,s8,s9,s10,s11,s12,s13,s14,s15,s16,s17,s18,s19,s20,s21,s22,s23,s24,s25,s26,s27⟩:Inn) (⟨d0,d1,d2,d3,d4,d5,d6,d7,d8,d9,d10,d11⟩:Del))]:=by
 show Ks (std (H8 N) N) (xOf _)=_;generalize hres:(some [.int (RH (⟨s0,s1,s2,s3,s4,s5,s6,s7,s8,s9,s10,s11,s12,s13,s14,s15,s16,s17,s18,s19,s20,s21,s22,s23,s24,s25,s26,s27⟩:Inn) (⟨d0,d1,d2,d3,d4,d5,d6,d7,d8,d9,d10,d11⟩:Del))]:Option (List PV))=RR;simp only [Ks,QU,Nc,lq9,std,xOf,PXb,PXc,PXn,PXm,Nat.reduceAdd,Int.reduceBEq,Ha,HE h.sb];subst hres;simp only [RH,nZ,ue];cases iLt 0 d8<;>cases iLt 0 d9<;>cases inR d8 s24.length<;>cases inR d9 s24.length<;>cases d10==HN (⟨s0,s1,s2,s3,s4,s5,s6,s7,s8,s9,s10,s11,s12,s13,s14,s15,s16,s17,s18,s19,s20,s21,s22,s23,s24,s25,s26,s27⟩:Inn) d8<;>cases HN (⟨s0,s1,s2,s3,s4,s5,s6,s7,s8,s9,s10,s11,s12,s13,s14,s15,s16,s17,s18,s19,s20,s21,s22,s23,s24,s25,s26,s27⟩:Inn) d9<;>rfl
structure Cre where
 batter:Int
 wides:Int
 noballs:Int
 byes:Int
 legbyes:Int
 bowler:Int
 counts:Bool
 faced:Bool
 wicket:Bool
 swap:Bool
def Cre.ls (c:Cre):List PV:=[.int c.batter,.int c.wides,.int c.noballs,.int c.byes,.int c.legbyes,.int c.bowler,.bool c.counts,.bool c.faced,.bool c.wicket,.bool c.swap]
def XQ (d:Del):Bool :=
  cond (d.type==2) (d.source==0 && !(d.boundary==6)) (cond (d.source==0) (d.runs==0&&d.boundary==0)
    (cond (d.boundary==0) (iLt 0 d.runs) (cond (d.boundary==6) (d.source==1&&d.runs==0) true)))
def FO (d:Del):Int :=
  cond (iLt d.type 1||iLt 3 d.type||iLt 3 d.source||iLt 10 d.how || !btw d.sector 0 8) 11
    (cond (!btw d.runs 0 7 || !btw d.short 0 d.runs||(!(d.boundary==0) && !(d.boundary==4) && !(d.boundary==6))) 12
      (cond (!XQ d) 11 (cond (!(d.sector==0) && !(d.source==1) && !(d.how==2)) 11 (cond (!(d.boundary==0) && !(d.how==0)) 11
        (cond (d.crossed && !(d.how==6) && !(d.how==8)) 11 0)))))
def KA (d:Del):Bool :=
  cond (d.type==2) (d.source==0 && !(d.boundary==6)) (cond (d.source==0) (d.runs==0&&d.boundary==0)
    (cond (d.source==1) (!(d.boundary==6)||d.runs==0) (!(d.boundary==6)&&(iLt 0 d.runs || !(d.boundary==0)))))
theorem WG {N:Nat} {d5 d10:Bool}  : DJ N [.int d0,.int d1,.int d2,.int d3,.int d4,.bool d5,.int d6,.int d7,.int d8,.int d9,.bool d10,.int d11]=some [.bool (KA (⟨d0,d1,d2,d3,d4,d5,d6,d7,d8,d9,d10,d11⟩:Del))]:=by
 show Ez (std (Lg N) N) (xOf _)=_;generalize hres:(some [.bool (KA (⟨d0,d1,d2,d3,d4,d5,d6,d7,d8,d9,d10,d11⟩:Del))]:Option (List PV))=RR;simp only [Ez,lq9,std,xOf,PXb,PXc,PXn,PXm,Nat.reduceAdd,Int.reduceBEq];subst hres;simp only [KA]
theorem vM (x a b:Int):(!btw x a b)=(iLt x a||iLt b x):=by
 unfold btw iLe iLt;rw [Bool.eq_iff_iff];simp only [Bool.not_eq_true',Bool.and_eq_false_iff,decide_eq_false_iff_not,Bool.or_eq_true,decide_eq_true_eq];omega
theorem sL {d:Del} (h:0≤d.runs):(!KA d || !d.type==2&&d.source==1&&d.runs==0&&d.boundary==0) = !XQ d:=by
 unfold KA XQ;rw [rm h];cases h1:d.source==0 with
 | true =>
  rw [dV h1 (c:=1) rfl];cases d.type==2<;>cases d.runs==0<;>cases d.boundary==0<;>cases d.boundary==6<;>rfl
 | false =>
  cases h2:d.boundary==0 with
  | true =>
   rw [dV h2 (c:=6) rfl];cases d.type==2<;>cases d.source==1<;>cases d.runs==0<;>rfl
  | false=>cases d.type==2<;>cases d.source==1<;>cases d.runs==0<;>cases d.boundary==6<;>rfl
theorem Rb {N:Nat} {d5 d10:Bool}  : CF N [.int d0,.int d1,.int d2,.int d3,.int d4,.bool d5,.int d6,.int d7,.int d8,.int d9,.bool d10,.int d11]=some [.int (FO (⟨d0,d1,d2,d3,d4,d5,d6,d7,d8,d9,d10,d11⟩:Del))]:=by
 show HG (std (JH N) N) (xOf _)=_;generalize hres:(some [.int (FO (⟨d0,d1,d2,d3,d4,d5,d6,d7,d8,d9,d10,d11⟩:Del))]:Option (List PV))=RR;simp only [HG,Jy,lq9,std,xOf,PXb,PXc,PXn,PXm,Nat.reduceAdd,Int.reduceBEq,WG];subst hres;simp only [FO,vM,Bool.or_assoc];cases h2:(iLt d2 0||(iLt 7 d2||(iLt d3 0||(iLt d2 d3 || !d4==0 && !d4==4 && !d4==6)))) with
 | true=>rfl
 | false =>
  have h3:0≤d2:=by
   rw [Bool.or_eq_false_iff] at h2;have:=h2.1;simp only [iLt,decide_eq_false_iff_not] at this;omega
  have:=sL (d:=(⟨d0,d1,d2,d3,d4,d5,d6,d7,d8,d9,d10,d11⟩:Del)) h3;simp only at this;rw [this]
theorem Zs {N:Nat} {a:Int} {b:Int} {c:Int} {d:Int} {e:Int} {x:Int} {p:Bool} {q:Bool} {u:Bool} {v:Bool}  : Ed N [.int a,.int b,.int c,.int d,.int e,.int x,.bool p,.bool q,.bool u,.bool v]=some [.int (IntKind.i64.wrap (IntKind.i64.wrap (IntKind.i64.wrap (IntKind.i64.wrap (a+b)+c)+d)+e))]:=by
 rfl
def En (c:Cre):Int:=IntKind.i64.wrap (IntKind.i64.wrap (IntKind.i64.wrap (IntKind.i64.wrap (c.batter+c.wides)+c.noballs)+c.byes)+c.legbyes)
def dj (h:Int):Bool:=iLe 1 h&&iLe h 5
theorem WI {N:Nat} {h:Int}  : DL N [.int h]=some [.bool (dj h)]:=by
 show E5 (std (LV N) N) (xOf _)=_;simp only [E5,lq9,std,xOf,PXb,PXc,PXn,PXm,Nat.reduceAdd,Int.reduceBEq,dj]
def S1 (r:Rul) (d:Del):Cre :=
  let n:=IntKind.i64.wrap (IntKind.i64.wrap (d.runs - d.short)+d.boundary)
  let b:=cond (!(d.type==2)&&d.source==1) n 0
  let w:=cond (d.type==2) (IntKind.i64.wrap (r.wide+n)) 0
  let o:=cond (d.type==3) r.noball 0
  { batter:=b,wides:=w,noballs:=o,byes:=cond (!(d.type==2)&&d.source==2) n 0,legbyes:=cond (!(d.type==2)&&d.source==3) n 0,bowler:=IntKind.i64.wrap (IntKind.i64.wrap (b+w)+o),
    counts:=d.type==1,faced := !(d.type==2),wicket:=dj d.how,swap := !((!(d.runs.tmod 2==0))==d.crossed) }
def AE (r:Rul) (d:Del):Cre:=cond (!(FO d==0)) ⟨0,0,0,0,0,0,false,false,false,false⟩ (S1 r d)
theorem mg {d:Del} (h:(FO d==0)=true):0≤d.runs∧d.runs≤7:=by
 unfold FO at h;cases h1:(iLt d.type 1||iLt 3 d.type||iLt 3 d.source||iLt 10 d.how || !btw d.sector 0 8) with
 | true=>rw [h1] at h;cases h
 | false =>
  cases h2:(!btw d.runs 0 7 || !btw d.short 0 d.runs||(!(d.boundary==0) && !(d.boundary==4) && !(d.boundary==6))) with
  | true=>rw [h1,h2] at h;cases h
  | false =>
   rw [Bool.or_eq_false_iff,Bool.or_eq_false_iff] at h2;have:=h2.1.1;simp only [btw,iLe,Bool.not_eq_false',zzk,decide_eq_true_eq] at this;exact this
theorem rt {n:Int} (h:0≤n∧n≤7) (b:Bool):((cond b (IntKind.i64.wrap (n+1)) n).tmod 2==1) = !((!(n.tmod 2==0))==b):=by
 obtain ⟨k,rfl⟩:∃ k:Nat,n=k:=⟨n.toNat,by omega⟩;have:k=0∨k=1∨k=2∨k=3∨k=4∨k=5∨k=6∨k=7:=by omega
 rcases this with h | h | h | h | h | h | h | h<;>subst h<;>cases b<;>rfl
theorem PY {N:Nat} {r8:Bool} {r0:ByteArray} {r13:Rows} {d5 d10:Bool}  : B4 N [.str r0,.int r1,.int r2,.int r3,.int r4,.int r5,.int r6,.int r7,.bool r8,.int r9,.int r10,.int r11,.int r12,.rows r13,.int d0,.int d1,.int d2,.int d3,.int d4,.bool d5,.int d6,.int d7,.int d8,.int d9,.bool d10,.int d11]=some (AE (⟨r0,r1,r2,r3,r4,r5,r6,r7,r8,r9,r10,r11,r12,r13⟩:Rul) (⟨d0,d1,d2,d3,d4,d5,d6,d7,d8,d9,d10,d11⟩:Del)).ls:=by
 show GH (std (E6 N) N) (xOf _)=_;generalize hres:(some (AE (⟨r0,r1,r2,r3,r4,r5,r6,r7,r8,r9,r10,r11,r12,r13⟩:Rul) (⟨d0,d1,d2,d3,d4,d5,d6,d7,d8,d9,d10,d11⟩:Del)).ls:Option (List PV))=RR;simp only [GH,LN,Jf,lq9,std,xOf,PXb,PXc,PXn,PXm,Nat.reduceAdd,Int.reduceBEq,Rb,WI];subst hres;simp only [AE,S1];cases hl:FO (⟨d0,d1,d2,d3,d4,d5,d6,d7,d8,d9,d10,d11⟩:Del)==0 with
 | false=>rfl
 | true =>
  have hs:=rt (mg hl) d5;simp only at hs;simp only [PXb,PXc,PXn,PXm,Nat.reduceAdd,Int.reduceBEq,hs];cases h0:d0==2<;>cases h3:d0==3<;>cases h1:d1==1<;>cases h2:d1==2<;>cases h4:d1==3<;>first
   | rfl
   | (rw [dV h0 (c:=3) rfl] at h3;exact absurd h3 (by decide))
   | (rw [dV h1 (c:=2) rfl] at h2;exact absurd h2 (by decide))
   | (rw [dV h1 (c:=3) rfl] at h4;exact absurd h4 (by decide))
   | (rw [dV h2 (c:=3) rfl] at h4;exact absurd h4 (by decide))
def onS (h t:Int):Bool :=
 cond (h==1||h==2||h==3) (t==1) (cond (h==4||h==5) (t==1||t==2) (cond (h==7) (t==1||t==3) (cond (h==6||h==8) (t==1||t==2||t==3) false)))
def gW (h:Int):Bool:=h==6||h==7||h==8
def N0 (h:Int):Bool:=h==6||h==8
def cd (h:Int):Bool:=h==2||h==4||h==6
def QV (d:Del) (free:Bool):Int :=
  cond (d.how==0) (cond (!(d.victim==0)) 14 (cond (!(d.fielder==0) || !(d.second==0)||d.sub) 15 0))
    (cond (!onS d.how d.type||free && !gW d.how) 13 (cond (!N0 d.how&&(!(d.source==0) || !(d.runs==0))) 12
      (cond (!(d.victim==1) && !(d.victim==2&&N0 d.how)) 14
        (cond (cd d.how && !btw d.fielder 1 11 || !cd d.how && !(d.fielder==0)) 15
          (cond (!(d.second==0)&&(!(d.how==6) || !btw d.second 1 11||d.second==d.fielder)) 15
            (cond (d.sub && !(d.how==2) && !(d.how==6)) 18 0))))))
def Bp:Rows:=match Be 0 [] with
 | some [.rows l]=>l
 | _=>[]
theorem Pd {N:Nat}:Be N []=some [.rows Bp]:=rfl
theorem Zy:Bp.length=11:=rfl
theorem Xf {N:Nat} {h:Int} {n:ByteArray} {b:Bool} {c:Bool} {d:Bool} {e:Bool} {x:Bool} {t:Int}  : DW N [.int h,.str n,.bool b,.bool c,.bool d,.bool e,.bool x,.int t]=some [.bool (t==1&&b||t==2&&c||t==3&&d)]:=by
 show FY (std (L7 N) N) (xOf _)=_;simp only [FY,lq9,std,xOf,PXb,PXc,PXn,PXm,Nat.reduceAdd,Int.reduceBEq]
theorem TP {N:Nat} {n:Int}  : Ce N [.int n]=some [.bool (btw n 1 11)]:=by
 show DS (std (I8 N) N) (xOf _)=_;simp only [DS,lq9,std,xOf,PXb,PXc,PXn,PXm,Nat.reduceAdd,Int.reduceBEq];rfl
def nE (i j:Nat):Bool:=pvB (AF Bp i j)
def wOk (t:Int) (free:Bool) (i:Nat):Bool :=
  (t==1&&nE i 2||t==2&&nE i 3||t==3&&nE i 4)&&(!free||atI Bp i 0==6||atI Bp i 0==7||atI Bp i 0==8)
def HL (t:Int) (free:Bool):Nat→Rows
 | 0=>[]
 | i+1=>cond (wOk t free i) (HL t free i++[[.int (atI Bp i 0)]]) (HL t free i)
theorem Zc (t:Int) (free:Bool):∀ i,(HL t free i).length≤i
 | 0=>Nat.le_refl _
 | i+1=>by
  have:=Zc t free i;unfold HL;cases wOk t free i
  ·exact Nat.le_succ_of_le this
  ·simp;exact this
theorem Zg {N:Nat} {t:Int} {f:Bool} (hN:2097152<N):Eo N [.int t,.bool f]=some [.rows (HL t f 11)]:=by
 show HR (std (F1 N) N) (xOf _)=_;simp only [HR,LJ,KQ,lq9,std,xOf,PXb,PXc,PXn,AG,Pd,Xf];refine Ad (DQ (len:=Bp.length) (fun i=>[.rows (HL t f i),.int (i:Int)]) [.rows (HL t f 11)] ?_ ?_ N (by rw [Zy];omega)) rfl
 ·intro self;simp only [PXb,PXc,PXn,AG,Bh];rfl
 ·intro i self hi;have hi2:i<11:=hi;have h2:(HL t f i++[[PV.int (atI Bp i 0)]]).length≤4194304:=by have:=Zc t f i;simp;omega
  simp only [PXb,PXc,AG,BC (show i≤1099511627776 by omega),BR hi,Ax hi,Dw,HL,ID h2 (show 1≤4096 by omega)];unfold wOk nE;cases ((t==1&&pvB (AF Bp i 2)||t==2&&pvB (AF Bp i 3)||t==3&&pvB (AF Bp i 4))&&(!f||atI Bp i 0==6||atI Bp i 0==7||atI Bp i 0==8))<;>rfl
theorem Xj {N:Nat} {L:Rows} {v:Int} (hN:L.length<N) (hl:L.length≤1048576):DZ N [.rows L,.int v]=some [.int (O8 (fun j=>v==atI L j 0) L.length)]:=by
 show FP (std (L4 N) N) (xOf _)=_;simp only [FP,lq9,std,xOf,PXb,PXc,PXn,AG];refine Ad (C6 (len:=L.length) (F4 fun j=>v==atI L j 0) ?_ ?_ L.length 0 N (by omega) (by omega)) ?_
 ·intro self;simp only [PXb,PXc,PXn,AG,Bh]
 ·intro i self hi;simp only [PXb,PXc,PXn,AG,BC (show i≤1099511627776 by omega),BR hi,Ax hi,F4,Dw];cases v==atI L i 0<;>rfl
 ·unfold O8;cases CC (F4 fun j=>v==atI L j 0) L.length 0<;>rfl
theorem UJ {N:Nat} {L:Rows} {v:Int} (hN:L.length<N) (hl:L.length≤1048576):Ct N [.rows L,.int v]=some [.bool (J6 L L.length v)]:=by
 show Ds (std (FE N) N) (xOf _)=_;simp only [Ds,H4,lq9,std,xOf,PXb,PXc,PXn,AG,Xj hN hl,Jr,J6]
theorem qm (L:Rows) (v:Int):J6 L L.length v=Jw (fun x=>v==x) L:=rfl
theorem uK (p:Int→Bool) (b:Bool) (L:Rows) (x:Int):Jw p (cond b (L++[[.int x]]) L)=(Jw p L||(b&&p x)):=by
 cases b with
 | false=>simp
 | true=>rw [cond_true,iP,Bool.true_and];congr 1;rw [N1];simp [AD,pvI]
theorem jK (t:Int) (free:Bool) (p:Int→Bool):∀ i,Jw p (HL t free i)=Bd (fun j=>wOk t free j&&p (atI Bp j 0)) i 0
 | 0=>rfl
 | i+1=>by rw [XJ,← jK t free p i,HL,uK,Nat.zero_add]
theorem pz (t h:Int) (free:Bool):J6 (HL t free 11) (HL t free 11).length h=(onS h t&&(!free||gW h)):=by
 rw [qm,jK];have key:∀ j,j<11→atI Bp j 0=j:=by
  intro j hj;have:j=0∨j=1∨j=2∨j=3∨j=4∨j=5∨j=6∨j=7∨j=8∨j=9∨j=10:=by omega
  rcases this with h | h | h | h | h | h | h | h | h | h | h<;>subst h<;>rfl
 by_cases hr:0≤h∧h≤10
 ·obtain ⟨k,rfl⟩:∃ k:Nat,h=k:=⟨h.toNat,by omega⟩;have:k=0∨k=1∨k=2∨k=3∨k=4∨k=5∨k=6∨k=7∨k=8∨k=9∨k=10:=by omega
  rcases this with h | h | h | h | h | h | h | h | h | h | h<;>subst h<;>simp only [B5,JI,wOk,onS]<;>cases free<;>cases t==1<;>cases t==2<;>cases t==3<;>rfl
 ·rw [HC.2 fun j _ hj=>by
   rw [key j (by omega),show (h==(j:Int))=false from beq_false_of_ne (by omega),Bool.and_false]]
  have e:∀ n:Int,0≤n→n≤10→(h==n)=false:=fun n h0 h1=>beq_false_of_ne (by omega)
  unfold onS;rw [e 1 (by omega) (by omega),e 2 (by omega) (by omega),e 3 (by omega) (by omega),e 4 (by omega) (by omega),e 5 (by omega) (by omega),e 6 (by omega) (by omega),e 7 (by omega) (by omega),e 8 (by omega) (by omega)];rfl
def Uz (h:Int):List PV:=match CC (fun i=>cond (atI Bp i 0==h) (some [.int (pvI (AF Bp i 0)),.str (pvS (AF Bp i 1)),.bool (pvB (AF Bp i 2)),.bool (pvB (AF Bp i 3)),.bool (pvB (AF Bp i 4)),.bool (pvB (AF Bp i 5)),.bool (pvB (AF Bp i 6))]) none) 11 0 with
 | some r=>r
 | none=>[.int 0,.str ⟨#[]⟩,.bool false,.bool false,.bool false,.bool false,.bool false]
theorem QP {ans:Nat→Option (List PV)} {r:List PV}:∀ (k i:Nat),CC ans k i=some r→∃ j,i≤j∧j<i+k∧ans j=some r
 | 0,i,h=>by cases h
 | k+1,i,h=>by
  simp only [CC] at h;cases ha:ans i with
  | some x=>rw [ha] at h;cases h;exact ⟨i,Nat.le_refl _,by omega,ha⟩
  | none =>
   rw [ha] at h;obtain ⟨j,h1,h2,h3⟩:=QP k (i+1) h;exact ⟨j,by omega,by omega,h3⟩
theorem qe (h:Int):∃ a b c d e f g,Uz h=[.int a,.str b,.bool c,.bool d,.bool e,.bool f,.bool g]:=by
 unfold Uz;generalize hf:CC _ 11 0=o;cases o with
 | none=>exact ⟨_,_,_,_,_,_,_,rfl⟩
 | some r =>
  obtain ⟨j,_,_,h3⟩:=QP _ _ hf;cases hb:atI Bp j 0==h with
  | false=>rw [hb] at h3;cases h3
  | true=>rw [hb] at h3;cases h3;exact ⟨_,_,_,_,_,_,_,rfl⟩
theorem dE {N:Nat} {h:Int} (hN:2097152<N):G2 N [.int h]=some (Uz h):=by
 show JM (std (K7 N) N) (xOf _)=_;simp only [JM,Lu,lq9,std,xOf,PXb,PXc,PXn,AG,Pd];refine Ad (C6 (len:=Bp.length) (fun i=>cond (atI Bp i 0==h) (some [.int (pvI (AF Bp i 0)),.str (pvS (AF Bp i 1)),.bool (pvB (AF Bp i 2)),.bool (pvB (AF Bp i 3)),.bool (pvB (AF Bp i 4)),.bool (pvB (AF Bp i 5)),.bool (pvB (AF Bp i 6))]) none) ?_ ?_ Bp.length 0 N (by omega) (by rw [Zy];omega)) ?_
 ·intro self;simp only [PXb,PXc,PXn,AG,Bh]
 ·intro i self hi;have hi2:i<11:=hi;simp only [PXb,PXc,PXn,AG,BC (show i≤1099511627776 by omega),BR hi,Ax hi,Dw];cases atI Bp i 0==h<;>rfl
 ·unfold Uz;rw [Zy];generalize hf:CC _ 11 0=o;cases o with
  | none=>rfl
  | some r =>
   obtain ⟨j,_,_,h3⟩:=QP _ _ hf;cases hb:atI Bp j 0==h with
   | false=>rw [hb] at h3;cases h3
   | true=>rw [hb] at h3;cases h3;rfl
theorem oF (h:Int):pvB (AD (Uz h) 5)=cd h∧pvB (AD (Uz h) 6)=N0 h:=by
 by_cases hr:0≤h∧h≤10
 ·obtain ⟨k,rfl⟩:∃ k:Nat,h=k:=⟨h.toNat,by omega⟩;have:k=0∨k=1∨k=2∨k=3∨k=4∨k=5∨k=6∨k=7∨k=8∨k=9∨k=10:=by omega
  rcases this with h | h | h | h | h | h | h | h | h | h | h<;>subst h<;>exact ⟨rfl,rfl⟩
 ·have e:∀ n:Int,0≤n→n≤10→(h==n)=false:=fun n h0 h1=>beq_false_of_ne (by omega)
  have key:∀ j,j<11→atI Bp j 0=j:=by
   intro j hj;have:j=0∨j=1∨j=2∨j=3∨j=4∨j=5∨j=6∨j=7∨j=8∨j=9∨j=10:=by omega
   rcases this with h | h | h | h | h | h | h | h | h | h | h<;>subst h<;>rfl
  unfold Uz;generalize hf:CC _ 11 0=o;cases o with
  | none =>
   unfold cd N0;rw [e 2 (by omega) (by omega),e 4 (by omega) (by omega),e 6 (by omega) (by omega),e 8 (by omega) (by omega)];exact ⟨rfl,rfl⟩
  | some r =>
   obtain ⟨j,_,hj,h3⟩:=QP _ _ hf;rw [key j (by omega),show ((j:Int)==h)=false from beq_false_of_ne (by omega)] at h3;cases h3
def On (d:Del) (m:Bool):Bool :=
 !(!(m==btw d.fielder 1 11) || !m && !(d.fielder==0))&&(d.second==0||d.how==6&&btw d.second 1 11 && !(d.second==d.fielder))
theorem Up {N:Nat} {d5 d10:Bool} {a:Int} {n:ByteArray} {b:Bool} {c:Bool} {e:Bool} {f:Bool} {g:Bool}  : Cy N [.int d0,.int d1,.int d2,.int d3,.int d4,.bool d5,.int d6,.int d7,.int d8,.int d9,.bool d10,.int d11,.int a,.str n,.bool b,.bool c,.bool e,.bool f,.bool g]=some [.bool (On (⟨d0,d1,d2,d3,d4,d5,d6,d7,d8,d9,d10,d11⟩:Del) f)]:=by
 show EL (std (F7 N) N) (xOf _)=_;generalize hres:(some [.bool (On (⟨d0,d1,d2,d3,d4,d5,d6,d7,d8,d9,d10,d11⟩:Del) f)]:Option (List PV))=RR;simp only [EL,G3,lq9,std,xOf,PXb,PXc,PXn,PXm,Nat.reduceAdd,Int.reduceBEq,TP];subst hres;simp only [On];cases d9==0<;>cases d6==6<;>cases f<;>cases btw d8 1 11<;>cases d8==0<;>first | rfl | (cases btw d9 1 11<;>rfl)
theorem vB {α:Type} (a b:Bool) (x y:α):cond (a||b) x y=cond a x (cond b x y):=by cases a<;>rfl
theorem kw (d:Del) (m:Bool):(!On d m)=((m && !btw d.fielder 1 11 || !m && !(d.fielder==0))||(!(d.second==0)&&(!(d.how==6) || !btw d.second 1 11||d.second==d.fielder))):=by
 unfold On;cases hb:btw d.fielder 1 11<;>cases hf:d.fielder==0
 ·cases m<;>cases d.second==0<;>cases d.how==6<;>cases btw d.second 1 11<;>cases d.second==d.fielder<;>rfl
 ·cases m<;>cases d.second==0<;>cases d.how==6<;>cases btw d.second 1 11<;>cases d.second==d.fielder<;>rfl
 ·cases m<;>cases d.second==0<;>cases d.how==6<;>cases btw d.second 1 11<;>cases d.second==d.fielder<;>rfl
 ·rw [beq_iff_eq.1 hf] at hb;exact absurd hb (by decide)
theorem U2 {N:Nat} {d5 d10:Bool} {f:Bool} (hN:2097152<N):Cw N [.int d0,.int d1,.int d2,.int d3,.int d4,.bool d5,.int d6,.int d7,.int d8,.int d9,.bool d10,.int d11,.bool f]=some [.int (QV (⟨d0,d1,d2,d3,d4,d5,d6,d7,d8,d9,d10,d11⟩:Del) f)]:=by
 show EK (std (B0 N) N) (xOf _)=_;generalize hres:(some [.int (QV (⟨d0,d1,d2,d3,d4,d5,d6,d7,d8,d9,d10,d11⟩:Del) f)]:Option (List PV))=RR;have hl:=Zc d0 f 11;obtain ⟨a,b,c,d,e,m,g,hline⟩:=qe d6;have hbits:=oF d6;rw [hline] at hbits;have hm:m=cd d6:=hbits.1;have hg:g=N0 d6:=hbits.2;have h1:(HL d0 f 11).length<N:=by omega
 have h2:(HL d0 f 11).length≤1048576:=by omega
 simp only [EK,KI,HT,JR,Hi,lq9,std,xOf,PXb,PXc,PXn,PXm,Nat.reduceAdd,Int.reduceBEq,dE hN,hline,Zg hN,UJ h1 h2,pz,Up,kw];subst hres;simp only [QV,vB];rw [hm,hg];unfold N0;cases d6==0<;>cases onS d6 d0<;>cases f<;>cases gW d6<;>try rfl
 all_goals (cases d6==6<;>cases d6==8<;>cases d7==2<;>rfl)
theorem Wc {N:Nat} {a:Int} {b:Int} {c:Int}  : Dd N [.int a,.int b,.int c]=some [.bool (btw a b c)]:=by
 show Ic (std (Ma N) N) (xOf _)=_;show some [PV.bool (cond (iLe b a) (iLe a c) false)]=_;rw [cZ];rfl
theorem cD {N:Nat} {a:Int} {b:Int} {c:Int}  : Fz N [.int a,.int b,.int c]=some [.bool (btw a b c)]:=by
 show MN (std (Pk N) N) (xOf _)=_;show some [PV.bool (cond (iLe b a) (iLe a c) false)]=_;rw [cZ];rfl
def gf (d:Del):Int :=
  cond (iLt d.type 1||iLt 3 d.type||iLt 3 d.source||iLt 10 d.how) 3
    (cond (!btw d.runs 0 7 || !btw d.short 0 d.runs||(!(d.boundary==0) && !(d.boundary==4) && !(d.boundary==6)) || !btw d.victim 0 2 || !btw d.fielder 0 11 || !btw d.second 0 11 || !btw d.sector 0 8) 2 0)
theorem ZS {N:Nat} {d5 d10:Bool}  : Ee N [.int d0,.int d1,.int d2,.int d3,.int d4,.bool d5,.int d6,.int d7,.int d8,.int d9,.bool d10,.int d11]=some [.int (gf (⟨d0,d1,d2,d3,d4,d5,d6,d7,d8,d9,d10,d11⟩:Del))]:=by
 show HV (std (I4 N) N) (xOf _)=_;generalize hres:(some [.int (gf (⟨d0,d1,d2,d3,d4,d5,d6,d7,d8,d9,d10,d11⟩:Del))]:Option (List PV))=RR;simp only [HV,KH,lq9,std,xOf,PXb,PXc,PXn,PXm,Nat.reduceAdd,Int.reduceBEq,Wc];subst hres;simp only [gf]
def loS (k:Int):Int:=cond (k==7) 0 (cond (k==13) 1 0)
def hiS (k:Int):Int:=cond (k==7) 11 (cond (k==13) 99 100000)
theorem eF {N:Nat} {k:Int}  : GW N [.int k]=some [.int (loS k),.int (hiS k)]:=by
 show Ji (std (Re N) N) (xOf _)=_;simp only [Ji,lq9,std,xOf,PXb,PXc,PXn,PXm,Nat.reduceAdd,Int.reduceBEq];unfold loS hiS;cases k==7<;>cases k==13<;>rfl
def uS (k:Int):Bool:=k==1||k==12||k==14||k==11||k==13
def uP (k:Int):Bool:=k==2||k==3||k==8||k==5||k==6||k==9
def uO (k:Int):Bool:=k==2
def uY (k:Int):Bool:=k==1||k==12||k==14||k==5||k==6||k==9
def uR (k:Int):Bool:=k==7||k==13||k==15
def uV (k:Int):Bool:=k==15
def uB (k:Int):Bool:=k==4
theorem dX {k:Int} (h:(iLt k 1||iLt 16 k)=false):k=1∨k=2∨k=3∨k=4∨k=5∨k=6∨k=7∨k=8∨k=9∨k=10∨k=11∨k=12∨k=13∨k=14∨k=15∨k=16:=by
 simp only [iLt,Bool.or_eq_false_iff,decide_eq_false_iff_not] at h;omega
def ni:Rows:=match FJ 0 [] with
 | some [.rows l]=>l
 | _=>[]
theorem fw {N:Nat}:FJ N []=some [.rows ni]:=rfl
def DF (k f:Int):Bool:=iLe 0 (Lib.indexByte (pvS (AF ni (IntKind.u8.wrap (k - 1)).toNat 1)).data.toList f.toNat.toUInt8)||(k==5&&f==121)
theorem WJ {N:Nat} {s:ByteArray} {f:Int}  : DK N [.str s,.int f]=some [.int (Lib.indexByte s.data.toList f.toNat.toUInt8)]:=by
 show E7 (std (Gw N) N) (xOf _)=_;simp only [E7,G4,lq9,std,xOf,PXb,PXc,PXn,PXm,Nat.reduceAdd,Int.reduceBEq,CT,aE]
theorem Ws {N:Nat} {k:Int} {f:Int} (h:(iLt k 1||iLt 16 k)=false):Ia N [.int k,.int f]=some [.bool (DF k f)]:=by
 show Mm (std (JX N) N) (xOf _)=_;have hi:iIn (IntKind.u8.wrap (k - 1)) (ni.length:Int)=true:=by
  rcases dX h with h | h | h | h | h | h | h | h | h | h | h | h | h | h | h | h<;>subst h<;>rfl
 simp only [Mm,M1,Rk,lq9,std,xOf,PXb,PXc,PXn,PXm,Nat.reduceAdd,Int.reduceBEq,fw,WJ,hi,DF]
theorem uL {k:Int} (h:(iLt k 1||iLt 16 k)=false):DF k 115=uS k∧DF k 112=uP k∧DF k 111=uO k∧DF k 121=uY k∧DF k 114=uR k∧DF k 118=uV k∧DF k 98=uB k:=by
 rcases dX h with h | h | h | h | h | h | h | h | h | h | h | h | h | h | h | h<;>subst h<;>exact ⟨rfl,rfl,rfl,rfl,rfl,rfl,rfl⟩
def nT (d:Del):Bool:=d.type==0&&(d.source==0&&(d.runs==0&&(d.short==0&&(d.boundary==0&&(d.crossed==false&&(d.how==0&&(d.victim==0&&(d.fielder==0&&(d.second==0&&(d.sub==false&&d.sector==0))))))))))
def gt (e:Ev):Bool:=(!(e.side==0) && !uS e.kind)||((!(e.player==0) && !uP e.kind)||((!(e.other==0) && !uO e.kind)||((e.yes && !uY e.kind)||((!(e.runs==0) && !uR e.kind)||((!(e.overs==0) && !uV e.kind)||(!nT e.ball && !uB e.kind))))))
def ZE (e:Ev):Bool:=(!btw e.side 1 2&&uS e.kind)||((!btw e.player 1 11&&uP e.kind)||((!btw e.other 1 11&&uO e.kind)||((!btw e.runs (loS e.kind) (hiS e.kind)&&uR e.kind)||(!btw e.overs 0 90&&uV e.kind))))
def evS (e:Ev):Int:=cond (iLt e.kind 1||iLt 16 e.kind) 3 (cond (gt e) 1 (cond (ZE e) 2 (cond (e.kind==4) (gf e.ball) 0)))
def evT (e:Ev):Rows:=[[.int 115,.bool (e.side==0),.bool (btw e.side 1 2)],[.int 112,.bool (e.player==0),.bool (btw e.player 1 11)],[.int 111,.bool (e.other==0),.bool (btw e.other 1 11)],[.int 121,.bool (!e.yes),.bool true],[.int 114,.bool (e.runs==0),.bool (btw e.runs (loS e.kind) (hiS e.kind))],[.int 118,.bool (e.overs==0),.bool (btw e.overs 0 90)],[.int 98,.bool (nT e.ball),.bool true]]
theorem Vb {N:Nat} {e0 e1 e2 e3 e5 e6 e7 e8 e9 e10 e11 e13 e14 e15 e16 e18:Int} {e4 e12 e17:Bool} (hN:2097152<N):C8 N [.int e0,.int e1,.int e2,.int e3,.bool e4,.int e5,.int e6,.int e7,.int e8,.int e9,.int e10,.int e11,.bool e12,.int e13,.int e14,.int e15,.int e16,.bool e17,.int e18]=some [.int (evS (⟨e0,e1,e2,e3,e4,e5,e6,⟨e7,e8,e9,e10,e11,e12,e13,e14,e15,e16,e17,e18⟩⟩:Ev))]:=by
 show Hc (std (Dm N) N) (xOf _)=_;generalize hres:(some [.int (evS (⟨e0,e1,e2,e3,e4,e5,e6,⟨e7,e8,e9,e10,e11,e12,e13,e14,e15,e16,e17,e18⟩⟩:Ev))]:Option (List PV))=RR;cases hk:iLt e0 1||iLt 16 e0 with
 | true =>
  simp only [Hc,Hb,G8,Iv,DP,lq9,std,xOf,PXb,PXc,AG,hk,← hres,evS]
 | false =>
  simp only [Hc,Hb,G8,Iv,DP,lq9,std,xOf,PXb,PXc,AG,hk,eF,cD];subst hres;obtain ⟨g1,g2,g3,g4,g5,g6,g7⟩:=uL hk;refine Ad (LD (len:=7) (fun i => !pvB (AF (evT (⟨e0,e1,e2,e3,e4,e5,e6,⟨e7,e8,e9,e10,e11,e12,e13,e14,e15,e16,e17,e18⟩⟩:Ev)) i 1) && !DF e0 (pvI (AF (evT (⟨e0,e1,e2,e3,e4,e5,e6,⟨e7,e8,e9,e10,e11,e12,e13,e14,e15,e16,e17,e18⟩⟩:Ev)) i 0))) [.int 1] ?_ ?_ N (by omega)) ?_
  ·intro self;rfl
  ·intro i self hi;simp only [PXb,PXc,AG,BC (show i≤1099511627776 by omega),List.length_cons,List.length_nil,Nat.reduceAdd,BR hi,Ax hi,Ws hk];change cond (!pvB (AF (evT (⟨e0,e1,e2,e3,e4,e5,e6,⟨e7,e8,e9,e10,e11,e12,e13,e14,e15,e16,e17,e18⟩⟩:Ev)) i 1) && !(!pvB (AF (evT (⟨e0,e1,e2,e3,e4,e5,e6,⟨e7,e8,e9,e10,e11,e12,e13,e14,e15,e16,e17,e18⟩⟩:Ev)) i 1)&&DF e0 (pvI (AF (evT (⟨e0,e1,e2,e3,e4,e5,e6,⟨e7,e8,e9,e10,e11,e12,e13,e14,e15,e16,e17,e18⟩⟩:Ev)) i 0)))) _ _=_;cases pvB (AF (evT (⟨e0,e1,e2,e3,e4,e5,e6,⟨e7,e8,e9,e10,e11,e12,e13,e14,e15,e16,e17,e18⟩⟩:Ev)) i 1)<;>rfl
  ·have a1:Bd (fun i => !pvB (AF (evT (⟨e0,e1,e2,e3,e4,e5,e6,⟨e7,e8,e9,e10,e11,e12,e13,e14,e15,e16,e17,e18⟩⟩:Ev)) i 1) && !DF e0 (pvI (AF (evT (⟨e0,e1,e2,e3,e4,e5,e6,⟨e7,e8,e9,e10,e11,e12,e13,e14,e15,e16,e17,e18⟩⟩:Ev)) i 0))) 7 0=gt (⟨e0,e1,e2,e3,e4,e5,e6,⟨e7,e8,e9,e10,e11,e12,e13,e14,e15,e16,e17,e18⟩⟩:Ev):=by
    simp only [B5,JI];change (!(e1==0) && !DF e0 115||(!(e2==0) && !DF e0 112||(!(e3==0) && !DF e0 111||(!(!e4) && !DF e0 121||(!(e5==0) && !DF e0 114||(!(e6==0) && !DF e0 118||(!(nT (⟨e0,e1,e2,e3,e4,e5,e6,⟨e7,e8,e9,e10,e11,e12,e13,e14,e15,e16,e17,e18⟩⟩:Ev).ball) && !DF e0 98||false)))))))=_;rw [g1,g2,g3,g4,g5,g6,g7,Bool.not_not,Bool.or_false];rfl
   rw [a1];simp only [evS,hk,cond_false];cases gt (⟨e0,e1,e2,e3,e4,e5,e6,⟨e7,e8,e9,e10,e11,e12,e13,e14,e15,e16,e17,e18⟩⟩:Ev) with
   | true=>rfl
   | false =>
    simp only [PXb,PXc,AG];refine Ad (LD (len:=7) (fun i => !pvB (AF (evT (⟨e0,e1,e2,e3,e4,e5,e6,⟨e7,e8,e9,e10,e11,e12,e13,e14,e15,e16,e17,e18⟩⟩:Ev)) i 2)&&DF e0 (pvI (AF (evT (⟨e0,e1,e2,e3,e4,e5,e6,⟨e7,e8,e9,e10,e11,e12,e13,e14,e15,e16,e17,e18⟩⟩:Ev)) i 0))) [.int 2] ?_ ?_ N (by omega)) ?_
    ·intro self;rfl
    ·intro i self hi;simp only [PXb,PXc,AG,BC (show i≤1099511627776 by omega),List.length_cons,List.length_nil,Nat.reduceAdd,BR hi,Ax hi,Ws hk];rfl
    ·have a2:Bd (fun i => !pvB (AF (evT (⟨e0,e1,e2,e3,e4,e5,e6,⟨e7,e8,e9,e10,e11,e12,e13,e14,e15,e16,e17,e18⟩⟩:Ev)) i 2)&&DF e0 (pvI (AF (evT (⟨e0,e1,e2,e3,e4,e5,e6,⟨e7,e8,e9,e10,e11,e12,e13,e14,e15,e16,e17,e18⟩⟩:Ev)) i 0))) 7 0=ZE (⟨e0,e1,e2,e3,e4,e5,e6,⟨e7,e8,e9,e10,e11,e12,e13,e14,e15,e16,e17,e18⟩⟩:Ev):=by
      simp only [B5,JI];change (!(btw e1 1 2)&&DF e0 115||(!(btw e2 1 11)&&DF e0 112||(!(btw e3 1 11)&&DF e0 111||(!true&&DF e0 121||(!(btw e5 (loS e0) (hiS e0))&&DF e0 114||(!(btw e6 0 90)&&DF e0 118||(!true&&DF e0 98||false)))))))=_;rw [g1,g2,g3,g4,g5,g6,g7];simp only [Bool.not_true,Bool.false_and,Bool.false_or,Bool.or_false];rfl
     rw [a2];cases ZE (⟨e0,e1,e2,e3,e4,e5,e6,⟨e7,e8,e9,e10,e11,e12,e13,e14,e15,e16,e17,e18⟩⟩:Ev) with
     | true=>rfl
     | false =>
      simp only [PXb,PXc,PXn,PXm,Nat.reduceAdd,Int.reduceBEq,DP,ZS]
theorem c4 {c x x' y y':Bool} {a b d z z':Int} (h1:x=x') (h2:y=y') (h3:z=z'):(some [PV.int (cond c a (cond x b (cond y d z)))]:Option (List PV))=some [PV.int (cond c a (cond x' b (cond y' d z')))]:=by subst h1;subst h2;subst h3;rfl
end Go.Px
end
