/- Part 11. -/
import Derived.Test.YtejjoflbpnjohaaGreatDoorPart08
import Derived.Test.YtejjoflbpnjohaaGreatDoorPart10
set_option linter.unusedVariables false
set_option linter.unusedSimpArgs false
variable {s0 s1 s2 s3 s4 s5 s6 s7 s8 s9 s10 s11 s12 s13 s15 s21 s22 s23 s25 s26 s27:Int}
variable {s14 s16 s17 s19 s24:Go.Px.Rows}
variable {r1 r2 r3 r4 r5 r6 r7 r9 r10 r11 r12:Int}
section
namespace Go.Px
set_option maxRecDepth 100000
theorem Hx {N:Nat} {s18 s20:Bool} (h:Fit s14 s16 s17 s19 s24):A6 N [.int s0,.int s1,.int s2,.int s3,.int s4,.int s5,.int s6,.int s7,.int s8,.int s9,.int s10,.int s11,.int s12,.int s13,.rows s14,.int s15,.rows s16,.rows s17,.bool s18,.rows s19,.bool s20,.int s21,.int s22,.int s23,.rows s24,.int s25,.int s26,.int s27]=some [.int s0,.int s1,.int s2,.int s3,.int s4,.int s5,.int s6,.int s7,.int s8,.int s9,.int s10,.int s11,.int s12,.int s13,.rows s14,.int s15,.rows s16,.rows s17,.bool s18,.rows s19,.bool s20,.int s21,.int s22,.int s23,.rows s24,.int s25,.int s26,.int s27]:=by
 show Pq (std (IH N) N) (xOf _)=_;simp only [Pq,OC,Qi,O9,lq9,std,xOf,PXb,PXc,PXn,PXm,Nat.reduceAdd,Int.reduceBEq,Ag,Ar,Am,Bx h.bt (show 1≤4096 by omega),Bx h.bw' (show 8≤4096 by omega),Bx h.bf (show 8≤4096 by omega),Bx h.bd (show 8≤4096 by omega),Bx h.sb (show 1≤4096 by omega)]
theorem CP {N:Nat} {s18 s20:Bool} (h:Fit s14 s16 s17 s19 s24):AR N [.int s0,.int s1,.int s2,.int s3,.int s4,.int s5,.int s6,.int s7,.int s8,.int s9,.int s10,.int s11,.int s12,.int s13,.rows s14,.int s15,.rows s16,.rows s17,.bool s18,.rows s19,.bool s20,.int s21,.int s22,.int s23,.rows s24,.int s25,.int s26,.int s27]=some [.int s0,.int s1,.int s2,.int s3,.int s4,.int s5,.int s6,.int s7,.int s8,.int s9,.int s10,.int s11,.int s12,.int s13,.rows s14,.int s15,.rows s16,.rows s17,.bool s18,.rows s19,.bool s20,.int s21,.int s22,.int s23,.rows s24,.int s25,.int s26,.int s27]:=by
 show Rl (std (dR N) N) (xOf _)=_;simp only [Rl,lq9,std,xOf,PXb,PXc,PXn,PXm,Nat.reduceAdd,Int.reduceBEq,Ks h.bt (show 1≤4096 by omega),Ks h.bw' (show 8≤4096 by omega),Ks h.bf (show 8≤4096 by omega),Ks h.bd (show 8≤4096 by omega),Ks h.sb (show 1≤4096 by omega)]
theorem H4 {N:Nat} {s18 s20:Bool} {p:Int}  : A9 N [.int s0,.int s1,.int s2,.int s3,.int s4,.int s5,.int s6,.int s7,.int s8,.int s9,.int s10,.int s11,.int s12,.int s13,.rows s14,.int s15,.rows s16,.rows s17,.bool s18,.rows s19,.bool s20,.int s21,.int s22,.int s23,.rows s24,.int s25,.int s26,.int s27,.int p]=some [.bool (inR p s14.length)]:=by
 show L2 (std (Vu N) N) (xOf _)=_;simp only [L2,lq9,std,xOf,PXb,PXc,PXn,PXm,Nat.reduceAdd,Int.reduceBEq];rfl
theorem O8 {N:Nat} {s18 s20:Bool} {p:Int}  : Bs N [.int s0,.int s1,.int s2,.int s3,.int s4,.int s5,.int s6,.int s7,.int s8,.int s9,.int s10,.int s11,.int s12,.int s13,.rows s14,.int s15,.rows s16,.rows s17,.bool s18,.rows s19,.bool s20,.int s21,.int s22,.int s23,.rows s24,.int s25,.int s26,.int s27,.int p]=some [.bool (inR p s14.length)]:=by
 show O1 (std (Z8 N) N) (xOf _)=_;simp only [O1,lq9,std,xOf,PXb,PXc,PXn,PXm,Nat.reduceAdd,Int.reduceBEq];rfl
def Ak (s:Inn) (d:Del):Inn :=
  let odd := !(d.runs.tmod 2==0) != d.crossed
  let t:Inn:=cond odd { s with striker:=s.other,other:=s.striker } s
  let k:Bool:=d.how==0
  cond (!k&&(d.victim==1 && !(s.striker==0)))
    { t with striker:=cond odd t.striker 0,other:=cond odd 0 t.other,batters:=cond (inR s.striker s.batters.length) (LN s.batters s.striker 2) s.batters,wickets:=IntKind.i64.wrap (s.wickets+1) }
    (cond (!k&&(d.victim==2 && !(s.other==0)))
      { t with striker:=cond odd 0 t.striker,other:=cond odd t.other 0,batters:=cond (inR s.other s.batters.length) (LN s.batters s.other 2) s.batters,wickets:=IntKind.i64.wrap (s.wickets+1) }
      t)
theorem uy {N:Nat} {s18 s20:Bool} {d0 d1 d2 d3 d4 d6 d7 d8 d9 d11:Int} {d5 d10:Bool} (h:Fit s14 s16 s17 s19 s24):LY N [.int s0,.int s1,.int s2,.int s3,.int s4,.int s5,.int s6,.int s7,.int s8,.int s9,.int s10,.int s11,.int s12,.int s13,.rows s14,.int s15,.rows s16,.rows s17,.bool s18,.rows s19,.bool s20,.int s21,.int s22,.int s23,.rows s24,.int s25,.int s26,.int s27,.int d0,.int d1,.int d2,.int d3,.int d4,.bool d5,.int d6,.int d7,.int d8,.int d9,.bool d10,.int d11]=some (Ak (⟨s0,s1,s2,s3,s4,s5,s6,s7,s8,s9,s10,s11,s12,s13,s14,s15,s16,s17,s18,s19,s20,s21,s22,s23,s24,s25,s26,s27⟩:Inn) (⟨d0,d1,d2,d3,d4,d5,d6,d7,d8,d9,d10,d11⟩:Del)).ls:=by
 show PY (std (Ly N) N) (xOf _)=_;simp only [PY,Wy,Ux,lq9,std,xOf,PXb,PXc,PXn,PXm,Nat.reduceAdd,Int.reduceBEq,Hx h,H4,AAo h.bt];unfold Ak;cases d5<;>cases d2.tmod 2==0<;>cases d6==0<;>cases d7==1<;>cases d7==2<;>cases s12==0<;>cases s13==0<;>rfl
def GV (s:Inn):Inn:={ s with striker:=s.other,other:=s.striker }
theorem nE {N:Nat} {s18 s20:Bool} (h:Fit s14 s16 s17 s19 s24):Ga N [.int s0,.int s1,.int s2,.int s3,.int s4,.int s5,.int s6,.int s7,.int s8,.int s9,.int s10,.int s11,.int s12,.int s13,.rows s14,.int s15,.rows s16,.rows s17,.bool s18,.rows s19,.bool s20,.int s21,.int s22,.int s23,.rows s24,.int s25,.int s26,.int s27]=some (GV (⟨s0,s1,s2,s3,s4,s5,s6,s7,s8,s9,s10,s11,s12,s13,s14,s15,s16,s17,s18,s19,s20,s21,s22,s23,s24,s25,s26,s27⟩:Inn)).ls:=by
 show Kc (std (MQ N) N) (xOf _)=_;simp only [Kc,TP,lq9,std,xOf,PXb,PXc,PXn,PXm,Nat.reduceAdd,Int.reduceBEq,Hx h];rfl
theorem ii {N:Nat} {s18 s20:Bool} (h:Fit s14 s16 s17 s19 s24):Fl N [.int s0,.int s1,.int s2,.int s3,.int s4,.int s5,.int s6,.int s7,.int s8,.int s9,.int s10,.int s11,.int s12,.int s13,.rows s14,.int s15,.rows s16,.rows s17,.bool s18,.rows s19,.bool s20,.int s21,.int s22,.int s23,.rows s24,.int s25,.int s26,.int s27]=some (GV (⟨s0,s1,s2,s3,s4,s5,s6,s7,s8,s9,s10,s11,s12,s13,s14,s15,s16,s17,s18,s19,s20,s21,s22,s23,s24,s25,s26,s27⟩:Inn)).ls:=by
 show PB (std (Q3 N) N) (xOf _)=_;simp only [PB,YJ,lq9,std,xOf,PXb,PXc,PXn,PXm,Nat.reduceAdd,Int.reduceBEq,CP h];rfl
theorem ACA {N:Nat} {s18 s20:Bool} {d0 d1 d2 d3 d4 d6 d7 d8 d9 d11:Int} {d5 d10:Bool} (h:Fit s14 s16 s17 s19 s24):X5 N [.int s0,.int s1,.int s2,.int s3,.int s4,.int s5,.int s6,.int s7,.int s8,.int s9,.int s10,.int s11,.int s12,.int s13,.rows s14,.int s15,.rows s16,.rows s17,.bool s18,.rows s19,.bool s20,.int s21,.int s22,.int s23,.rows s24,.int s25,.int s26,.int s27,.int d0,.int d1,.int d2,.int d3,.int d4,.bool d5,.int d6,.int d7,.int d8,.int d9,.bool d10,.int d11]=some (Ak (⟨s0,s1,s2,s3,s4,s5,s6,s7,s8,s9,s10,s11,s12,s13,s14,s15,s16,s17,s18,s19,s20,s21,s22,s23,s24,s25,s26,s27⟩:Inn) (⟨d0,d1,d2,d3,d4,d5,d6,d7,d8,d9,d10,d11⟩:Del)).ls:=by
 show XA (std (Ma N) N) (xOf _)=_;simp only [XA,ef,bM,cq,lq9,std,xOf,PXb,PXc,PXn,PXm,Nat.reduceAdd,Int.reduceBEq,CP h,O8,AAo h.bt,ii h,GV,Ak];cases h71:d7==1
 ·cases d5<;>cases d2.tmod 2==0<;>cases d6==0<;>cases d7==2<;>cases s12==0<;>cases s13==0<;>rfl
 ·rw [ql h71];cases d5<;>cases d2.tmod 2==0<;>cases d6==0<;>cases s12==0<;>rfl
theorem mu {N:Nat} {v:Int}  : DS N [.int v]=some [.bool (!(v==0))]:=by
 show N4 (std (SY N) N) (xOf _)=_;rfl
theorem jh {N:Nat} {v:Int}  : Ew N [.int v]=some [.bool (!(v==0))]:=by
 show ML (std (Qv N) N) (xOf _)=_;rfl
theorem Y4 {N:Nat} {s18 s20:Bool} (h:s14.length≤1048576) (hN:2097152<N):CS N [.int s0,.int s1,.int s2,.int s3,.int s4,.int s5,.int s6,.int s7,.int s8,.int s9,.int s10,.int s11,.int s12,.int s13,.rows s14,.int s15,.rows s16,.rows s17,.bool s18,.rows s19,.bool s20,.int s21,.int s22,.int s23,.rows s24,.int s25,.int s26,.int s27]=some [.bool (Bz s14)]:=by
 show FV (std (Fu N) N) (xOf _)=_;simp only [FV,HP,lq9,std,xOf,PXb,PXc,PXn,AD];rw [show Bz s14=iLe 0 (TH (fun i => !(atI s14 i 0==0)) s14.length) from (Ls _ _).symm];rw [Option.bind_assoc];refine AN (C3 (len:=s14.length) (HI fun i => !(atI s14 i 0==0)) ?_ ?_ s14.length 0 N (by omega) (by omega)) ?_
 ·intro self;simp only [PXb,PXc,PXn,AD,Aj]
 ·intro i self hi;simp only [PXb,PXc,PXn,AD,Ah (show i≤1099511627776 by omega),Ad hi,AM hi,HI,BW,HP,mu];cases atI s14 i 0==0<;>rfl
 ·unfold TH;cases Ca (HI fun i => !(atI s14 i 0==0)) s14.length 0<;>rfl
theorem o8 {N:Nat} {s18 s20:Bool} (h:s14.length≤1048576) (hN:2097152<N):Gd N [.int s0,.int s1,.int s2,.int s3,.int s4,.int s5,.int s6,.int s7,.int s8,.int s9,.int s10,.int s11,.int s12,.int s13,.rows s14,.int s15,.rows s16,.rows s17,.bool s18,.rows s19,.bool s20,.int s21,.int s22,.int s23,.rows s24,.int s25,.int s26,.int s27]=some [.bool (Bz s14)]:=by
 show KI (std (MO N) N) (xOf _)=_;simp only [KI,GB,lq9,std,xOf,PXb,PXc,PXn,AD];rw [show Bz s14=iLe 0 (TH (fun i => !(atI s14 i 0==0)) s14.length) from (Ls _ _).symm];rw [Option.bind_assoc];refine AN (C3 (len:=s14.length) (HI fun i => !(atI s14 i 0==0)) ?_ ?_ s14.length 0 N (by omega) (by omega)) ?_
 ·intro self;simp only [PXb,PXc,PXn,AD,Aj]
 ·intro i self hi;simp only [PXb,PXc,PXn,AD,Ah (show i≤1099511627776 by omega),Ad hi,AM hi,HI,BW,GB,jh];cases atI s14 i 0==0<;>rfl
 ·unfold TH;cases Ca (HI fun i => !(atI s14 i 0==0)) s14.length 0<;>rfl
theorem YE {N:Nat} {s18 s20:Bool} (h:s14.length≤1048576) (hN:2097152<N):Bu N [.int s0,.int s1,.int s2,.int s3,.int s4,.int s5,.int s6,.int s7,.int s8,.int s9,.int s10,.int s11,.int s12,.int s13,.rows s14,.int s15,.rows s16,.rows s17,.bool s18,.rows s19,.bool s20,.int s21,.int s22,.int s23,.rows s24,.int s25,.int s26,.int s27]=some [.bool (Bz s14)]:=by
 show Jt (std (TQ N) N) (xOf _)=_;simp only [Jt,lq9,std,xOf,PXb,PXc,PXn,AD];refine AN (C1 (len:=s14.length) (fun i => !(atI s14 i 0==0)) [.bool true] ?_ ?_ N (by omega)) ?_
 ·intro self;simp only [PXb,PXc,PXn,AD,Aj]
 ·intro i self hi;simp only [PXb,PXc,PXn,AD,Ah (show i≤1099511627776 by omega),Ad hi,AM hi,BW]
 ·unfold Bz;cases A1 (fun i => !(atI s14 i 0==0)) s14.length 0<;>rfl
theorem W9 {N:Nat} {s18 s20:Bool} (h:s14.length≤1048576) (hN:2097152<N):BX N [.int s0,.int s1,.int s2,.int s3,.int s4,.int s5,.int s6,.int s7,.int s8,.int s9,.int s10,.int s11,.int s12,.int s13,.rows s14,.int s15,.rows s16,.rows s17,.bool s18,.rows s19,.bool s20,.int s21,.int s22,.int s23,.rows s24,.int s25,.int s26,.int s27]=some [.bool (DZ s14 s12 s13)]:=by
 show Ed (std (E3 N) N) (xOf _)=_;simp only [Ed,Q8,lq9,std,xOf,PXb,PXc,PXn,PXm,Nat.reduceAdd,Int.reduceBEq,Y4 h hN];rfl
theorem fO {N:Nat} {s18 s20:Bool} (h:s14.length≤1048576) (hN:2097152<N):Cr N [.int s0,.int s1,.int s2,.int s3,.int s4,.int s5,.int s6,.int s7,.int s8,.int s9,.int s10,.int s11,.int s12,.int s13,.rows s14,.int s15,.rows s16,.rows s17,.bool s18,.rows s19,.bool s20,.int s21,.int s22,.int s23,.rows s24,.int s25,.int s26,.int s27]=some [.bool (DZ s14 s12 s13)]:=by
 show IQ (std (H9 N) N) (xOf _)=_;simp only [IQ,YL,lq9,std,xOf,PXb,PXc,PXn,PXm,Nat.reduceAdd,Int.reduceBEq,YE h hN];rfl
theorem uI {N:Nat} {s18 s20:Bool} (h:s14.length≤1048576) (hN:2097152<N):DP N [.int s0,.int s1,.int s2,.int s3,.int s4,.int s5,.int s6,.int s7,.int s8,.int s9,.int s10,.int s11,.int s12,.int s13,.rows s14,.int s15,.rows s16,.rows s17,.bool s18,.rows s19,.bool s20,.int s21,.int s22,.int s23,.rows s24,.int s25,.int s26,.int s27]=some [.rows (B2 s14 s14.length)]:=by
 show GR (std (O5 N) N) (xOf _)=_;simp only [GR,lq9,std,xOf,PXb,PXc,PXn,AD];refine AN (BV (len:=s14.length) (fun i=>[.rows (B2 s14 i),.int (i:Int)]) [.rows (B2 s14 s14.length)] ?_ ?_ N (by omega)) rfl
 ·intro self;simp only [PXb,PXc,PXn,AD,Aj]
 ·intro i self hi;have h2:(B2 s14 i++[[PV.int ((i:Int)+1)]]).length≤4194304:=by have:=WB s14 i;simp;omega
  simp only [PXb,PXc,PXn,AD,Ah (show i≤1099511627776 by omega),Ad hi,AM hi,BW,B2,DJ h2 (show 8≤4096 by omega)];cases (atI s14 i 0==0||atI s14 i 0==3)<;>rfl
theorem ABW {N:Nat} {s18 s20:Bool} (h:s14.length≤1048576) (hN:2097152<N):FE N [.int s0,.int s1,.int s2,.int s3,.int s4,.int s5,.int s6,.int s7,.int s8,.int s9,.int s10,.int s11,.int s12,.int s13,.rows s14,.int s15,.rows s16,.rows s17,.bool s18,.rows s19,.bool s20,.int s21,.int s22,.int s23,.rows s24,.int s25,.int s26,.int s27]=some [.rows (B2 s14 s14.length)]:=by
 show MG (std (VF N) N) (xOf _)=_;simp only [MG,lq9,std,xOf,PXb,PXc,PXn,AD];refine AN (BV (len:=s14.length) (fun i=>[.rows (B2 s14 i),.int (i:Int)]) [.rows (B2 s14 s14.length)] ?_ ?_ N (by omega)) rfl
 ·intro self;simp only [PXb,PXc,PXn,AD,Aj]
 ·intro i self hi;have h2:(B2 s14 i++[[PV.int ((i:Int)+1)]]).length≤4194304:=by have:=WB s14 i;simp;omega
  simp only [PXb,PXc,PXn,AD,Ah (show i≤1099511627776 by omega),Ad hi,AM hi,BW,B2,DJ h2 (show 8≤4096 by omega)];cases (atI s14 i 0==0||atI s14 i 0==3)<;>rfl
def MC (s:Inn) (p q:Int):Inn×Int :=
  cond (Bz s.batters) (s,1) (cond (!inR p s.batters.length || !inR q s.batters.length) (s,3) (cond (p==q) (s,4)
    ({ s with batters:=LN (LN s.batters p 1) q 1,striker:=p,other:=q },0)))
theorem tL {N:Nat} {s18 s20:Bool} {p:Int} {q:Int} (h:Fit s14 s16 s17 s19 s24) (hN:2097152<N):JV N [.int s0,.int s1,.int s2,.int s3,.int s4,.int s5,.int s6,.int s7,.int s8,.int s9,.int s10,.int s11,.int s12,.int s13,.rows s14,.int s15,.rows s16,.rows s17,.bool s18,.rows s19,.bool s20,.int s21,.int s22,.int s23,.rows s24,.int s25,.int s26,.int s27,.int p,.int q]=some (Ai (MC (⟨s0,s1,s2,s3,s4,s5,s6,s7,s8,s9,s10,s11,s12,s13,s14,s15,s16,s17,s18,s19,s20,s21,s22,s23,s24,s25,s26,s27⟩:Inn) p q)):=by
 show NI (std (Gl N) N) (xOf _)=_;generalize hres:(some (Ai (MC (⟨s0,s1,s2,s3,s4,s5,s6,s7,s8,s9,s10,s11,s12,s13,s14,s15,s16,s17,s18,s19,s20,s21,s22,s23,s24,s25,s26,s27⟩:Inn) p q)):Option (List PV))=RR;simp only [NI,VI,TL,Td,lq9,std,xOf,PXb,PXc,PXn,PXm,Nat.reduceAdd,Int.reduceBEq,Hx h,Y4 h.bt hN,H4];subst hres;simp only [MC];cases Bz s14<;>try rfl
 cases hp:inR p s14.length<;>cases hq:inR q s14.length<;>try rfl
 rw [Dw hp h.bt,Dw hq h.bt];cases p==q<;>rfl
theorem AAg {N:Nat} {s18 s20:Bool} {p:Int} {q:Int} (h:Fit s14 s16 s17 s19 s24) (hN:2097152<N):Ul N [.int s0,.int s1,.int s2,.int s3,.int s4,.int s5,.int s6,.int s7,.int s8,.int s9,.int s10,.int s11,.int s12,.int s13,.rows s14,.int s15,.rows s16,.rows s17,.bool s18,.rows s19,.bool s20,.int s21,.int s22,.int s23,.rows s24,.int s25,.int s26,.int s27,.int p,.int q]=some (Ai (MC (⟨s0,s1,s2,s3,s4,s5,s6,s7,s8,s9,s10,s11,s12,s13,s14,s15,s16,s17,s18,s19,s20,s21,s22,s23,s24,s25,s26,s27⟩:Inn) p q)):=by
 show US (std (Kp N) N) (xOf _)=_;generalize hres:(some (Ai (MC (⟨s0,s1,s2,s3,s4,s5,s6,s7,s8,s9,s10,s11,s12,s13,s14,s15,s16,s17,s18,s19,s20,s21,s22,s23,s24,s25,s26,s27⟩:Inn) p q)):Option (List PV))=RR;simp only [US,bB,bZ,ZO,lq9,std,xOf,PXb,PXc,PXn,PXm,Nat.reduceAdd,Int.reduceBEq,CP h,YE h.bt hN,O8];subst hres;simp only [MC];cases Bz s14<;>try rfl
 cases hp:inR p s14.length<;>cases hq:inR q s14.length<;>try rfl
 rw [Dw hp h.bt,Dw hq h.bt];cases p==q<;>rfl
def GK (s:Inn) (p:Int):Int :=
 cond (!inR p s.batters.length) 3 (cond (!DZ s.batters s.striker s.other||atI s.batters (ix p) 0==1) 4 (cond (atI s.batters (ix p) 0==2) 5 0))
theorem gA {N:Nat} {s18 s20:Bool} {p:Int} (h:s14.length≤1048576) (hN:2097152<N):EP N [.int s0,.int s1,.int s2,.int s3,.int s4,.int s5,.int s6,.int s7,.int s8,.int s9,.int s10,.int s11,.int s12,.int s13,.rows s14,.int s15,.rows s16,.rows s17,.bool s18,.rows s19,.bool s20,.int s21,.int s22,.int s23,.rows s24,.int s25,.int s26,.int s27,.int p]=some [.int (GK (⟨s0,s1,s2,s3,s4,s5,s6,s7,s8,s9,s10,s11,s12,s13,s14,s15,s16,s17,s18,s19,s20,s21,s22,s23,s24,s25,s26,s27⟩:Inn) p)]:=by
 show PX (std (L3 N) N) (xOf _)=_;generalize hres:(some [.int (GK (⟨s0,s1,s2,s3,s4,s5,s6,s7,s8,s9,s10,s11,s12,s13,s14,s15,s16,s17,s18,s19,s20,s21,s22,s23,s24,s25,s26,s27⟩:Inn) p)]:Option (List PV))=RR;simp only [PX,Tk,Uf,lq9,std,xOf,PXb,PXc,PXn,PXm,Nat.reduceAdd,Int.reduceBEq,H4,W9 h hN];subst hres;simp only [GK];cases hp:inR p s14.length<;>try rfl
 rw [Dw hp h];cases DZ s14 s12 s13<;>try rfl
 simp only [PXb,PXc,PXn,PXm,Nat.reduceAdd,Int.reduceBEq,atI,ix]
theorem jw {N:Nat} {s18 s20:Bool} {p:Int} (h:s14.length≤1048576) (hN:2097152<N):FM N [.int s0,.int s1,.int s2,.int s3,.int s4,.int s5,.int s6,.int s7,.int s8,.int s9,.int s10,.int s11,.int s12,.int s13,.rows s14,.int s15,.rows s16,.rows s17,.bool s18,.rows s19,.bool s20,.int s21,.int s22,.int s23,.rows s24,.int s25,.int s26,.int s27,.int p]=some [.int (GK (⟨s0,s1,s2,s3,s4,s5,s6,s7,s8,s9,s10,s11,s12,s13,s14,s15,s16,s17,s18,s19,s20,s21,s22,s23,s24,s25,s26,s27⟩:Inn) p)]:=by
 show SE (std (NS N) N) (xOf _)=_;generalize hres:(some [.int (GK (⟨s0,s1,s2,s3,s4,s5,s6,s7,s8,s9,s10,s11,s12,s13,s14,s15,s16,s17,s18,s19,s20,s21,s22,s23,s24,s25,s26,s27⟩:Inn) p)]:Option (List PV))=RR;simp only [SE,Yg,YG,lq9,std,xOf,PXb,PXc,PXn,PXm,Nat.reduceAdd,Int.reduceBEq,O8,fO h hN];subst hres;simp only [GK];cases hp:inR p s14.length<;>try rfl
 rw [Dw hp h];cases DZ s14 s12 s13<;>try rfl
 simp only [PXb,PXc,PXn,PXm,Nat.reduceAdd,Int.reduceBEq,atI,ix]
theorem TD {s:Inn} {p:Int} (h:(GK s p==0)=true):inR p s.batters.length=true:=by
 unfold GK at h;cases hp:inR p s.batters.length with
 | true=>rfl
 | false=>rw [hp] at h;cases h
def IM (s:Inn) (p:Int):Inn×Int :=
 cond (GK s p==0) ({ s with batters:=LN s.batters p 1,striker:=cond (s.striker==0) p s.striker,other:=cond (s.striker==0) s.other p },0) (s,GK s p)
def Db (s:Inn) (p:Int):Inn×Int :=
 cond (GK s p==0) ({ s with batters:=LN s.batters p 2,wickets:=IntKind.i64.wrap (s.wickets+1) },0) (s,GK s p)
theorem qM {N:Nat} {s18 s20:Bool} {p:Int} (h:Fit s14 s16 s17 s19 s24) (hN:2097152<N):Hw N [.int s0,.int s1,.int s2,.int s3,.int s4,.int s5,.int s6,.int s7,.int s8,.int s9,.int s10,.int s11,.int s12,.int s13,.rows s14,.int s15,.rows s16,.rows s17,.bool s18,.rows s19,.bool s20,.int s21,.int s22,.int s23,.rows s24,.int s25,.int s26,.int s27,.int p]=some (Ai (IM (⟨s0,s1,s2,s3,s4,s5,s6,s7,s8,s9,s10,s11,s12,s13,s14,s15,s16,s17,s18,s19,s20,s21,s22,s23,s24,s25,s26,s27⟩:Inn) p)):=by
 show Lq (std (JD N) N) (xOf _)=_;generalize hres:(some (Ai (IM (⟨s0,s1,s2,s3,s4,s5,s6,s7,s8,s9,s10,s11,s12,s13,s14,s15,s16,s17,s18,s19,s20,s21,s22,s23,s24,s25,s26,s27⟩:Inn) p)):Option (List PV))=RR;simp only [Lq,UR,Un,lq9,std,xOf,PXb,PXc,PXn,PXm,Nat.reduceAdd,Int.reduceBEq,Hx h,gA h.bt hN];subst hres;simp only [IM];cases hm:GK (⟨s0,s1,s2,s3,s4,s5,s6,s7,s8,s9,s10,s11,s12,s13,s14,s15,s16,s17,s18,s19,s20,s21,s22,s23,s24,s25,s26,s27⟩:Inn) p==0<;>try rfl
 rw [Dw (TD hm) h.bt];cases s12==0<;>rfl
theorem yg {N:Nat} {s18 s20:Bool} {p:Int} (h:Fit s14 s16 s17 s19 s24) (hN:2097152<N):SD N [.int s0,.int s1,.int s2,.int s3,.int s4,.int s5,.int s6,.int s7,.int s8,.int s9,.int s10,.int s11,.int s12,.int s13,.rows s14,.int s15,.rows s16,.rows s17,.bool s18,.rows s19,.bool s20,.int s21,.int s22,.int s23,.rows s24,.int s25,.int s26,.int s27,.int p]=some (Ai (IM (⟨s0,s1,s2,s3,s4,s5,s6,s7,s8,s9,s10,s11,s12,s13,s14,s15,s16,s17,s18,s19,s20,s21,s22,s23,s24,s25,s26,s27⟩:Inn) p)):=by
 show SC (std (Ne N) N) (xOf _)=_;generalize hres:(some (Ai (IM (⟨s0,s1,s2,s3,s4,s5,s6,s7,s8,s9,s10,s11,s12,s13,s14,s15,s16,s17,s18,s19,s20,s21,s22,s23,s24,s25,s26,s27⟩:Inn) p)):Option (List PV))=RR;simp only [SC,ZQ,ZT,lq9,std,xOf,PXb,PXc,PXn,PXm,Nat.reduceAdd,Int.reduceBEq,CP h,jw h.bt hN];subst hres;simp only [IM];cases hm:GK (⟨s0,s1,s2,s3,s4,s5,s6,s7,s8,s9,s10,s11,s12,s13,s14,s15,s16,s17,s18,s19,s20,s21,s22,s23,s24,s25,s26,s27⟩:Inn) p==0<;>try rfl
 rw [Dw (TD hm) h.bt];cases s12==0<;>rfl
theorem mh {N:Nat} {s18 s20:Bool} {p:Int} (h:Fit s14 s16 s17 s19 s24) (hN:2097152<N):Fi N [.int s0,.int s1,.int s2,.int s3,.int s4,.int s5,.int s6,.int s7,.int s8,.int s9,.int s10,.int s11,.int s12,.int s13,.rows s14,.int s15,.rows s16,.rows s17,.bool s18,.rows s19,.bool s20,.int s21,.int s22,.int s23,.rows s24,.int s25,.int s26,.int s27,.int p]=some (Ai (Db (⟨s0,s1,s2,s3,s4,s5,s6,s7,s8,s9,s10,s11,s12,s13,s14,s15,s16,s17,s18,s19,s20,s21,s22,s23,s24,s25,s26,s27⟩:Inn) p)):=by
 show JC (std (EJ N) N) (xOf _)=_;generalize hres:(some (Ai (Db (⟨s0,s1,s2,s3,s4,s5,s6,s7,s8,s9,s10,s11,s12,s13,s14,s15,s16,s17,s18,s19,s20,s21,s22,s23,s24,s25,s26,s27⟩:Inn) p)):Option (List PV))=RR;simp only [JC,Sv,Qg,SS,lq9,std,xOf,PXb,PXc,PXn,PXm,Nat.reduceAdd,Int.reduceBEq,Hx h,gA h.bt hN,H4];subst hres;simp only [Db];cases hm:GK (⟨s0,s1,s2,s3,s4,s5,s6,s7,s8,s9,s10,s11,s12,s13,s14,s15,s16,s17,s18,s19,s20,s21,s22,s23,s24,s25,s26,s27⟩:Inn) p==0<;>try rfl
 have hk:inR p s14.length=true:=TD hm;rw [Dw hk h.bt,hk];rfl
theorem tq {N:Nat} {s18 s20:Bool} {p:Int} (h:Fit s14 s16 s17 s19 s24) (hN:2097152<N):NY N [.int s0,.int s1,.int s2,.int s3,.int s4,.int s5,.int s6,.int s7,.int s8,.int s9,.int s10,.int s11,.int s12,.int s13,.rows s14,.int s15,.rows s16,.rows s17,.bool s18,.rows s19,.bool s20,.int s21,.int s22,.int s23,.rows s24,.int s25,.int s26,.int s27,.int p]=some (Ai (Db (⟨s0,s1,s2,s3,s4,s5,s6,s7,s8,s9,s10,s11,s12,s13,s14,s15,s16,s17,s18,s19,s20,s21,s22,s23,s24,s25,s26,s27⟩:Inn) p)):=by
 show Nt (std (KA N) N) (xOf _)=_;generalize hres:(some (Ai (Db (⟨s0,s1,s2,s3,s4,s5,s6,s7,s8,s9,s10,s11,s12,s13,s14,s15,s16,s17,s18,s19,s20,s21,s22,s23,s24,s25,s26,s27⟩:Inn) p)):Option (List PV))=RR;simp only [Nt,Wx,Ws,lq9,std,xOf,PXb,PXc,PXn,PXm,Nat.reduceAdd,Int.reduceBEq,CP h,jw h.bt hN];subst hres;simp only [Db];cases hm:GK (⟨s0,s1,s2,s3,s4,s5,s6,s7,s8,s9,s10,s11,s12,s13,s14,s15,s16,s17,s18,s19,s20,s21,s22,s23,s24,s25,s26,s27⟩:Inn) p==0<;>try rfl
 rw [Dw (TD hm) h.bt];rfl
def D5 (s:Inn) (p:Int) (hurt:Bool):Inn×Int :=
  cond (!inR p s.batters.length) (s,3) (cond (s.striker==0||s.other==0) (s,6) (cond (!(p==s.striker) && !(p==s.other)) (s,4)
    (cond (hurt&&((B2 s.batters s.batters.length).length:Int)==0) (s,19)
      ({ s with striker:=cond (p==s.striker) 0 s.striker,other:=cond (p==s.striker) s.other 0,batters:=LN s.batters p (cond hurt 3 2),wickets:=cond hurt s.wickets (IntKind.i64.wrap (s.wickets+1)) },0))))
theorem o7 {N:Nat} {s18 s20:Bool} {p:Int} {b:Bool} (h:Fit s14 s16 s17 s19 s24) (hN:2097152<N):Gu N [.int s0,.int s1,.int s2,.int s3,.int s4,.int s5,.int s6,.int s7,.int s8,.int s9,.int s10,.int s11,.int s12,.int s13,.rows s14,.int s15,.rows s16,.rows s17,.bool s18,.rows s19,.bool s20,.int s21,.int s22,.int s23,.rows s24,.int s25,.int s26,.int s27,.int p,.bool b]=some (Ai (D5 (⟨s0,s1,s2,s3,s4,s5,s6,s7,s8,s9,s10,s11,s12,s13,s14,s15,s16,s17,s18,s19,s20,s21,s22,s23,s24,s25,s26,s27⟩:Inn) p b)):=by
 show KJ (std (E2 N) N) (xOf _)=_;generalize hres:(some (Ai (D5 (⟨s0,s1,s2,s3,s4,s5,s6,s7,s8,s9,s10,s11,s12,s13,s14,s15,s16,s17,s18,s19,s20,s21,s22,s23,s24,s25,s26,s27⟩:Inn) p b)):Option (List PV))=RR;simp only [KJ,Se,TX,Rh,lq9,std,xOf,PXb,PXc,PXn,PXm,Nat.reduceAdd,Int.reduceBEq,Hx h,H4,uI h.bt hN];subst hres;simp only [D5];cases hp:inR p s14.length<;>try rfl
 rw [Dw hp h.bt];cases s12==0<;>cases s13==0<;>try rfl
 cases p==s12<;>cases p==s13<;>cases b<;>try rfl
 all_goals (simp only [PXb,PXc,PXn,PXm,Nat.reduceAdd,Int.reduceBEq];cases ((B2 s14 s14.length).length:Int)==0<;>rfl)
theorem ACR (L:Rows) (p a b:Int):LN (LN L p a) p b=LN L p b:=by
 unfold LN;rw [List.set_set]
 rcases Nat.lt_or_ge (ix p) L.length with h | h
 ·have:AO (L.set (ix p) (BE (AO L (ix p)) 0 [.int a])) (ix p)=BE (AO L (ix p)) 0 [.int a]:=by
   unfold AO;simp [zzk,List.getElem?_set,h]
  rw [this];simp only [BE,List.set_set]
 ·rw [List.set_eq_of_length_le h,List.set_eq_of_length_le h]
theorem uz {N:Nat} {s18 s20:Bool} {p:Int} {b:Bool} (h:Fit s14 s16 s17 s19 s24) (hN:2097152<N):QI N [.int s0,.int s1,.int s2,.int s3,.int s4,.int s5,.int s6,.int s7,.int s8,.int s9,.int s10,.int s11,.int s12,.int s13,.rows s14,.int s15,.rows s16,.rows s17,.bool s18,.rows s19,.bool s20,.int s21,.int s22,.int s23,.rows s24,.int s25,.int s26,.int s27,.int p,.bool b]=some (Ai (D5 (⟨s0,s1,s2,s3,s4,s5,s6,s7,s8,s9,s10,s11,s12,s13,s14,s15,s16,s17,s18,s19,s20,s21,s22,s23,s24,s25,s26,s27⟩:Inn) p b)):=by
 show QS (std (Hl N) N) (xOf _)=_;generalize hres:(some (Ai (D5 (⟨s0,s1,s2,s3,s4,s5,s6,s7,s8,s9,s10,s11,s12,s13,s14,s15,s16,s17,s18,s19,s20,s21,s22,s23,s24,s25,s26,s27⟩:Inn) p b)):Option (List PV))=RR;simp only [QS,Yl,Z0,Wz,lq9,std,xOf,PXb,PXc,PXn,PXm,Nat.reduceAdd,Int.reduceBEq,CP h,O8,ABW h.bt hN];subst hres;simp only [D5];rw [BEq.comm (a:=s12) (b:=p),BEq.comm (a:=s13) (b:=p)];cases hp:inR p s14.length<;>try rfl
 simp only [Dw hp h.bt,PXb,PXc,PXn,PXm,Nat.reduceAdd,Int.reduceBEq];have e:=ACR s14 p 3 2;cases s12==0<;>cases s13==0<;>try rfl
 cases p==s12<;>cases p==s13<;>cases b<;>try rfl
 all_goals (simp only [PXb,PXc,PXn,PXm,Nat.reduceAdd,Int.reduceBEq];first | rfl | (cases ((B2 s14 s14.length).length:Int)==0<;>first | rfl | (rw [← e];rfl)) | (rw [← e];rfl))
def btw (a b c:Int):Bool:=iLe b a&&iLe a c
theorem EZ (N:Nat) (a b c:Int):Au N [.int a,.int b,.int c]=some [.bool (btw a b c)]:=by
 show some [PV.bool (cond (iLe b a) (iLe a c) false)]=_;rw [Rr];rfl
theorem Nw (N:Nat) (a b c:Int):C7 N [.int a,.int b,.int c]=some [.bool (btw a b c)]:=by
 show some [PV.bool (cond (iLe b a) (iLe a c) false)]=_;rw [Rr];rfl
theorem ACY (N:Nat) (a b c:Int):Vc N [.int a,.int b,.int c]=some [.bool (btw a b c)]:=by
 show some [PV.bool (cond (iLe b a) (iLe a c) false)]=_;rw [Rr];rfl
theorem iD (N:Nat) (a b c:Int):Fh N [.int a,.int b,.int c]=some [.bool (btw a b c)]:=by
 show some [PV.bool (cond (iLe b a) (iLe a c) false)]=_;rw [Rr];rfl
def HD (x1 x2 x3 x4 x5 x6 x7 x9 x10 x11 x12:Int):Bool:=btw x1 2 11&&btw x2 1 2&&btw x3 0 90&&btw x4 4 8&&btw x5 0 90&&btw x6 1 5&&btw x7 1 5&&btw x9 0 200&&btw x10 0 1000&&btw x11 0 9&&btw x12 0 11
theorem me (N : Nat) (x0 : ByteArray) (x1 x2 x3 x4 x5 x6 x7 x9 x10 x11 x12 : Int) (x8 : Bool) (x13 : Rows) :
   G8 N [.str x0,.int x1,.int x2,.int x3,.int x4,.int x5,.int x6,.int x7,.bool x8,.int x9,.int x10,.int x11,.int x12,.rows x13]=some [.bool (HD x1 x2 x3 x4 x5 x6 x7 x9 x10 x11 x12)]:=by
  show KZ (std (MP N) N) (xOf _)=_;have e:∀ ls,MP N 104 [] ls=C7 N ls:=fun ls=>rfl
  simp only [KZ,lq9,std,xOf,e,Nw,PXb,PXc,PXn,AD,HD]
def Rg (s:ByteArray) (i:Nat):Bool := !(iLe 65 (NF s i)&&iLe (NF s i) 90)&&((i:Int)==0||((!(NF s i==95) && !(NF s i==45))&&(iLt (NF s i) 48||iLt 57 (NF s i))))
def Mk (s:ByteArray):Bool := !A1 (Rg s) s.size 0&&(iLe 1 s.size&&iLe s.size 16)
theorem AF9 (s:ByteArray):(Cx s).length=s.size:=by
 simp only [Cx,List.length_map,Array.length_toList];rfl
theorem AGQ (s:ByteArray) (i:Nat) (h:i<s.size):pvI (AJ (Cx s) i 0)=NF s i:=by
 unfold AJ AO AA Cx NF;simp only [zzk,List.getElem?_map];have:i<s.data.toList.length:=by simpa using h
 rw [zzn this];simp [zzn this]
theorem wQ (N:Nat) (s:ByteArray) (hN:s.size<N) (hs:s.size≤1048576):HJ N [.str s]=some [.bool (Mk s)]:=by
 show Rx (std (dN N) N) (xOf _)=_;simp only [Rx,lq9,std,xOf,AF9,PXb,PXc,PXn,AD];refine AN (C1 (len:=s.size) (Rg s) [.bool false] ?_ ?_ N hN) ?_
 ·intro self;simp only [PXb,PXc,PXn,AD,Aj]
 ·intro i self hi;simp only [PXb,PXc,PXn,AD,Int.toNat_natCast,AGQ s i hi,Ah (show i≤1099511627776 by omega),Ad hi,AM hi,Rg]
 ·unfold Mk;cases A1 (Rg s) s.size 0<;>rfl
theorem ADH (bs:ByteArray) (i:Nat) (r:List UInt8):(ByteArray.toList.loop bs i r).length=r.length+(bs.size - i):=by
 induction i,r using ByteArray.toList.loop.induct (bs:=bs) with
 | case1 i r h ih=>unfold ByteArray.toList.loop;rw [if_pos h,ih];simp;omega
 | case2 i r h=>unfold ByteArray.toList.loop;rw [if_neg h];simp;omega
theorem o4 (bs:ByteArray):bs.toList.length=bs.size:=by
 unfold ByteArray.toList;rw [ADH];simp
theorem y3 (s:ByteArray):(s.toList==(⟨#[]⟩:ByteArray).toList) = !iLe 1 (s.size:Int):=by
 have h:=o4 s;have h0:=o4 (⟨#[]⟩:ByteArray);rw [Bool.eq_iff_iff];simp only [beq_iff_eq,iLe,Bool.not_eq_true',decide_eq_false_iff_not];constructor
 ·intro e;rw [e,h0] at h;have:(⟨#[]⟩:ByteArray).size=0:=rfl;omega
 ·intro e;have e1:s.toList=[]:=List.eq_nil_of_length_eq_zero (by omega);have e2:(⟨#[]⟩:ByteArray).toList=[]:=List.eq_nil_of_length_eq_zero h0;rw [e1,e2]
theorem yt (N:Nat) (s:ByteArray) (hN:s.size<N) (hs:s.size≤1048576):Oz N [.str s]=some [.bool (Mk s)]:=by
 show U0 (std (gJ N) N) (xOf _)=_;simp only [U0,lq9,std,xOf,PXb,PXc,PXn,AD,y3];have e:iLe 1 (s.size:Int)=false∨iLe 1 (s.size:Int)=true:=by cases iLe 1 (s.size:Int)<;>simp
 have e2:iLt 16 (s.size:Int) = !iLe (s.size:Int) 16:=by unfold iLt iLe;rw [Bool.eq_iff_iff];simp
 rw [e2];cases h:iLe 1 (s.size:Int)&&iLe (s.size:Int) 16 with
 | false =>
  have:(!iLe 1 (s.size:Int) || !iLe (s.size:Int) 16)=true:=by rw [← Bool.not_and,h];rfl
  simp only [this,cond_true,Mk,h,Bool.and_false]
 | true =>
  have:(!iLe 1 (s.size:Int) || !iLe (s.size:Int) 16)=false:=by rw [← Bool.not_and,h];rfl
  simp only [this,cond_false,Mk,h,Bool.and_true];refine AN (C1 (len:=s.size) (Rg s) [.bool false] ?_ ?_ N hN) ?_
  ·intro self;simp only [PXb,PXc,PXn,AD,Aj]
  ·intro i self hi;simp only [PXb,PXc,AD,Int.toNat_natCast,Ah (show i≤1099511627776 by omega),Ad hi,AM hi,Rg];cases (iLe 65 (NF s i)&&iLe (NF s i) 90)<;>rfl
  ·cases A1 (Rg s) s.size 0<;>rfl
theorem zP {i len:Nat} (h:i<len) (hl:len≤1099511627776):(!iLt 0 (i:Int)||iIn (IntKind.i64.wrap ((i:Int) - 1)) (len:Int))=true:=by
 rw [CK (by omega) (by omega)];simp only [iLt,iIn,Bool.or_eq_true,Bool.not_eq_true',decide_eq_false_iff_not,decide_eq_true_eq];omega
def AA9 (L:Rows) (ov:Int) (i:Nat):Bool:=(iLt (atI L i 0) 1||iLt (atI L i 1) (atI L i 0)||iLt ov (atI L i 1)) || !btw (atI L i 2) 0 11
def xL (L:Rows) (i:Nat):Bool:=iLt 0 (i:Int)&&iLe (atI L i 0) (pvI (AJ L (IntKind.i64.wrap ((i:Int) - 1)).toNat 1))
def oG (L:Rows) (ov:Int) (i:Nat):Option (List PV):=cond (AA9 L ov i) (some [.int 2]) (cond (xL L i) (some [.int 8]) none)
def ACa:Option (List PV)→Int
 | none=>0
 | some r=>pvI (AA r 0)
def nJ (L:Rows) (ov:Int):Int:=cond (iLt 8 (L.length:Int)) 9 (ACa (Ca (oG L ov) L.length 0))
theorem cx (o:Option (List PV)):cond (pvI (AA (Ui o) 0)==((0:Nat):Int)) (some [PV.int (pvI (AA (Ui o) 1))]) (some [PV.int 0])=some [PV.int (ACa o)]:=by
 cases o<;>rfl
theorem oY (N : Nat) (x0 : ByteArray) (x1 x2 x3 x4 x5 x6 x7 x9 x10 x11 x12 : Int) (x8 : Bool) (L : Rows) (hN : 2097152 < N) :
   H8 N [.str x0,.int x1,.int x2,.int x3,.int x4,.int x5,.int x6,.int x7,.bool x8,.int x9,.int x10,.int x11,.int x12,.rows L]=some [.int (nJ L x3)]:=by
  show Lg (std (OE N) N) (xOf _)=_;have e:∀ ls,OE N 104 [] ls=C7 N ls:=fun ls=>rfl
  simp only [Lg,lq9,std,xOf,e,Nw,PXb,PXc,PXn,AD,nJ];cases h8:iLt 8 (L.length:Int) with
  | true=>rfl
  | false =>
    have hl:L.length≤8:=by simp [iLt] at h8;omega
    simp only [cond_false];refine AN (C3 (len:=L.length) (oG L x3) ?_ ?_ L.length 0 N (by omega) (by omega)) ?_
    · intro self;simp only [PXb,PXc,PXn,AD,Aj]
    · intro i self hi;simp only [PXb,PXc,PXn,AD,Int.toNat_natCast,Ah (show i≤1099511627776 by omega),Ad hi,AM hi,Nw,e,zP hi (by omega)];simp only [oG,AA9,xL,atI];cases (iLt (pvI (AJ L i 0)) 1||iLt (pvI (AJ L i 1)) (pvI (AJ L i 0))||iLt x3 (pvI (AJ L i 1)) || !btw (pvI (AJ L i 2)) 0 11) <;>
      cases (iLt 0 (i:Int)&&iLe (pvI (AJ L i 0)) (pvI (AJ L (IntKind.i64.wrap ((i:Int) - 1)).toNat 1)))<;>rfl
    · exact cx _
def EY (x0:ByteArray) (x1 x2 x3 x4 x5 x6 x7 x9 x10 x11 x12:Int) (L:Rows):Int :=
  cond (!Mk x0) 5 (cond (!HD x1 x2 x3 x4 x5 x6 x7 x9 x10 x11 x12) 2
    (cond ((!(x10==0)&&x2==1)||((!(x5==0)||iLt 0 (L.length:Int))&&x3==0)) 1
      (cond (!(x5==0)&&iLt (IntKind.i64.wrap (x5 * x1)) x3) 13 (nJ L x3))))
theorem aC (N : Nat) (x0 : ByteArray) (x1 x2 x3 x4 x5 x6 x7 x9 x10 x11 x12 : Int) (x8 : Bool) (L : Rows) (hN : 2097152 < N) (hs : x0.size ≤ 1048576) :
   Ab N [.str x0,.int x1,.int x2,.int x3,.int x4,.int x5,.int x6,.int x7,.bool x8,.int x9,.int x10,.int x11,.int x12,.rows L]=some [.int (EY x0 x1 x2 x3 x4 x5 x6 x7 x9 x10 x11 x12 L)]:=by
  show Nn (std (Gr N) N) (xOf _)=_;have e:∀ ls,Gr N 73 [] ls=HJ N ls:=fun ls=>rfl
  have e2:∀ ls,Gr N 89 [] ls=G8 N ls:=fun ls=>rfl
  have e3:∀ ls,Gr N 90 [] ls=H8 N ls:=fun ls=>rfl
  simp only [Nn,lq9,std,xOf,e,e2,e3,wQ N x0 (by omega) hs,me,oY N _ _ _ _ _ _ _ _ _ _ _ _ _ _ hN,PXb,PXc,AD,EY];cases Mk x0<;>cases HD x1 x2 x3 x4 x5 x6 x7 x9 x10 x11 x12<;>try rfl
  simp only [PXb,PXc,AD,Bool.not_true];cases (!(x10==0)&&x2==1)<;>cases ((!(x5==0)||iLt 0 (L.length:Int))&&x3==0)<;>try rfl
  cases (!(x5==0)&&iLt (IntKind.i64.wrap (x5 * x1)) x3)<;>rfl
theorem gO (N : Nat) (x0 : ByteArray) (x1 x2 x3 x4 x5 x6 x7 x9 x10 x11 x12 : Int) (x8 : Bool) (L : Rows) (hN : 2097152 < N) (hs : x0.size ≤ 1048576) :
   Ap N [.str x0,.int x1,.int x2,.int x3,.int x4,.int x5,.int x6,.int x7,.bool x8,.int x9,.int x10,.int x11,.int x12,.rows L]=some [.int (EY x0 x1 x2 x3 x4 x5 x6 x7 x9 x10 x11 x12 L)]:=by
  show Rt (std (NE N) N) (xOf _)=_;have e:∀ ls,NE N 78 [] ls=Oz N ls:=fun ls=>rfl
  have e2:∀ ls,NE N 111 [] ls=Vc N ls:=fun ls=>rfl
  simp only [Rt,lq9,std,xOf,e,e2,yt N x0 (by omega) hs,ACY,PXb,PXc,PXn,AD];simp only [← Bool.not_and,EY];rw [show (btw x1 2 11&&btw x2 1 2&&btw x3 0 90&&btw x4 4 8&&btw x5 0 90&&btw x6 1 5&&btw x7 1 5&&btw x9 0 200&&btw x10 0 1000&&btw x11 0 9&&btw x12 0 11)=HD x1 x2 x3 x4 x5 x6 x7 x9 x10 x11 x12 from rfl];rw [Bool.and_comm (x3==0)];cases Mk x0<;>cases HD x1 x2 x3 x4 x5 x6 x7 x9 x10 x11 x12<;>try rfl
  cases (!(x10==0)&&x2==1)||((!(x5==0)||iLt 0 (L.length:Int))&&x3==0)<;>try rfl
  cases (!(x5==0)&&iLt (IntKind.i64.wrap (x5 * x1)) x3)<;>try rfl
  simp only [Bool.not_true,cond_false,nJ];cases h8:iLt 8 (L.length:Int) with
  | true=>rfl
  | false =>
    have hl:L.length≤8:=by simp [iLt] at h8;omega
    simp only [cond_false];refine AN (C3 (len:=L.length) (oG L x3) ?_ ?_ L.length 0 N (by omega) (by omega)) ?_
    · intro self;simp only [PXb,PXc,PXn,AD,Aj]
    · intro i self hi;simp only [PXb,PXc,PXn,AD,Int.toNat_natCast,Ah (show i≤1099511627776 by omega),Ad hi,AM hi,zP hi (by omega)];simp only [oG,AA9,xL,atI];cases (iLt (pvI (AJ L i 0)) 1||iLt (pvI (AJ L i 1)) (pvI (AJ L i 0))||iLt x3 (pvI (AJ L i 1)) || !btw (pvI (AJ L i 2)) 0 11) <;>
      cases (iLt 0 (i:Int)&&iLe (pvI (AJ L i 0)) (pvI (AJ L (IntKind.i64.wrap ((i:Int) - 1)).toNat 1)))<;>rfl
    · exact cx _
theorem eh (N:Nat) (L:Rows) (v:Int) (hN:L.length<N) (hl:L.length≤2097152):EM N [.rows L,.int v]=some [.int (TH (fun j=>v==atI L j 0) L.length)]:=by
 show Gx (std (Ps N) N) (xOf _)=_;simp only [Gx,lq9,std,xOf,PXb,PXc,PXn,AD];refine AN (C3 (len:=L.length) (HI fun j=>v==atI L j 0) ?_ ?_ L.length 0 N (by omega) (by omega)) ?_
 ·intro self;simp only [PXb,PXc,PXn,AD,Aj]
 ·intro i self hi;simp only [PXb,PXc,PXn,AD,Ah (show i≤1099511627776 by omega),Ad hi,AM hi,HI,BW];cases v==atI L i 0<;>rfl
 ·unfold TH;cases Ca (HI fun j=>v==atI L j 0) L.length 0<;>rfl
def H0 (L:Rows) (k:Nat) (v:Int):Bool:=A1 (fun j=>v==atI L j 0) k 0
theorem Mu (N:Nat) (L:Rows) (v:Int) (hN:L.length<N) (hl:L.length≤2097152):Ay N [.rows L,.int v]=some [.bool (H0 L L.length v)]:=by
 show Eh (std (GH N) N) (xOf _)=_;have e:∀ ls,GH N 198 [] ls=EM N ls:=fun ls=>rfl
 simp only [Eh,lq9,std,xOf,PXb,PXc,PXn,AD,e,eh N L v hN hl,Ls,H0]
theorem ADP (L:Rows) (i:Nat) (v:Int) (h:i≤L.length):H0 (L.take i) (L.take i).length v=H0 L i v:=by
 rw [List.length_take,Nat.min_eq_left h];exact qA i 0 (fun j _ hj=>by rw [xB (by omega)])
def Lr (L:Rows) (n:Int) (i:Nat):Bool := !btw (atI L i 0) 1 n||H0 L i (atI L i 0)
def G2 (L:Rows) (n:Int):Bool := !A1 (Lr L n) L.length 0
theorem PC (N:Nat) (L:Rows) (n:Int) (hN:L.length<N) (hl:L.length≤2097152):Dy N [.rows L,.int n]=some [.bool (G2 L n)]:=by
 show F3 (std (Ee N) N) (xOf _)=_;have e:∀ ls,Ee N 159 [] ls=Au N ls:=fun ls=>rfl
 have e2:∀ ls,Ee N 184 [] ls=Ay N ls:=fun ls=>rfl
 simp only [F3,lq9,std,xOf,PXb,PXc,PXn,AD];refine AN (C1 (len:=L.length) (Lr L n) [.bool false] ?_ ?_ N hN) ?_
 ·intro self;simp only [PXb,PXc,PXn,AD,Aj]
 ·intro i self hi;have h1:(L.take i).length≤L.length:=List.length_take_le' i L;simp only [PXb,PXc,PXn,AD,Ah (show i≤1099511627776 by omega),Ad hi,AM hi,e,e2,EZ,AEa (Nat.le_of_lt hi),Int.toNat_zero,List.drop_zero,Mu N (L.take i) _ (by omega) (by omega),ADP L i _ (by omega),BW,Lr];cases btw (atI L i 0) 1 n<;>cases H0 L i (atI L i 0)<;>rfl
 ·unfold G2;cases A1 (Lr L n) L.length 0<;>rfl
theorem nc (N:Nat) (L:Rows) (n:Int) (hN:L.length<N) (hl:L.length≤2097152):S7 N [.rows L,.int n]=some [.bool (G2 L n)]:=by
 show XN (std (Yj N) N) (xOf _)=_;have e:∀ ls,Yj N 192 [] ls=Fh N ls:=fun ls=>rfl
 simp only [XN,lq9,std,xOf,PXb,PXc,PXn,AD];refine AN (C1 (len:=L.length) (Lr L n) [.bool false] ?_ ?_ N hN) ?_
 ·intro self;simp only [PXb,PXc,PXn,AD,Aj]
 ·intro i self hi;have h1:(L.take i).length=i:=by rw [List.length_take];omega
  simp only [PXb,PXc,PXn,AD,Ah (show i≤1099511627776 by omega),Ad hi,AM hi,e,iD,AEa (Nat.le_of_lt hi),Int.toNat_zero,List.drop_zero,BW,Lr,h1];cases btw (atI L i 0) 1 n with
  | false=>rfl
  | true =>
   simp only [PXb,PXc,PXn,AD];refine AN (dD (len:=i) (fun j=>[.int (j:Int)]) (fun j=>atI L i 0==atI L j 0) [.int 0,.bool false] [.int 1,.int (i:Int)] ?_ ?_ N (by omega)) ?_
   ·intro self;simp only [PXb,PXc,PXn,AD,Aj]
   ·intro j self hj;simp only [PXb,PXc,PXn,AD,Ah (show j≤1099511627776 by omega),Ad hj,AM hj,xB hj];rfl
   ·unfold H0;cases A1 (fun j=>atI L i 0==atI L j 0) i 0<;>rfl
 ·unfold G2;cases A1 (Lr L n) L.length 0<;>rfl
theorem jX (N:Nat) (v:Int):DS N [.int v]=some [.bool (!(v==0))]:=rfl
def lsI (L14 L16 L17 L19 L24:Rows) (b18 b20:Bool) (x0 x1 x2 x3 x4 x5 x6 x7 x8 x9 x10 x11 x12 x13 x15 x21 x22 x23 x25 x26 x27:Int):List PV :=
 [.int x0,.int x1,.int x2,.int x3,.int x4,.int x5,.int x6,.int x7,.int x8,.int x9,.int x10,.int x11,.int x12,.int x13,.rows L14,.int x15,.rows L16,.rows L17,.bool b18,.rows L19,.bool b20,.int x21,.int x22,.int x23,.rows L24,.int x25,.int x26,.int x27]
section
variable (N:Nat) (L14 L16 L17 L19 L24:Rows) (b18 b20:Bool) (x0 x1 x2 x3 x4 x5 x6 x7 x8 x9 x10 x11 x12 x13 x15 x21 x22 x23 x25 x26 x27:Int)
theorem nr (hN:L14.length<N) (hl:L14.length≤2097152):CS N (lsI L14 L16 L17 L19 L24 b18 b20 x0 x1 x2 x3 x4 x5 x6 x7 x8 x9 x10 x11 x12 x13 x15 x21 x22 x23 x25 x26 x27)=some [.bool (Bz L14)]:=by
 show FV (std (Fu N) N) (xOf (lsI ..))=_;have e:∀ ls,Fu N 262 [] ls=DS N ls:=fun ls=>rfl
 simp only [FV,lq9,std,xOf,lsI,PXb,PXc,PXn,AD];rw [show Bz L14=iLe 0 (TH (fun i => !(atI L14 i 0==0)) L14.length) from (Ls _ _).symm];rw [Option.bind_assoc];refine AN (C3 (len:=L14.length) (HI fun i => !(atI L14 i 0==0)) ?_ ?_ L14.length 0 N (by omega) (by omega)) ?_
 ·intro self;simp only [PXb,PXc,PXn,AD,Aj]
 ·intro i self hi;simp only [PXb,PXc,PXn,AD,Ah (show i≤1099511627776 by omega),Ad hi,AM hi,HI,BW,e,jX];cases atI L14 i 0==0<;>rfl
 ·unfold TH;cases Ca (HI fun i => !(atI L14 i 0==0)) L14.length 0<;>rfl
theorem gf (hN:L14.length<N) (hl:L14.length≤2097152):Bu N (lsI L14 L16 L17 L19 L24 b18 b20 x0 x1 x2 x3 x4 x5 x6 x7 x8 x9 x10 x11 x12 x13 x15 x21 x22 x23 x25 x26 x27)=some [.bool (Bz L14)]:=by
 show Jt (std (TQ N) N) (xOf (lsI ..))=_;simp only [Jt,lq9,std,xOf,lsI,PXb,PXc,PXn,AD];refine AN (C1 (len:=L14.length) (fun i => !(atI L14 i 0==0)) [.bool true] ?_ ?_ N hN) ?_
 ·intro self;simp only [PXb,PXc,PXn,AD,Aj]
 ·intro i self hi;simp only [PXb,PXc,PXn,AD,Ah (show i≤1099511627776 by omega),Ad hi,AM hi,BW]
 ·unfold Bz;cases A1 (fun i => !(atI L14 i 0==0)) L14.length 0<;>rfl
theorem mo (hN:L14.length<N) (hl:L14.length≤2097152):BX N (lsI L14 L16 L17 L19 L24 b18 b20 x0 x1 x2 x3 x4 x5 x6 x7 x8 x9 x10 x11 x12 x13 x15 x21 x22 x23 x25 x26 x27)=some [.bool (DZ L14 x12 x13)]:=by
 show Ed (std (E3 N) N) (xOf (lsI ..))=_;have e:∀ ls,E3 N 235 [] ls=CS N ls:=fun ls=>rfl
 have:=nr N L14 L16 L17 L19 L24 b18 b20 x0 x1 x2 x3 x4 x5 x6 x7 x8 x9 x10 x11 x12 x13 x15 x21 x22 x23 x25 x26 x27 hN hl;simp only [lsI] at this;simp only [Ed,lq9,std,xOf,lsI,PXb,PXc,PXn,AD,e,this,DZ]
theorem tu (hN:L14.length<N) (hl:L14.length≤2097152):Cr N (lsI L14 L16 L17 L19 L24 b18 b20 x0 x1 x2 x3 x4 x5 x6 x7 x8 x9 x10 x11 x12 x13 x15 x21 x22 x23 x25 x26 x27)=some [.bool (DZ L14 x12 x13)]:=by
 show IQ (std (H9 N) N) (xOf (lsI ..))=_;have e:∀ ls,H9 N 195 [] ls=Bu N ls:=fun ls=>rfl
 have:=gf N L14 L16 L17 L19 L24 b18 b20 x0 x1 x2 x3 x4 x5 x6 x7 x8 x9 x10 x11 x12 x13 x15 x21 x22 x23 x25 x26 x27 hN hl;simp only [lsI] at this;simp only [IQ,lq9,std,xOf,lsI,PXb,PXc,PXn,AD,e,this,DZ]
theorem rM (hN:L14.length<N) (hl:L14.length≤2097152):DP N (lsI L14 L16 L17 L19 L24 b18 b20 x0 x1 x2 x3 x4 x5 x6 x7 x8 x9 x10 x11 x12 x13 x15 x21 x22 x23 x25 x26 x27)=some [.rows (B2 L14 L14.length)]:=by
 show GR (std (O5 N) N) (xOf (lsI ..))=_;simp only [GR,lq9,std,xOf,lsI,PXb,PXc,PXn,AD];refine AN (BV (len:=L14.length) (fun i=>[.rows (B2 L14 i),.int (i:Int)]) [.rows (B2 L14 L14.length)] ?_ ?_ N hN) rfl
 ·intro self;simp only [PXb,PXc,PXn,AD,Aj]
 ·intro i self hi;have h2:(B2 L14 i++[[PV.int ((i:Int)+1)]]).length≤4194304:=by have:=WB L14 i;simp;omega
  simp only [PXb,PXc,PXn,AD,Ah (show i≤1099511627776 by omega),Ad hi,AM hi,BW,B2,DJ h2 (show 8≤4096 by omega)];cases (atI L14 i 0==0||atI L14 i 0==3)<;>rfl
theorem zJ (hN:L14.length<N) (hl:L14.length≤2097152):FE N (lsI L14 L16 L17 L19 L24 b18 b20 x0 x1 x2 x3 x4 x5 x6 x7 x8 x9 x10 x11 x12 x13 x15 x21 x22 x23 x25 x26 x27)=some [.rows (B2 L14 L14.length)]:=by
 show MG (std (VF N) N) (xOf (lsI ..))=_;simp only [MG,lq9,std,xOf,lsI,PXb,PXc,PXn,AD];refine AN (BV (len:=L14.length) (fun i=>[.rows (B2 L14 i),.int (i:Int)]) [.rows (B2 L14 L14.length)] ?_ ?_ N hN) rfl
 ·intro self;simp only [PXb,PXc,PXn,AD,Aj]
 ·intro i self hi;have h2:(B2 L14 i++[[PV.int ((i:Int)+1)]]).length≤4194304:=by have:=WB L14 i;simp;omega
  simp only [PXb,PXc,PXn,AD,Ah (show i≤1099511627776 by omega),Ad hi,AM hi,BW,B2,DJ h2 (show 8≤4096 by omega)];cases (atI L14 i 0==0||atI L14 i 0==3)<;>rfl
end
theorem dJ (N:Nat) (v:Int):Dz N [.int v]=some [.bool (!btw v 0 1000000000)]:=by
 show F4 (std (Hz N) N) (xOf _)=_;have e:∀ ls,Hz N 159 [] ls=Au N ls:=fun ls=>rfl
 simp only [F4,lq9,std,xOf,PXb,PXc,PXn,AD,e,EZ]
def pIs (L:Rows) (v:Int) (i:Nat):Bool:=atI L i 0==v
def cB (s n:Int) (i:Nat):Bool:=s==(i:Int)+1||n==(i:Int)+1
def UW (L:Rows) (s n:Int) (i:Nat):Bool:=iLt 3 (atI L i 0)||(pIs L 1 i && !cB s n i)
def W8 (L:Rows) (s n:Int) (i:Nat):Bool:=iLt 3 (atI L i 0) || !(pIs L 1 i==cB s n i)
def f6 (L:Rows):Int:=Cq (pIs L 2) L.length
def ins (L:Rows):Int:=Cq (pIs L 1) L.length
def two (s n:Int):Int:=cond (!(n==0)) (IntKind.i64.wrap (cond (!(s==0)) (IntKind.i64.wrap (0+1)) 0+1)) (cond (!(s==0)) (IntKind.i64.wrap (0+1)) 0)
def un (L:Rows) (s n wk k:Int):Bool :=
 !A1 (UW L s n) L.length 0&&((btw s 0 k&&btw n 0 k)&&(!(s==n && !(s==0))&&((two s n==ins L&&(!Bz L||iLt 0 (two s n)))&&f6 L==wk)))
def Uj (L:Rows) (s n wk:Int):Bool :=
 !A1 (W8 L s n) L.length 0&&(!((Bz L&&iLt (ins L) 1)||(!(s==0)&&s==n))&&wk==f6 L)
def AAt (L:Rows):Nat→Bool
 | 0=>false
 | i+1=>AAt L i || !(atI L i 0==0)
theorem zw (L:Rows):∀ i,AAt L i=A1 (fun j => !(atI L j 0==0)) i 0
 | 0=>rfl
 | i+1=>by rw [gW,Nat.zero_add,← zw L i];rfl
section
variable (N:Nat) (L14 L16 L17 L19 L24:Rows) (b18 b20:Bool) (x0 x1 x2 x3 x4 x5 x6 x7 x8 x9 x10 x11 x12 x13 x15 x21 x22 x23 x25 x26 x27:Int)
theorem fu (k:Int) (hN:L14.length<N) (hl:L14.length≤2097152):E0 N (lsI L14 L16 L17 L19 L24 b18 b20 x0 x1 x2 x3 x4 x5 x6 x7 x8 x9 x10 x11 x12 x13 x15 x21 x22 x23 x25 x26 x27++[.int k])=some [.bool (un L14 x12 x13 x4 k)]:=by
  simp only [lsI,List.cons_append,List.nil_append];show Hc (std (J3 N) N) (xOf _)=_;have e:∀ ls,J3 N 159 [] ls=Au N ls:=fun ls=>rfl
  simp only [Hc,lq9,std,xOf,lsI,PXb,PXc,PXn,AD];refine AN (dD (len:=L14.length) (fun i=>[.int (Cq (pIs L14 2) i),.int (Cq (pIs L14 1) i),.bool (AAt L14 i),.int (i:Int)])
    (UW L14 x12 x13) [.int 0,.bool false] [.int 1,.int (f6 L14),.int (ins L14),.bool (Bz L14)] ?_ ?_ N hN) ?_
  · intro self;simp only [PXb,PXc,PXn,AD,Aj,zw];rfl
  · intro i self hi;simp only [PXb,PXc,AD,Ah (show i≤1099511627776 by omega),Ad hi,AM hi,BW,bW (pIs L14 2) (show i≤1099511627776 by omega),bW (pIs L14 1) (show i≤1099511627776 by omega)];unfold UW pIs cB;simp only [Cq,AAt];cases h3:iLt 3 (atI L14 i 0) with
    | true=>rfl
    | false =>
      cases h1:atI L14 i 0==1 with
      | true =>
        rw [ql h1];cases x12==(i:Int)+1<;>cases x13==(i:Int)+1<;>rfl
      | false=>cases h2:atI L14 i 0==2<;>rfl
  · unfold un;simp only [e,EZ];cases A1 (UW L14 x12 x13) L14.length 0 with
    | true=>rfl
    | false =>
      simp only [PXb,PXc,PXn,AD];unfold two;cases btw x12 0 k<;>cases btw x13 0 k<;>try rfl
      cases x12==0<;>cases x13==0<;>cases x12==x13<;>try rfl
theorem qz (hN:L14.length<N) (hl:L14.length≤2097152):Jh N (lsI L14 L16 L17 L19 L24 b18 b20 x0 x1 x2 x3 x4 x5 x6 x7 x8 x9 x10 x11 x12 x13 x15 x21 x22 x23 x25 x26 x27)=some [.bool (Uj L14 x12 x13 x4)]:=by
  show Nj (std (P3 N) N) (xOf (lsI ..))=_;have e:∀ ls,P3 N 195 [] ls=Bu N ls:=fun ls=>rfl
  have h70:=gf N L14 L16 L17 L19 L24 b18 b20 x0 x1 x2 x3 x4 x5 x6 x7 x8 x9 x10 x11 x12 x13 x15 x21 x22 x23 x25 x26 x27 hN hl;simp only [lsI] at h70;simp only [Nj,lq9,std,xOf,lsI,PXb,PXc,PXn,AD,e,h70];refine AN (dD (len:=L14.length) (fun i=>[.int (Cq (pIs L14 2) i),.int (Cq (pIs L14 1) i),.int (i:Int)])
    (W8 L14 x12 x13) [.int 0,.bool false] [.int 1,.int (f6 L14),.int (ins L14)] ?_ ?_ N hN) ?_
  · intro self;simp only [PXb,PXc,PXn,AD,Aj];rfl
  · intro i self hi;simp only [PXb,PXc,AD,Ah (show i≤1099511627776 by omega),Ad hi,AM hi,BW,bW (pIs L14 2) (show i≤1099511627776 by omega),bW (pIs L14 1) (show i≤1099511627776 by omega)];unfold W8 pIs cB;simp only [Cq];cases h3:iLt 3 (atI L14 i 0) with
    | true=>rfl
    | false =>
      cases h1:atI L14 i 0==1 with
      | true =>
        rw [ql h1];cases x12==(i:Int)+1<;>cases x13==(i:Int)+1<;>rfl
      | false=>cases h2:atI L14 i 0==2<;>cases x12==(i:Int)+1<;>cases x13==(i:Int)+1<;>rfl
  · unfold Uj;cases A1 (W8 L14 x12 x13) L14.length 0 with
    | true=>rfl
    | false =>
      simp only [PXb,PXc,PXn,AD];cases Bz L14<;>cases h:iLt (ins L14) 1<;>cases x12==0<;>cases x12==x13<;>first | rfl | (simp [Ui,AA,h])
end
theorem AFQ (s n:Int):two s n=cond (!(s==0)) 1 0+cond (!(n==0)) 1 0:=by
 unfold two;cases s==0<;>cases n==0<;>rfl
theorem AEg {s n:Int} {len:Nat} (h1:0≤s∧s≤(len:Int)) (h2:0≤n∧n≤(len:Int)) (hd:(s==n && !(s==0))=false):two s n=Cq (cB s n) len:=by
 have hs:iLe s (len:Int)=true:=by simp only [iLe,decide_eq_true_eq];omega
 have hn:iLe n (len:Int)=true:=by simp only [iLe,decide_eq_true_eq];omega
 unfold cB;rw [ACF (p:=fun i=>s==(i:Int)+1) (q:=fun i=>n==(i:Int)+1) len (fun j _ hp=>by
  have e1:s=(j:Int)+1:=by simpa using hp
  show (n==(j:Int)+1)=false;rw [beq_eq_false_iff_ne];intro e2;have e3:(s==n)=true:=by rw [beq_iff_eq];omega
  have e4:(s==0)=false:=by rw [beq_eq_false_iff_ne];omega
  rw [e3,e4] at hd;cases hd),wx s len h1.1,wx n len h2.1,hs,hn,Bool.and_true,Bool.and_true,AFQ]
theorem AEq (x:Int):iLt 0 x = !iLt x 1:=by
 unfold iLt;rw [Bool.eq_iff_iff];simp only [decide_eq_true_eq,Bool.not_eq_true',decide_eq_false_iff_not];omega
theorem ADg {L : Rows} {s n : Int} (h1 : 0 ≤ s ∧ s ≤ (L.length : Int)) (h2 : 0 ≤ n ∧ n ≤ (L.length : Int)) (hd : (s == n && !(s == 0)) = false) :
    (!A1 (UW L s n) L.length 0&&two s n==ins L) = !A1 (W8 L s n) L.length 0:=by
  have h2c:=AEg h1 h2 hd;rw [Bool.eq_iff_iff];simp only [zzj,Bool.not_eq_true',L7,beq_iff_eq];constructor
  · intro ⟨ha,hb⟩ j _ hj;have hm:∀ j,j<L.length→pIs L 1 j=true→cB s n j=true:=fun j hj hp=>by
      have:=ha j (Nat.zero_le _) (by omega);unfold UW at this;rw [hp] at this;simp only [Bool.or_eq_false_iff,Bool.true_and,Bool.not_eq_false'] at this;exact this.2
    have he:=AB0 L.length hm (by rw [← h2c,hb];rfl) j (by omega);have:=ha j (Nat.zero_le _) hj;unfold UW at this;unfold W8;rw [Bool.or_eq_false_iff] at this ⊢;exact ⟨this.1,by rw [he];simp⟩
  · intro ha;have hm:∀ j,j<L.length→pIs L 1 j=cB s n j:=fun j hj=>by
      have:=ha j (Nat.zero_le _) (by omega);unfold W8 at this;rw [Bool.or_eq_false_iff] at this;simpa using this.2
    refine ⟨fun j h0 hj=>?_,?_⟩
    · have:=ha j h0 hj;unfold W8 at this;unfold UW;rw [Bool.or_eq_false_iff] at this ⊢;refine ⟨this.1,?_⟩;rw [hm j (by omega)];cases cB s n j<;>rfl
    · rw [h2c];exact (sj L.length hm).symm
theorem AFZ (L:Rows) (s n wk k:Int) (hk:(L.length:Int)=k):un L s n wk k=(btw s 0 k&&btw n 0 k&&Uj L s n wk):=by
 subst hk;unfold un Uj;cases hs:btw s 0 (L.length:Int) with
 | false=>simp only [Bool.false_and,Bool.and_false]
 | true =>
  cases hn:btw n 0 (L.length:Int) with
  | false=>simp only [Bool.false_and,Bool.and_false]
  | true =>
   have h1:0≤s∧s≤(L.length:Int):=by simpa [btw,iLe] using hs
   have h2:0≤n∧n≤(L.length:Int):=by simpa [btw,iLe] using hn
   simp only [Bool.true_and];cases hd:(s==n && !(s==0)) with
   | true =>
    have:(!(s==0)&&s==n)=true:=by rw [Bool.and_comm];exact hd
    rw [this];simp only [Bool.or_true,Bool.not_true,Bool.false_and,Bool.and_false]
   | false =>
    have:(!(s==0)&&s==n)=false:=by rw [Bool.and_comm];exact hd
    rw [this,← ADg h1 h2 hd];simp only [Bool.or_false,Bool.not_false,Bool.true_and];rw [show (wk==f6 L)=(f6 L==wk) from BEq.comm];cases hA:A1 (UW L s n) L.length 0 with
    | true=>rfl
    | false =>
     cases hB:two s n==ins L with
     | false=>rfl
     | true =>
      rw [beq_iff_eq.1 hB,AEq];simp only [Bool.true_and,Bool.not_false,Bool.not_and]
def Di (v:Int):Bool := !btw v 0 1000000000
def bv (x1 x3 x5 x6 x7 x8 x9 x10 x21 x23 x25 x26:Int):Rows:=[[.int x1],[.int x3],[.int x5],[.int x6],[.int x7],[.int x8],[.int x9],[.int x10],[.int x21],[.int x23],[.int x25],[.int x26]]
section
variable (N:Nat) (L14 L16 L17 L19 L24:Rows) (b18 b20:Bool) (x0 x1 x2 x3 x4 x5 x6 x7 x8 x9 x10 x11 x12 x13 x15 x21 x22 x23 x25 x26 x27:Int)
theorem iT (hN:2097152<N) (hl:L19.length≤1048576):E4 N (lsI L14 L16 L17 L19 L24 b18 b20 x0 x1 x2 x3 x4 x5 x6 x7 x8 x9 x10 x11 x12 x13 x15 x21 x22 x23 x25 x26 x27)=some [.bool (!(MS Di (bv x1 x3 x5 x6 x7 x8 x9 x10 x21 x23 x25 x26)||MS Di L19))]:=by
 show Hf (std (J7 N) N) (xOf (lsI ..))=_;have e:∀ ls,J7 N 186 [] ls=Dz N ls:=fun ls=>rfl
 rw [← wK];simp only [Hf,lq9,std,xOf,lsI,PXb,PXc,PXn,AD,bv];generalize hM:([PV.int x1]::[PV.int x3]::[PV.int x5]::[PV.int x6]::[PV.int x7]::[PV.int x8]::[PV.int x9]::[PV.int x10]::[PV.int x21]::[PV.int x23]::[PV.int x25]::[PV.int x26]::L19:Rows)=M;have hM2:M.length≤2097152:=by rw [← hM];simp only [List.length_cons];omega
 rw [DJ (n:=M.length) (by omega) (by omega)];simp only [PXb,PXc,PXn,AD];rw [Option.bind_assoc];refine AN (C3 (len:=M.length) (HI fun i=>Di (atI M i 0)) ?_ ?_ M.length 0 N (by omega) (by omega)) ?_
 ·intro self;simp only [PXb,PXc,PXn,AD,Aj]
 ·intro i self hi;simp only [PXb,PXc,PXn,AD,Ah (show i≤1099511627776 by omega),Ad hi,AM hi,HI,BW,e,dJ,Di];cases btw (atI M i 0) 0 1000000000<;>rfl
 ·unfold MS;rw [← Ls];unfold TH;cases Ca (HI fun i=>Di (atI M i 0)) M.length 0<;>rfl
end
def OO (a3 x2:Int):Bool:=cond (a3==0) (x2==0) (btw x2 1 a3)
def Mf (s:ByteArray) (a1 a2 a3 a4 a5 a6 a7 a9 a10 a11 a12:Int) (La L14 L16 L17 L19 L24:Rows) (x0 x1 x2 x3 x4 x5 x6 x7 x8 x9 x10 x11 x12 x13 x15 x21 x22 x23 x25 x26 x27:Int):Bool :=
  EY s a1 a2 a3 a4 a5 a6 a7 a9 a10 a11 a12 La==0&&(btw x0 1 2&&((L14.length:Int)==a1&&((L19.length:Int)==a1&&((L24.length:Int)==a1&&(!iLt 5 x27 &&
    (btw x12 0 a1&&(btw x13 0 a1&&(Uj L14 x12 x13 x4&&(btw x15 0 a1&&(btw x22 0 a1&&(G2 L16 a1&&(G2 L17 a1&&(OO a3 x2&&(btw x11 0 (IntKind.i64.wrap (a4 - 1)) &&
      (!MS Di (bv x1 x3 x5 x6 x7 x8 x9 x10 x21 x23 x25 x26) && !MS Di L19)))))))))))))))
theorem AAl {s:ByteArray} {a1 a2 a3 a4 a5 a6 a7 a9 a10 a11 a12:Int} {La:Rows} (h:(EY s a1 a2 a3 a4 a5 a6 a7 a9 a10 a11 a12 La==0)=true):0≤a3:=by
 unfold EY at h;cases hn:Mk s with
 | false=>rw [hn] at h;exact absurd h Bool.false_ne_true
 | true =>
  cases hr:HD a1 a2 a3 a4 a5 a6 a7 a9 a10 a11 a12 with
  | false=>rw [hn,hr] at h;exact absurd h Bool.false_ne_true
  | true =>
   unfold HD at hr;simp only [zzj] at hr;have:=hr.1.1.1.1.1.1.1.1.2;unfold btw iLe at this;simp only [zzj,decide_eq_true_eq] at this;omega
theorem qo {a:Int} (h:0≤a):iLt 0 a = !(a==0):=by
 unfold iLt;rw [Bool.eq_iff_iff];simp only [decide_eq_true_eq,Bool.not_eq_true',beq_eq_false_iff_ne];omega
section
variable (N:Nat) (s:ByteArray) (a1 a2 a3 a4 a5 a6 a7 a9 a10 a11 a12:Int) (a8:Bool) (La:Rows) (L14 L16 L17 L19 L24:Rows) (b18 b20:Bool) (x0 x1 x2 x3 x4 x5 x6 x7 x8 x9 x10 x11 x12 x13 x15 x21 x22 x23 x25 x26 x27:Int)
theorem VG (hN:2097152<N) (hs:s.size≤1048576) (h14:L14.length≤1048576) (h16:L16.length≤1048576) (h17:L17.length≤1048576) (h19:L19.length≤1048576):BZ N ([.str s,.int a1,.int a2,.int a3,.int a4,.int a5,.int a6,.int a7,.bool a8,.int a9,.int a10,.int a11,.int a12,.rows La]++lsI L14 L16 L17 L19 L24 b18 b20 x0 x1 x2 x3 x4 x5 x6 x7 x8 x9 x10 x11 x12 x13 x15 x21 x22 x23 x25 x26 x27)=some [.bool (Mf s a1 a2 a3 a4 a5 a6 a7 a9 a10 a11 a12 La L14 L16 L17 L19 L24 x0 x1 x2 x3 x4 x5 x6 x7 x8 x9 x10 x11 x12 x13 x15 x21 x22 x23 x25 x26 x27)]:=by
 simp only [lsI,List.cons_append,List.nil_append];show KX (std (C0 N) N) (xOf _)=_;have e1:∀ ls,C0 N 61 [] ls=Ab N ls:=fun ls=>rfl
 have e2:∀ ls,C0 N 159 [] ls=Au N ls:=fun ls=>rfl
 have e3:∀ ls,C0 N 160 [] ls=E0 N ls:=fun ls=>rfl
 have e4:∀ ls,C0 N 161 [] ls=Dy N ls:=fun ls=>rfl
 have e5:∀ ls,C0 N 162 [] ls=E4 N ls:=fun ls=>rfl
 have l54:=fu N L14 L16 L17 L19 L24 b18 b20 x0 x1 x2 x3 x4 x5 x6 x7 x8 x9 x10 x11 x12 x13 x15 x21 x22 x23 x25 x26 x27 a1 (by omega) (by omega);have l56:=iT N L14 L16 L17 L19 L24 b18 b20 x0 x1 x2 x3 x4 x5 x6 x7 x8 x9 x10 x11 x12 x13 x15 x21 x22 x23 x25 x26 x27 (by omega) (by omega);simp only [lsI,List.cons_append,List.nil_append] at l54 l56;simp only [KX,lq9,std,xOf,PXb,PXc,PXn,AD,e1,e2,e3,e4,e5,aC N s _ _ _ _ _ _ _ _ _ _ _ _ _ hN hs,EZ,l54,l56,PC N L16 _ (by omega) (by omega),PC N L17 _ (by omega) (by omega)];unfold Mf OO;cases hc:EY s a1 a2 a3 a4 a5 a6 a7 a9 a10 a11 a12 La==0<;>try rfl
 cases btw x0 1 2<;>try rfl
 cases h14:(L14.length:Int)==a1<;>try rfl
 cases (L19.length:Int)==a1<;>try rfl
 cases (L24.length:Int)==a1<;>try rfl
 cases iLt 5 x27<;>try rfl
 rw [AFZ L14 x12 x13 x4 a1 (beq_iff_eq.1 h14)];cases btw x12 0 a1<;>try rfl
 cases btw x13 0 a1<;>try rfl
 cases Uj L14 x12 x13 x4<;>try rfl
 cases btw x15 0 a1<;>try rfl
 cases btw x22 0 a1<;>try rfl
 cases G2 L16 a1<;>try rfl
 cases G2 L17 a1<;>try rfl
 cases a3==0<;>cases x2==0<;>cases btw x2 1 a3<;>rfl
theorem fm (hN:2097152<N) (hs:s.size≤1048576) (h14:L14.length≤1048576) (h16:L16.length≤1048576) (h17:L17.length≤1048576) (h19:L19.length≤1048576):DI N ([.str s,.int a1,.int a2,.int a3,.int a4,.int a5,.int a6,.int a7,.bool a8,.int a9,.int a10,.int a11,.int a12,.rows La]++lsI L14 L16 L17 L19 L24 b18 b20 x0 x1 x2 x3 x4 x5 x6 x7 x8 x9 x10 x11 x12 x13 x15 x21 x22 x23 x25 x26 x27)=some [.bool (Mf s a1 a2 a3 a4 a5 a6 a7 a9 a10 a11 a12 La L14 L16 L17 L19 L24 x0 x1 x2 x3 x4 x5 x6 x7 x8 x9 x10 x11 x12 x13 x15 x21 x22 x23 x25 x26 x27)]:=by
 simp only [lsI,List.cons_append,List.nil_append];show Rm (std (GP N) N) (xOf _)=_;have e1:∀ ls,GP N 93 [] ls=Ap N ls:=fun ls=>rfl
 have e2:∀ ls,GP N 192 [] ls=Fh N ls:=fun ls=>rfl
 have e3:∀ ls,GP N 194 [] ls=Jh N ls:=fun ls=>rfl
 have e4:∀ ls,GP N 193 [] ls=S7 N ls:=fun ls=>rfl
 have l60:=qz N L14 L16 L17 L19 L24 b18 b20 x0 x1 x2 x3 x4 x5 x6 x7 x8 x9 x10 x11 x12 x13 x15 x21 x22 x23 x25 x26 x27 (by omega) (by omega);simp only [lsI,List.cons_append,List.nil_append] at l60;simp only [Rm,lq9,std,xOf,PXb,PXc,PXn,AD,e1,e2,e3,e4,gO N s _ _ _ _ _ _ _ _ _ _ _ _ _ hN hs,iD,l60,nc N L16 _ (by omega) (by omega),nc N L17 _ (by omega) (by omega)];unfold Mf OO;cases hc:EY s a1 a2 a3 a4 a5 a6 a7 a9 a10 a11 a12 La==0<;>try rfl
 rw [qo (AAl hc)];cases btw x0 1 2<;>try rfl
 cases h14:(L14.length:Int)==a1<;>try rfl
 cases (L19.length:Int)==a1<;>try rfl
 cases (L24.length:Int)==a1<;>try rfl
 cases iLt 5 x27<;>try rfl
 cases btw x12 0 a1<;>try rfl
 cases btw x13 0 a1<;>try rfl
 cases Uj L14 x12 x13 x4
 ·simp only [PXb,PXc,PXn,AD]
 cases btw x15 0 a1<;>try rfl
 cases btw x22 0 a1<;>try rfl
 cases G2 L16 a1<;>try rfl
 cases G2 L17 a1<;>try rfl
 have ho:(a3==0 && !(x2==0) || !(a3==0)&&(a3==0 && !(x2==0) || !!(a3==0) || !btw x2 1 a3) || !btw x11 0 (IntKind.i64.wrap (a4 - 1))) = !(OO a3 x2&&btw x11 0 (IntKind.i64.wrap (a4 - 1))):=by
  unfold OO;cases a3==0<;>cases x2==0<;>cases btw x2 1 a3<;>cases btw x11 0 (IntKind.i64.wrap (a4 - 1))<;>rfl
 rw [ho];show _=some [PV.bool (OO a3 x2&&(btw x11 0 (IntKind.i64.wrap (a4 - 1))&&_))];rw [← Bool.and_assoc];cases OO a3 x2&&btw x11 0 (IntKind.i64.wrap (a4 - 1))<;>try rfl
 simp only [PXb,PXc,PXn,AD];change (ES (fun s11 c11=>cond (iLt (pvI (AA c11 0)) ((bv x1 x3 x5 x6 x7 x8 x9 x10 x21 x23 x25 x26).length:Int)) (cond (iIn (pvI (AA c11 0)) ((bv x1 x3 x5 x6 x7 x8 x9 x10 x21 x23 x25 x26).length:Int)) (cond (!btw (pvI (AJ (bv x1 x3 x5 x6 x7 x8 x9 x10 x21 x23 x25 x26) (pvI (AA c11 0)).toNat 0)) 0 1000000000) (some [PV.int 0,PV.bool false]) (s11 [Leaf.int (IntKind.i64.wrap (pvI (AA c11 0)+1))])) none) (some [PV.int 1])) N [PV.int 0]).bind _=_;generalize hM:bv x1 x3 x5 x6 x7 x8 x9 x10 x21 x23 x25 x26=M;have hM2:M.length=12:=by rw [← hM];rfl
 refine AN (C1 (len:=M.length) (fun i=>Di (atI M i 0)) [.bool false] ?_ ?_ N (by omega)) ?_
 ·intro self;simp only [PXb,PXc,PXn,AD,Aj]
 ·intro i self hi;simp only [PXb,PXc,PXn,AD,Ah (show i≤1099511627776 by omega),Ad hi,AM hi,BW,Di]
 ·show _=some [PV.bool (!A1 (fun i=>Di (atI M i 0)) M.length 0&&_)];cases A1 (fun i=>Di (atI M i 0)) M.length 0<;>try rfl
  refine AN (C1 (len:=L19.length) (fun i=>Di (atI L19 i 0)) [.bool false] ?_ ?_ N (by omega)) ?_
  ·intro self;simp only [PXb,PXc,PXn,AD,Aj]
  ·intro i self hi;simp only [PXb,PXc,PXn,AD,Ah (show i≤1099511627776 by omega),Ad hi,AM hi,BW,Di]
  ·show _=some [PV.bool (!A1 (fun i=>Di (atI L19 i 0)) L19.length 0)];cases A1 (fun i=>Di (atI L19 i 0)) L19.length 0<;>rfl
end
def wO (v:Bool) (L:Rows) (s n:Int) (x1 x2 x3 x10:Int):Int :=
 cond (!v) 0 (cond (iLt 0 x1&&iLe x1 x3) 3 (cond (DZ L s n&&((B2 L L.length).length:Int)==0) 1 (cond (iLt 0 x2&&iLe x2 x10) 2 0)))
theorem AGN {c:Int} {n:Nat} (hc:0≤c):iRg 0 (cond (iLt c (n:Int)) c (n:Int)) (n:Int)=true:=by
 cases h:iLt c (n:Int) with
 | true=>simp only [iLt,decide_eq_true_eq] at h;simp only [cond_true,iRg,decide_eq_true_eq];omega
 | false=>simp only [cond_false,iRg,decide_eq_true_eq];omega
def cut (L:Rows) (c:Int):Rows:=(L.take (cond (iLt c (L.length:Int)) c (L.length:Int)).toNat).drop (0:Int).toNat
section
variable (N:Nat) (s:ByteArray) (a1 a2 a3 a4 a5 a6 a7 a9 a10 a11 a12:Int) (a8:Bool) (La:Rows) (L14 L16 L17 L19 L24:Rows) (b18 b20:Bool) (x0 x1 x2 x3 x4 x5 x6 x7 x8 x9 x10 x11 x12 x13 x15 x21 x22 x23 x25 x26 x27:Int)
theorem ji (hN : 2097152 < N) (hs : s.size ≤ 1048576) (h14 : L14.length ≤ 1048576) (h16 : L16.length ≤ 1048576) (h17 : L17.length ≤ 1048576) (h19 : L19.length ≤ 1048576) : EA N ([.str s, .int a1, .int a2, .int a3, .int a4, .int a5, .int a6, .int a7, .bool a8, .int a9, .int a10, .int a11, .int a12, .rows La] ++ lsI L14 L16 L17 L19 L24 b18 b20 x0 x1 x2 x3 x4 x5 x6 x7 x8 x9 x10 x11 x12 x13 x15 x21 x22 x23 x25 x26 x27) =
    some [.int (wO (Mf s a1 a2 a3 a4 a5 a6 a7 a9 a10 a11 a12 La L14 L16 L17 L19 L24 x0 x1 x2 x3 x4 x5 x6 x7 x8 x9 x10 x11 x12 x13 x15 x21 x22 x23 x25 x26 x27) L14 x12 x13 x1 x2 x3 x10)]:=by
  simp only [lsI,List.cons_append,List.nil_append];show Ip (std (Eb N) N) (xOf _)=_;have e1:∀ ls,Eb N 127 [] ls=BZ N ls:=fun ls=>rfl
  have e2:∀ ls,Eb N 217 [] ls=BX N ls:=fun ls=>rfl
  have e3:∀ ls,Eb N 218 [] ls=DP N ls:=fun ls=>rfl
  have l16:=VG N s a1 a2 a3 a4 a5 a6 a7 a9 a10 a11 a12 a8 La L14 L16 L17 L19 L24 b18 b20 x0 x1 x2 x3 x4 x5 x6 x7 x8 x9 x10 x11 x12 x13 x15 x21 x22 x23 x25 x26 x27 hN hs h14 h16 h17 h19;have l61:=mo N L14 L16 L17 L19 L24 b18 b20 x0 x1 x2 x3 x4 x5 x6 x7 x8 x9 x10 x11 x12 x13 x15 x21 x22 x23 x25 x26 x27 (by omega) (by omega);have l62:=rM N L14 L16 L17 L19 L24 b18 b20 x0 x1 x2 x3 x4 x5 x6 x7 x8 x9 x10 x11 x12 x13 x15 x21 x22 x23 x25 x26 x27 (by omega) (by omega);simp only [lsI,List.cons_append,List.nil_append] at l16 l61 l62;simp only [Ip,lq9,std,xOf,PXb,PXc,PXn,AD,e1,e2,e3,l16,l61,l62,wO];cases Mf s a1 a2 a3 a4 a5 a6 a7 a9 a10 a11 a12 La L14 L16 L17 L19 L24 x0 x1 x2 x3 x4 x5 x6 x7 x8 x9 x10 x11 x12 x13 x15 x21 x22 x23 x25 x26 x27<;>try rfl
  cases (iLt 0 x1&&iLe x1 x3)<;>try rfl
  cases DZ L14 x12 x13
  · cases (iLt 0 x2&&iLe x2 x10)<;>rfl
  · simp only [PXb,PXc,PXn,AD];cases ((B2 L14 L14.length).length:Int)==0<;>cases (iLt 0 x2&&iLe x2 x10)<;>rfl
theorem uN (hN : 2097152 < N) (hs : s.size ≤ 1048576) (h14 : L14.length ≤ 1048576) (h16 : L16.length ≤ 1048576) (h17 : L17.length ≤ 1048576) (h19 : L19.length ≤ 1048576) : Kd N ([.str s, .int a1, .int a2, .int a3, .int a4, .int a5, .int a6, .int a7, .bool a8, .int a9, .int a10, .int a11, .int a12, .rows La] ++ lsI L14 L16 L17 L19 L24 b18 b20 x0 x1 x2 x3 x4 x5 x6 x7 x8 x9 x10 x11 x12 x13 x15 x21 x22 x23 x25 x26 x27) =
    some [.int (wO (Mf s a1 a2 a3 a4 a5 a6 a7 a9 a10 a11 a12 La L14 L16 L17 L19 L24 x0 x1 x2 x3 x4 x5 x6 x7 x8 x9 x10 x11 x12 x13 x15 x21 x22 x23 x25 x26 x27) L14 x12 x13 x1 x2 x3 x10)]:=by
  simp only [lsI,List.cons_append,List.nil_append];show QC (std (H7 N) N) (xOf _)=_;have e1:∀ ls,H7 N 175 [] ls=DI N ls:=fun ls=>rfl
  have e2:∀ ls,H7 N 231 [] ls=Cr N ls:=fun ls=>rfl
  have e3:∀ ls,H7 N 232 [] ls=FE N ls:=fun ls=>rfl
  have l16:=fm N s a1 a2 a3 a4 a5 a6 a7 a9 a10 a11 a12 a8 La L14 L16 L17 L19 L24 b18 b20 x0 x1 x2 x3 x4 x5 x6 x7 x8 x9 x10 x11 x12 x13 x15 x21 x22 x23 x25 x26 x27 hN hs h14 h16 h17 h19;have l61:=tu N L14 L16 L17 L19 L24 b18 b20 x0 x1 x2 x3 x4 x5 x6 x7 x8 x9 x10 x11 x12 x13 x15 x21 x22 x23 x25 x26 x27 (by omega) (by omega);have l62:=zJ N L14 L16 L17 L19 L24 b18 b20 x0 x1 x2 x3 x4 x5 x6 x7 x8 x9 x10 x11 x12 x13 x15 x21 x22 x23 x25 x26 x27 (by omega) (by omega);simp only [lsI,List.cons_append,List.nil_append] at l16 l61 l62;simp only [QC,lq9,std,xOf,PXb,PXc,PXn,AD,e1,e2,e3,l16,l61,l62,wO];cases Mf s a1 a2 a3 a4 a5 a6 a7 a9 a10 a11 a12 La L14 L16 L17 L19 L24 x0 x1 x2 x3 x4 x5 x6 x7 x8 x9 x10 x11 x12 x13 x15 x21 x22 x23 x25 x26 x27<;>try rfl
  cases (iLt 0 x1&&iLe x1 x3)<;>try rfl
  cases DZ L14 x12 x13
  · cases (iLt 0 x2&&iLe x2 x10)<;>rfl
  · simp only [PXb,PXc,PXn,AD];cases ((B2 L14 L14.length).length:Int)==0<;>cases (iLt 0 x2&&iLe x2 x10)<;>rfl
end
section
variable (N:Nat) (s:ByteArray) (a1 a2 a3 a4 a5 a6 a7 a9 a10 a11 a12:Int) (a8:Bool) (La:Rows) (L14 L16 L17 L19 L24:Rows) (b18 b20:Bool) (x0 x1 x2 x3 x4 x5 x6 x7 x8 x9 x10 x11 x12 x13 x15 x21 x22 x23 x25 x26 x27:Int)
def Ch (a4 x10 x11:Int):Int:=IntKind.i64.wrap (IntKind.i64.wrap (x10 * a4)+x11)
end
def A4 (r:Rul):Int:=EY r.name r.side r.innings r.overs r.balls r.quota r.wide r.noball r.newball r.followon r.reviews r.outside r.power
theorem Ds {N:Nat} {r8:Bool} {r0:ByteArray} {r13:Rows} (hN:2097152<N) (hs:r0.size≤1048576):Ab N [.str r0,.int r1,.int r2,.int r3,.int r4,.int r5,.int r6,.int r7,.bool r8,.int r9,.int r10,.int r11,.int r12,.rows r13]=some [.int (A4 (⟨r0,r1,r2,r3,r4,r5,r6,r7,r8,r9,r10,r11,r12,r13⟩:Rul))]:=by
 exact aC N _ _ _ _ _ _ _ _ _ _ _ _ _ _ hN hs
theorem FP {N:Nat} {r8:Bool} {r0:ByteArray} {r13:Rows} (hN:2097152<N) (hs:r0.size≤1048576):Ap N [.str r0,.int r1,.int r2,.int r3,.int r4,.int r5,.int r6,.int r7,.bool r8,.int r9,.int r10,.int r11,.int r12,.rows r13]=some [.int (A4 (⟨r0,r1,r2,r3,r4,r5,r6,r7,r8,r9,r10,r11,r12,r13⟩:Rul))]:=by
 exact gO N _ _ _ _ _ _ _ _ _ _ _ _ _ _ hN hs
theorem YW {N:Nat} {s18 s20:Bool} (h:Fit s14 s16 s17 s19 s24):DG N [.int s0,.int s1,.int s2,.int s3,.int s4,.int s5,.int s6,.int s7,.int s8,.int s9,.int s10,.int s11,.int s12,.int s13,.rows s14,.int s15,.rows s16,.rows s17,.bool s18,.rows s19,.bool s20,.int s21,.int s22,.int s23,.rows s24,.int s25,.int s26,.int s27]=some [.int s0,.int s1,.int s2,.int s3,.int s4,.int s5,.int s6,.int s7,.int s8,.int s9,.int s10,.int s11,.int s12,.int s13,.rows s14,.int s15,.rows s16,.rows s17,.bool s18,.rows s19,.bool s20,.int s21,.int s22,.int s23,.rows s24,.int s25,.int s26,.int s27]:=by
 show SG (std (Jj N) N) (xOf _)=_;simp only [SG,Ol,Q7,Qh,lq9,std,xOf,PXb,PXc,PXn,PXm,Nat.reduceAdd,Int.reduceBEq,Ag,Ar,Am,Bx h.bt (show 1≤4096 by omega),Bx h.bw' (show 8≤4096 by omega),Bx h.bf (show 8≤4096 by omega),Bx h.bd (show 8≤4096 by omega),Bx h.sb (show 1≤4096 by omega)]
theorem Yc {N:Nat} {s18 s20:Bool} (h:Fit s14 s16 s17 s19 s24):DF N [.int s0,.int s1,.int s2,.int s3,.int s4,.int s5,.int s6,.int s7,.int s8,.int s9,.int s10,.int s11,.int s12,.int s13,.rows s14,.int s15,.rows s16,.rows s17,.bool s18,.rows s19,.bool s20,.int s21,.int s22,.int s23,.rows s24,.int s25,.int s26,.int s27]=some [.int s0,.int s1,.int s2,.int s3,.int s4,.int s5,.int s6,.int s7,.int s8,.int s9,.int s10,.int s11,.int s12,.int s13,.rows s14,.int s15,.rows s16,.rows s17,.bool s18,.rows s19,.bool s20,.int s21,.int s22,.int s23,.rows s24,.int s25,.int s26,.int s27]:=by
 show Rp (std (JU N) N) (xOf _)=_;simp only [Rp,Ok,RJ,Ql,lq9,std,xOf,PXb,PXc,PXn,PXm,Nat.reduceAdd,Int.reduceBEq,Ag,Ar,Am,Bx h.bt (show 1≤4096 by omega),Bx h.bw' (show 8≤4096 by omega),Bx h.bf (show 8≤4096 by omega),Bx h.bd (show 8≤4096 by omega),Bx h.sb (show 1≤4096 by omega)]
theorem CZ {N:Nat} {s18 s20:Bool} (h:Fit s14 s16 s17 s19 s24):AZ N [.int s0,.int s1,.int s2,.int s3,.int s4,.int s5,.int s6,.int s7,.int s8,.int s9,.int s10,.int s11,.int s12,.int s13,.rows s14,.int s15,.rows s16,.rows s17,.bool s18,.rows s19,.bool s20,.int s21,.int s22,.int s23,.rows s24,.int s25,.int s26,.int s27]=some [.int s0,.int s1,.int s2,.int s3,.int s4,.int s5,.int s6,.int s7,.int s8,.int s9,.int s10,.int s11,.int s12,.int s13,.rows s14,.int s15,.rows s16,.rows s17,.bool s18,.rows s19,.bool s20,.int s21,.int s22,.int s23,.rows s24,.int s25,.int s26,.int s27]:=by
 show KQ (std (E7 N) N) (xOf _)=_;simp only [KQ,MD,N8,M3,lq9,std,xOf,PXb,PXc,PXn,PXm,Nat.reduceAdd,Int.reduceBEq,Ag,Ar,Am,Bx h.bt (show 1≤4096 by omega),Bx h.bw' (show 8≤4096 by omega),Bx h.bf (show 8≤4096 by omega),Bx h.bd (show 8≤4096 by omega),Bx h.sb (show 1≤4096 by omega)]
theorem Yk {N:Nat} {s18 s20:Bool} (h:Fit s14 s16 s17 s19 s24):DY N [.int s0,.int s1,.int s2,.int s3,.int s4,.int s5,.int s6,.int s7,.int s8,.int s9,.int s10,.int s11,.int s12,.int s13,.rows s14,.int s15,.rows s16,.rows s17,.bool s18,.rows s19,.bool s20,.int s21,.int s22,.int s23,.rows s24,.int s25,.int s26,.int s27]=some [.int s0,.int s1,.int s2,.int s3,.int s4,.int s5,.int s6,.int s7,.int s8,.int s9,.int s10,.int s11,.int s12,.int s13,.rows s14,.int s15,.rows s16,.rows s17,.bool s18,.rows s19,.bool s20,.int s21,.int s22,.int s23,.rows s24,.int s25,.int s26,.int s27]:=by
 show R9 (std (TZ N) N) (xOf _)=_;simp only [R9,ZW,lq9,std,xOf,PXb,PXc,PXn,PXm,Nat.reduceAdd,Int.reduceBEq,CP h]
theorem Te {N:Nat} {s18 s20:Bool} {p:Int}  : CG N [.int s0,.int s1,.int s2,.int s3,.int s4,.int s5,.int s6,.int s7,.int s8,.int s9,.int s10,.int s11,.int s12,.int s13,.rows s14,.int s15,.rows s16,.rows s17,.bool s18,.rows s19,.bool s20,.int s21,.int s22,.int s23,.rows s24,.int s25,.int s26,.int s27,.int p]=some [.bool (inR p s19.length)]:=by
 show NL (std (Xl N) N) (xOf _)=_;simp only [NL,lq9,std,xOf,PXb,PXc,PXn,PXm,Nat.reduceAdd,Int.reduceBEq];rfl
theorem VH {N:Nat} {s18 s20:Bool} {p:Int}  : Ck N [.int s0,.int s1,.int s2,.int s3,.int s4,.int s5,.int s6,.int s7,.int s8,.int s9,.int s10,.int s11,.int s12,.int s13,.rows s14,.int s15,.rows s16,.rows s17,.bool s18,.rows s19,.bool s20,.int s21,.int s22,.int s23,.rows s24,.int s25,.int s26,.int s27,.int p]=some [.bool (inR p s19.length)]:=by
 show QZ (std (Zt N) N) (xOf _)=_;simp only [QZ,lq9,std,xOf,PXb,PXc,PXn,PXm,Nat.reduceAdd,Int.reduceBEq];rfl
theorem Jf {N:Nat} {s18 s20:Bool} {p:Int}  : BD N [.int s0,.int s1,.int s2,.int s3,.int s4,.int s5,.int s6,.int s7,.int s8,.int s9,.int s10,.int s11,.int s12,.int s13,.rows s14,.int s15,.rows s16,.rows s17,.bool s18,.rows s19,.bool s20,.int s21,.int s22,.int s23,.rows s24,.int s25,.int s26,.int s27,.int p]=some [.bool (inR p s24.length)]:=by
 show Nq (std (Xx N) N) (xOf _)=_;simp only [Nq,lq9,std,xOf,PXb,PXc,PXn,PXm,Nat.reduceAdd,Int.reduceBEq];rfl
theorem PF {N:Nat} {s18 s20:Bool} {p:Int}  : Bq N [.int s0,.int s1,.int s2,.int s3,.int s4,.int s5,.int s6,.int s7,.int s8,.int s9,.int s10,.int s11,.int s12,.int s13,.rows s14,.int s15,.rows s16,.rows s17,.bool s18,.rows s19,.bool s20,.int s21,.int s22,.int s23,.rows s24,.int s25,.int s26,.int s27,.int p]=some [.bool (inR p s24.length)]:=by
 show PW (std (Zv N) N) (xOf _)=_;simp only [PW,lq9,std,xOf,PXb,PXc,PXn,PXm,Nat.reduceAdd,Int.reduceBEq];rfl
def atB (L:Rows) (i j:Nat):Bool:=pvB (AJ L i j)
theorem qR (L:Rows) (i j:Nat):pvB (AJ L i j)=atB L i j:=rfl
def DX (s:Inn) (p:Int):Bool:=inR p s.subs.length&&atB s.subs (ix p) 0
theorem Is {N:Nat} {s18 s20:Bool} {p:Int} (h:s24.length≤1048576):BA N [.int s0,.int s1,.int s2,.int s3,.int s4,.int s5,.int s6,.int s7,.int s8,.int s9,.int s10,.int s11,.int s12,.int s13,.rows s14,.int s15,.rows s16,.rows s17,.bool s18,.rows s19,.bool s20,.int s21,.int s22,.int s23,.rows s24,.int s25,.int s26,.int s27,.int p]=some [.bool (DX (⟨s0,s1,s2,s3,s4,s5,s6,s7,s8,s9,s10,s11,s12,s13,s14,s15,s16,s17,s18,s19,s20,s21,s22,s23,s24,s25,s26,s27⟩:Inn) p)]:=by
 show JH (std (LJ N) N) (xOf _)=_;generalize hres:(some [.bool (DX (⟨s0,s1,s2,s3,s4,s5,s6,s7,s8,s9,s10,s11,s12,s13,s14,s15,s16,s17,s18,s19,s20,s21,s22,s23,s24,s25,s26,s27⟩:Inn) p)]:Option (List PV))=RR;simp only [JH,RW,lq9,std,xOf,PXb,PXc,PXn,PXm,Nat.reduceAdd,Int.reduceBEq,Jf,AAo h];subst hres;simp only [DX];cases hp:inR p s24.length with
 | false=>rfl
 | true=>first | rfl | (rw [Dw hp h];rfl)
theorem Hg {N:Nat} {s18 s20:Bool} {p:Int} (h:s24.length≤1048576):A5 N [.int s0,.int s1,.int s2,.int s3,.int s4,.int s5,.int s6,.int s7,.int s8,.int s9,.int s10,.int s11,.int s12,.int s13,.rows s14,.int s15,.rows s16,.rows s17,.bool s18,.rows s19,.bool s20,.int s21,.int s22,.int s23,.rows s24,.int s25,.int s26,.int s27,.int p]=some [.bool (DX (⟨s0,s1,s2,s3,s4,s5,s6,s7,s8,s9,s10,s11,s12,s13,s14,s15,s16,s17,s18,s19,s20,s21,s22,s23,s24,s25,s26,s27⟩:Inn) p)]:=by
 show L4 (std (Vi N) N) (xOf _)=_;generalize hres:(some [.bool (DX (⟨s0,s1,s2,s3,s4,s5,s6,s7,s8,s9,s10,s11,s12,s13,s14,s15,s16,s17,s18,s19,s20,s21,s22,s23,s24,s25,s26,s27⟩:Inn) p)]:Option (List PV))=RR;simp only [L4,lq9,std,xOf,PXb,PXc,PXn,PXm,Nat.reduceAdd,Int.reduceBEq,AAo h];subst hres;simp only [DX];cases hp:inR p s24.length with
 | false =>
  unfold inR at hp;have hq:(!iLe 1 p || !iLe p (s24.length:Int)||iIn (IntKind.i64.wrap (p - 1)) (s24.length:Int))=true:=by rw [← Bool.not_and,hp];rfl
  simp only [hp,hq,PXb,PXc,PXn,PXm,Nat.reduceAdd,Int.reduceBEq]
 | true=>have hk:=Dw hp h;unfold inR at hp;simp only [hp,hk,PXb,PXc,PXn,PXm,Nat.reduceAdd,Int.reduceBEq,atB,ix]
def mJ (x:Int):Int:=cond (iLt x 0) 0 x
def Pu (r:Rul) (s:Inn) (p:Int):Int :=
 cond (!inR p s.bowled.length || !(A4 r==0)) 0 (cond (r.quota==0) (-1) (mJ (IntKind.i64.wrap (IntKind.i64.wrap (r.quota * r.balls) - mJ (atI s.bowled (ix p) 0)))))
theorem ABX (r:Rul) (s:Inn) (p:Int):iLe 0 (Pu r s p) = !(Pu r s p == -1):=by
 unfold Pu;cases (!inR p s.bowled.length || !(A4 r==0)) with
 | true=>rfl
 | false =>
  cases r.quota==0 with
  | true=>rfl
  | false =>
   simp only [cond_false];generalize IntKind.i64.wrap (IntKind.i64.wrap (r.quota * r.balls) - mJ (atI s.bowled (ix p) 0))=x;unfold mJ;cases h:iLt x 0 with
   | true=>rfl
   | false =>
    simp only [iLt,decide_eq_false_iff_not] at h;simp only [cond_false];have h1:iLe 0 x=true:=by simp only [iLe,decide_eq_true_eq];omega
    have h2:(x == -1)=false:=by simp only [beq_eq_false_iff_ne];omega
    rw [h1,h2];rfl
theorem vb {N:Nat} {r8:Bool} {r0:ByteArray} {r13:Rows} {s18 s20:Bool} {p:Int} (h:Fit s14 s16 s17 s19 s24) (hN:2097152<N) (hs:r0.size≤1048576):LC N [.str r0,.int r1,.int r2,.int r3,.int r4,.int r5,.int r6,.int r7,.bool r8,.int r9,.int r10,.int r11,.int r12,.rows r13,.int s0,.int s1,.int s2,.int s3,.int s4,.int s5,.int s6,.int s7,.int s8,.int s9,.int s10,.int s11,.int s12,.int s13,.rows s14,.int s15,.rows s16,.rows s17,.bool s18,.rows s19,.bool s20,.int s21,.int s22,.int s23,.rows s24,.int s25,.int s26,.int s27,.int p]=some [.int (Pu (⟨r0,r1,r2,r3,r4,r5,r6,r7,r8,r9,r10,r11,r12,r13⟩:Rul) (⟨s0,s1,s2,s3,s4,s5,s6,s7,s8,s9,s10,s11,s12,s13,s14,s15,s16,s17,s18,s19,s20,s21,s22,s23,s24,s25,s26,s27⟩:Inn) p)]:=by
 show Pv (std (Lp N) N) (xOf _)=_;generalize hres:(some [.int (Pu (⟨r0,r1,r2,r3,r4,r5,r6,r7,r8,r9,r10,r11,r12,r13⟩:Rul) (⟨s0,s1,s2,s3,s4,s5,s6,s7,s8,s9,s10,s11,s12,s13,s14,s15,s16,s17,s18,s19,s20,s21,s22,s23,s24,s25,s26,s27⟩:Inn) p)]:Option (List PV))=RR;simp only [Pv,V5,VN,lq9,std,xOf,PXb,PXc,PXn,PXm,Nat.reduceAdd,Int.reduceBEq,Ds hN hs,Te];subst hres;simp only [Pu];cases hp:inR p s19.length with
 | false=>rfl
 | true=>rw [Dw hp h.bd];cases A4 (⟨r0,r1,r2,r3,r4,r5,r6,r7,r8,r9,r10,r11,r12,r13⟩:Rul)==0<;>cases r5==0<;>rfl
theorem AAC {N:Nat} {r8:Bool} {r0:ByteArray} {r13:Rows} {s18 s20:Bool} {p:Int} (h:Fit s14 s16 s17 s19 s24) (hN:2097152<N) (hs:r0.size≤1048576):P5 N [.str r0,.int r1,.int r2,.int r3,.int r4,.int r5,.int r6,.int r7,.bool r8,.int r9,.int r10,.int r11,.int r12,.rows r13,.int s0,.int s1,.int s2,.int s3,.int s4,.int s5,.int s6,.int s7,.int s8,.int s9,.int s10,.int s11,.int s12,.int s13,.rows s14,.int s15,.rows s16,.rows s17,.bool s18,.rows s19,.bool s20,.int s21,.int s22,.int s23,.rows s24,.int s25,.int s26,.int s27,.int p]=some [.int (Pu (⟨r0,r1,r2,r3,r4,r5,r6,r7,r8,r9,r10,r11,r12,r13⟩:Rul) (⟨s0,s1,s2,s3,s4,s5,s6,s7,s8,s9,s10,s11,s12,s13,s14,s15,s16,s17,s18,s19,s20,s21,s22,s23,s24,s25,s26,s27⟩:Inn) p)]:=by
 show Ub (std (QU N) N) (xOf _)=_;generalize hres:(some [.int (Pu (⟨r0,r1,r2,r3,r4,r5,r6,r7,r8,r9,r10,r11,r12,r13⟩:Rul) (⟨s0,s1,s2,s3,s4,s5,s6,s7,s8,s9,s10,s11,s12,s13,s14,s15,s16,s17,s18,s19,s20,s21,s22,s23,s24,s25,s26,s27⟩:Inn) p)]:Option (List PV))=RR;simp only [Ub,bQ,aH,lq9,std,xOf,PXb,PXc,PXn,PXm,Nat.reduceAdd,Int.reduceBEq,FP hN hs,VH];subst hres;simp only [Pu];cases hp:inR p s19.length with
 | false=>cases A4 (⟨r0,r1,r2,r3,r4,r5,r6,r7,r8,r9,r10,r11,r12,r13⟩:Rul)==0<;>rfl
 | true=>rw [Dw hp h.bd];cases A4 (⟨r0,r1,r2,r3,r4,r5,r6,r7,r8,r9,r10,r11,r12,r13⟩:Rul)==0<;>cases r5==0<;>rfl
theorem sJ {N:Nat} {L:Rows} {v:Int} (hN:2097152<N) (hl:L.length≤1048576):Ih N [.rows L,.int v]=some [.bool (H0 L L.length v)]:=by
 show X2 (std (js N) N) (xOf _)=_;simp only [X2,lq9,std,xOf,PXb,PXc,PXn,AD];refine AN (C1 (len:=L.length) (fun j=>v==atI L j 0) [.bool true] ?_ ?_ N (by omega)) ?_
 ·intro self;simp only [PXb,PXc,PXn,AD,Aj]
 ·intro i self hi;simp only [PXb,PXc,PXn,AD,Ah (show i≤1099511627776 by omega),Ad hi,AM hi,BW];rw [BEq.comm (a:=v)]
 ·unfold H0;cases A1 (fun j=>v==atI L j 0) L.length 0<;>rfl
theorem OI {N:Nat} {L:Rows} {v:Int} (hN:2097152<N) (hl:L.length≤1048576):Ay N [.rows L,.int v]=some [.bool (H0 L L.length v)]:=by
 exact Mu N L v (by omega) (by omega)
def IG (r:Rul) (s:Inn) (p:Int):Int :=
  cond (!inR p s.bowled.length || !(A4 r==0)) 3 (cond (p==s.keeper||p==s.bowler||DX s p) 7
    (cond (H0 s.before s.before.length p) 8 (cond (!(Pu r s p == -1)&&iLt s.inover (IntKind.i64.wrap (r.balls - Pu r s p))) 9 0)))
theorem AB6 {p:Int} {n m:Nat} (h:inR p n=true):inR p m=iLe p (m:Int):=by
 unfold inR at h ⊢;rw [zzj] at h;rw [h.1,Bool.true_and]
theorem yO {N:Nat} {r8:Bool} {r0:ByteArray} {r13:Rows} {s18 s20:Bool} {p:Int} (h:Fit s14 s16 s17 s19 s24) (hN:2097152<N) (hs:r0.size≤1048576):Mt N [.str r0,.int r1,.int r2,.int r3,.int r4,.int r5,.int r6,.int r7,.bool r8,.int r9,.int r10,.int r11,.int r12,.rows r13,.int s0,.int s1,.int s2,.int s3,.int s4,.int s5,.int s6,.int s7,.int s8,.int s9,.int s10,.int s11,.int s12,.int s13,.rows s14,.int s15,.rows s16,.rows s17,.bool s18,.rows s19,.bool s20,.int s21,.int s22,.int s23,.rows s24,.int s25,.int s26,.int s27,.int p]=some [.int (IG (⟨r0,r1,r2,r3,r4,r5,r6,r7,r8,r9,r10,r11,r12,r13⟩:Rul) (⟨s0,s1,s2,s3,s4,s5,s6,s7,s8,s9,s10,s11,s12,s13,s14,s15,s16,s17,s18,s19,s20,s21,s22,s23,s24,s25,s26,s27⟩:Inn) p)]:=by
 show Rw (std (GS N) N) (xOf _)=_;generalize hres:(some [.int (IG (⟨r0,r1,r2,r3,r4,r5,r6,r7,r8,r9,r10,r11,r12,r13⟩:Rul) (⟨s0,s1,s2,s3,s4,s5,s6,s7,s8,s9,s10,s11,s12,s13,s14,s15,s16,s17,s18,s19,s20,s21,s22,s23,s24,s25,s26,s27⟩:Inn) p)]:Option (List PV))=RR;simp only [Rw,Wv,Om,Wk,Yp,lq9,std,xOf,PXb,PXc,PXn,PXm,Nat.reduceAdd,Int.reduceBEq,Ds hN hs,Te,vb h hN hs,OI hN h.bf];subst hres;simp only [IG,DX];cases hp:inR p s19.length with
 | false=>rfl
 | true =>
  rw [AB6 (m:=s24.length) hp];have hq:(!(iLe p (s24.length:Int))||iIn (IntKind.i64.wrap (p - 1)) (s24.length:Int))=true:=by
   cases h1:iLe p (s24.length:Int) with
   | false=>rfl
   | true=>rw [Dw (by rw [AB6 hp];exact h1) h.sb];rfl
  rw [hq];cases A4 (⟨r0,r1,r2,r3,r4,r5,r6,r7,r8,r9,r10,r11,r12,r13⟩:Rul)==0<;>rfl
theorem ABo {N:Nat} {r8:Bool} {r0:ByteArray} {r13:Rows} {s18 s20:Bool} {p:Int} (h:Fit s14 s16 s17 s19 s24) (hN:2097152<N) (hs:r0.size≤1048576):Sc N [.str r0,.int r1,.int r2,.int r3,.int r4,.int r5,.int r6,.int r7,.bool r8,.int r9,.int r10,.int r11,.int r12,.rows r13,.int s0,.int s1,.int s2,.int s3,.int s4,.int s5,.int s6,.int s7,.int s8,.int s9,.int s10,.int s11,.int s12,.int s13,.rows s14,.int s15,.rows s16,.rows s17,.bool s18,.rows s19,.bool s20,.int s21,.int s22,.int s23,.rows s24,.int s25,.int s26,.int s27,.int p]=some [.int (IG (⟨r0,r1,r2,r3,r4,r5,r6,r7,r8,r9,r10,r11,r12,r13⟩:Rul) (⟨s0,s1,s2,s3,s4,s5,s6,s7,s8,s9,s10,s11,s12,s13,s14,s15,s16,s17,s18,s19,s20,s21,s22,s23,s24,s25,s26,s27⟩:Inn) p)]:=by
 show Xc (std (HM N) N) (xOf _)=_;generalize hres:(some [.int (IG (⟨r0,r1,r2,r3,r4,r5,r6,r7,r8,r9,r10,r11,r12,r13⟩:Rul) (⟨s0,s1,s2,s3,s4,s5,s6,s7,s8,s9,s10,s11,s12,s13,s14,s15,s16,s17,s18,s19,s20,s21,s22,s23,s24,s25,s26,s27⟩:Inn) p)]:Option (List PV))=RR;simp only [Xc,ec,Yu,cz,iR,jT,lq9,std,xOf,PXb,PXc,PXn,PXm,Nat.reduceAdd,Int.reduceBEq,FP hN hs,VH,AAC h hN hs,sJ hN h.bf,Hg h.sb,ABX];subst hres;simp only [IG];cases hp:inR p s19.length<;>cases A4 (⟨r0,r1,r2,r3,r4,r5,r6,r7,r8,r9,r10,r11,r12,r13⟩:Rul)==0<;>cases p==s22<;>cases p==s15<;>rfl
def SO (r:Rul) (s:Inn) (p:Int):Inn×Int:=(cond (IG r s p==0) { s with bowler:=p } s,IG r s p)
theorem w5 {N:Nat} {r8:Bool} {r0:ByteArray} {r13:Rows} {s18 s20:Bool} {p:Int} (h:Fit s14 s16 s17 s19 s24) (hN:2097152<N) (hs:r0.size≤1048576):LL N [.str r0,.int r1,.int r2,.int r3,.int r4,.int r5,.int r6,.int r7,.bool r8,.int r9,.int r10,.int r11,.int r12,.rows r13,.int s0,.int s1,.int s2,.int s3,.int s4,.int s5,.int s6,.int s7,.int s8,.int s9,.int s10,.int s11,.int s12,.int s13,.rows s14,.int s15,.rows s16,.rows s17,.bool s18,.rows s19,.bool s20,.int s21,.int s22,.int s23,.rows s24,.int s25,.int s26,.int s27,.int p]=some (Ai (SO (⟨r0,r1,r2,r3,r4,r5,r6,r7,r8,r9,r10,r11,r12,r13⟩:Rul) (⟨s0,s1,s2,s3,s4,s5,s6,s7,s8,s9,s10,s11,s12,s13,s14,s15,s16,s17,s18,s19,s20,s21,s22,s23,s24,s25,s26,s27⟩:Inn) p)):=by
 show QP (std (MA N) N) (xOf _)=_;generalize hres:(some (Ai (SO (⟨r0,r1,r2,r3,r4,r5,r6,r7,r8,r9,r10,r11,r12,r13⟩:Rul) (⟨s0,s1,s2,s3,s4,s5,s6,s7,s8,s9,s10,s11,s12,s13,s14,s15,s16,s17,s18,s19,s20,s21,s22,s23,s24,s25,s26,s27⟩:Inn) p)):Option (List PV))=RR;simp only [QP,YU,Yr,lq9,std,xOf,PXb,PXc,PXn,PXm,Nat.reduceAdd,Int.reduceBEq,YW h,yO h hN hs];subst hres;simp only [SO];cases IG (⟨r0,r1,r2,r3,r4,r5,r6,r7,r8,r9,r10,r11,r12,r13⟩:Rul) (⟨s0,s1,s2,s3,s4,s5,s6,s7,s8,s9,s10,s11,s12,s13,s14,s15,s16,s17,s18,s19,s20,s21,s22,s23,s24,s25,s26,s27⟩:Inn) p==0<;>rfl
theorem AAS {N:Nat} {r8:Bool} {r0:ByteArray} {r13:Rows} {s18 s20:Bool} {p:Int} (h:Fit s14 s16 s17 s19 s24) (hN:2097152<N) (hs:r0.size≤1048576):Ut N [.str r0,.int r1,.int r2,.int r3,.int r4,.int r5,.int r6,.int r7,.bool r8,.int r9,.int r10,.int r11,.int r12,.rows r13,.int s0,.int s1,.int s2,.int s3,.int s4,.int s5,.int s6,.int s7,.int s8,.int s9,.int s10,.int s11,.int s12,.int s13,.rows s14,.int s15,.rows s16,.rows s17,.bool s18,.rows s19,.bool s20,.int s21,.int s22,.int s23,.rows s24,.int s25,.int s26,.int s27,.int p]=some (Ai (SO (⟨r0,r1,r2,r3,r4,r5,r6,r7,r8,r9,r10,r11,r12,r13⟩:Rul) (⟨s0,s1,s2,s3,s4,s5,s6,s7,s8,s9,s10,s11,s12,s13,s14,s15,s16,s17,s18,s19,s20,s21,s22,s23,s24,s25,s26,s27⟩:Inn) p)):=by
 show UH (std (QK N) N) (xOf _)=_;generalize hres:(some (Ai (SO (⟨r0,r1,r2,r3,r4,r5,r6,r7,r8,r9,r10,r11,r12,r13⟩:Rul) (⟨s0,s1,s2,s3,s4,s5,s6,s7,s8,s9,s10,s11,s12,s13,s14,s15,s16,s17,s18,s19,s20,s21,s22,s23,s24,s25,s26,s27⟩:Inn) p)):Option (List PV))=RR;simp only [UH,bV,ga,lq9,std,xOf,PXb,PXc,PXn,PXm,Nat.reduceAdd,Int.reduceBEq,CP h,ABo h hN hs];subst hres;simp only [SO];cases IG (⟨r0,r1,r2,r3,r4,r5,r6,r7,r8,r9,r10,r11,r12,r13⟩:Rul) (⟨s0,s1,s2,s3,s4,s5,s6,s7,s8,s9,s10,s11,s12,s13,s14,s15,s16,s17,s18,s19,s20,s21,s22,s23,s24,s25,s26,s27⟩:Inn) p==0<;>rfl
def rH (x:Inn×Bool):List PV:=[.int x.1.side,.int x.1.target,.int x.1.overs,.int x.1.runs,.int x.1.wickets,.int x.1.wides,.int x.1.noballs,.int x.1.byes,.int x.1.legbyes,.int x.1.pens,.int x.1.complete,.int x.1.inover,.int x.1.striker,.int x.1.other,.rows x.1.batters,.int x.1.bowler,.rows x.1.bowlers,.rows x.1.before,.bool x.1.fresh,.rows x.1.bowled,.bool x.1.freehit,.int x.1.ballage,.int x.1.keeper,.int x.1.outside,.rows x.1.subs,.int x.1.rev1,.int x.1.rev2,.int x.1.ending,.bool x.2]
def inc (x:Int):Int:=IntKind.i64.wrap (x+1)
def Aq (r:Rul) (s:Inn) (counts:Bool):Inn×Bool :=
  cond (!inR s.bowler s.bowled.length || !(A4 r==0)) (s,false)
    (let L:=cond (H0 s.bowlers s.bowlers.length s.bowler) s.bowlers (s.bowlers++[[.int s.bowler]])
     let o:=cond counts (inc s.inover) s.inover
     let t:Inn:={ s with bowlers:=L,bowled:=cond counts (LN s.bowled s.bowler (inc (atI s.bowled (ix s.bowler) 0))) s.bowled,inover:=o,ballage:=cond counts (inc s.ballage) s.ballage }
     cond (iLt o r.balls) (t,false) ({ t with complete:=inc s.complete,inover:=0,before:=L,bowlers:=[],bowler:=0 },true))
theorem vz {N:Nat} {r8:Bool} {r0:ByteArray} {r13:Rows} {s18 s20:Bool} {b:Bool} (h:Fit s14 s16 s17 s19 s24) (hw:s16.length≤1048575) (hN:2097152<N) (hs:r0.size≤1048576):Kg N [.str r0,.int r1,.int r2,.int r3,.int r4,.int r5,.int r6,.int r7,.bool r8,.int r9,.int r10,.int r11,.int r12,.rows r13,.int s0,.int s1,.int s2,.int s3,.int s4,.int s5,.int s6,.int s7,.int s8,.int s9,.int s10,.int s11,.int s12,.int s13,.rows s14,.int s15,.rows s16,.rows s17,.bool s18,.rows s19,.bool s20,.int s21,.int s22,.int s23,.rows s24,.int s25,.int s26,.int s27,.bool b]=some (rH (Aq (⟨r0,r1,r2,r3,r4,r5,r6,r7,r8,r9,r10,r11,r12,r13⟩:Rul) (⟨s0,s1,s2,s3,s4,s5,s6,s7,s8,s9,s10,s11,s12,s13,s14,s15,s16,s17,s18,s19,s20,s21,s22,s23,s24,s25,s26,s27⟩:Inn) b)):=by
 show QG (std (FZ N) N) (xOf _)=_;generalize hres:(some (rH (Aq (⟨r0,r1,r2,r3,r4,r5,r6,r7,r8,r9,r10,r11,r12,r13⟩:Rul) (⟨s0,s1,s2,s3,s4,s5,s6,s7,s8,s9,s10,s11,s12,s13,s14,s15,s16,s17,s18,s19,s20,s21,s22,s23,s24,s25,s26,s27⟩:Inn) b)):Option (List PV))=RR;have ha:(s16++[[PV.int s15]]).length≤1048576:=by simp;omega
 simp only [QG,Vx,N6,Yd,V4,lq9,std,xOf,PXb,PXc,PXn,PXm,Nat.reduceAdd,Int.reduceBEq,YW h,Te,Ds hN hs,OI hN h.bw',Ks ha (show 8≤4096 by omega)];subst hres;simp only [Aq];cases hp:inR s15 s19.length with
 | false=>rfl
 | true =>
  rw [Dw hp h.bd];cases A4 (⟨r0,r1,r2,r3,r4,r5,r6,r7,r8,r9,r10,r11,r12,r13⟩:Rul)==0<;>try rfl
  cases H0 s16 s16.length s15<;>cases b<;>simp only [PXb,PXc,PXn,PXm,Nat.reduceAdd,Int.reduceBEq,inc]
  all_goals first | (cases iLt s11 r4<;>rfl) | (cases iLt (IntKind.i64.wrap (s11+1)) r4<;>rfl)
theorem zz {N:Nat} {r8:Bool} {r0:ByteArray} {r13:Rows} {s18 s20:Bool} {b:Bool} (h:Fit s14 s16 s17 s19 s24) (hw:s16.length≤1048575) (hN:2097152<N) (hs:r0.size≤1048576):Us N [.str r0,.int r1,.int r2,.int r3,.int r4,.int r5,.int r6,.int r7,.bool r8,.int r9,.int r10,.int r11,.int r12,.rows r13,.int s0,.int s1,.int s2,.int s3,.int s4,.int s5,.int s6,.int s7,.int s8,.int s9,.int s10,.int s11,.int s12,.int s13,.rows s14,.int s15,.rows s16,.rows s17,.bool s18,.rows s19,.bool s20,.int s21,.int s22,.int s23,.rows s24,.int s25,.int s26,.int s27,.bool b]=some (rH (Aq (⟨r0,r1,r2,r3,r4,r5,r6,r7,r8,r9,r10,r11,r12,r13⟩:Rul) (⟨s0,s1,s2,s3,s4,s5,s6,s7,s8,s9,s10,s11,s12,s13,s14,s15,s16,s17,s18,s19,s20,s21,s22,s23,s24,s25,s26,s27⟩:Inn) b)):=by
 show UV (std (IR N) N) (xOf _)=_;generalize hres:(some (rH (Aq (⟨r0,r1,r2,r3,r4,r5,r6,r7,r8,r9,r10,r11,r12,r13⟩:Rul) (⟨s0,s1,s2,s3,s4,s5,s6,s7,s8,s9,s10,s11,s12,s13,s14,s15,s16,s17,s18,s19,s20,s21,s22,s23,s24,s25,s26,s27⟩:Inn) b)):Option (List PV))=RR;have ha:(s16++[[PV.int s15]]).length≤1048576:=by simp;omega
 simp only [UV,aQ,cR,Zq,gF,lq9,std,xOf,PXb,PXc,PXn,PXm,Nat.reduceAdd,Int.reduceBEq,CP h,VH,FP hN hs,sJ hN h.bw',Ks ha (show 8≤4096 by omega)];subst hres;simp only [Aq];cases hp:inR s15 s19.length with
 | false=>cases A4 (⟨r0,r1,r2,r3,r4,r5,r6,r7,r8,r9,r10,r11,r12,r13⟩:Rul)==0<;>rfl
 | true =>
  rw [Dw hp h.bd];cases A4 (⟨r0,r1,r2,r3,r4,r5,r6,r7,r8,r9,r10,r11,r12,r13⟩:Rul)==0<;>try rfl
  cases H0 s16 s16.length s15<;>cases b<;>simp only [PXb,PXc,PXn,PXm,Nat.reduceAdd,Int.reduceBEq,inc]
  all_goals first | (cases iLt s11 r4<;>rfl) | (cases iLt (IntKind.i64.wrap (s11+1)) r4<;>rfl)
def HF (r:Rul) (s:Inn):Inn×Int :=
 cond (!(A4 r==0)||r.newball==0||iLt s.ballage (IntKind.i64.wrap (r.newball * r.balls))) (s,22) ({ s with ballage:=0 },0)
theorem pQ {N:Nat} {r8:Bool} {r0:ByteArray} {r13:Rows} {s18 s20:Bool} (h:Fit s14 s16 s17 s19 s24) (hN:2097152<N) (hs:r0.size≤1048576):Ge N [.str r0,.int r1,.int r2,.int r3,.int r4,.int r5,.int r6,.int r7,.bool r8,.int r9,.int r10,.int r11,.int r12,.rows r13,.int s0,.int s1,.int s2,.int s3,.int s4,.int s5,.int s6,.int s7,.int s8,.int s9,.int s10,.int s11,.int s12,.int s13,.rows s14,.int s15,.rows s16,.rows s17,.bool s18,.rows s19,.bool s20,.int s21,.int s22,.int s23,.rows s24,.int s25,.int s26,.int s27]=some (Ai (HF (⟨r0,r1,r2,r3,r4,r5,r6,r7,r8,r9,r10,r11,r12,r13⟩:Rul) (⟨s0,s1,s2,s3,s4,s5,s6,s7,s8,s9,s10,s11,s12,s13,s14,s15,s16,s17,s18,s19,s20,s21,s22,s23,s24,s25,s26,s27⟩:Inn))):=by
 show Ka (std (HW N) N) (xOf _)=_;generalize hres:(some (Ai (HF (⟨r0,r1,r2,r3,r4,r5,r6,r7,r8,r9,r10,r11,r12,r13⟩:Rul) (⟨s0,s1,s2,s3,s4,s5,s6,s7,s8,s9,s10,s11,s12,s13,s14,s15,s16,s17,s18,s19,s20,s21,s22,s23,s24,s25,s26,s27⟩:Inn))):Option (List PV))=RR;simp only [Ka,TA,Uu,lq9,std,xOf,PXb,PXc,PXn,PXm,Nat.reduceAdd,Int.reduceBEq,YW h,Ds hN hs];subst hres;simp only [HF];cases (!(A4 (⟨r0,r1,r2,r3,r4,r5,r6,r7,r8,r9,r10,r11,r12,r13⟩:Rul)==0)||r9==0||iLt s21 (IntKind.i64.wrap (r9 * r4)))<;>rfl
theorem tc {N:Nat} {r8:Bool} {r0:ByteArray} {r13:Rows} {s18 s20:Bool} (h:Fit s14 s16 s17 s19 s24) (hN:2097152<N) (hs:r0.size≤1048576):NM N [.str r0,.int r1,.int r2,.int r3,.int r4,.int r5,.int r6,.int r7,.bool r8,.int r9,.int r10,.int r11,.int r12,.rows r13,.int s0,.int s1,.int s2,.int s3,.int s4,.int s5,.int s6,.int s7,.int s8,.int s9,.int s10,.int s11,.int s12,.int s13,.rows s14,.int s15,.rows s16,.rows s17,.bool s18,.rows s19,.bool s20,.int s21,.int s22,.int s23,.rows s24,.int s25,.int s26,.int s27]=some (Ai (HF (⟨r0,r1,r2,r3,r4,r5,r6,r7,r8,r9,r10,r11,r12,r13⟩:Rul) (⟨s0,s1,s2,s3,s4,s5,s6,s7,s8,s9,s10,s11,s12,s13,s14,s15,s16,s17,s18,s19,s20,s21,s22,s23,s24,s25,s26,s27⟩:Inn))):=by
 show Ns (std (KC N) N) (xOf _)=_;generalize hres:(some (Ai (HF (⟨r0,r1,r2,r3,r4,r5,r6,r7,r8,r9,r10,r11,r12,r13⟩:Rul) (⟨s0,s1,s2,s3,s4,s5,s6,s7,s8,s9,s10,s11,s12,s13,s14,s15,s16,s17,s18,s19,s20,s21,s22,s23,s24,s25,s26,s27⟩:Inn))):Option (List PV))=RR;simp only [Ns,Wj,W4,lq9,std,xOf,PXb,PXc,PXn,PXm,Nat.reduceAdd,Int.reduceBEq,CP h,FP hN hs];subst hres;simp only [HF];cases (!(A4 (⟨r0,r1,r2,r3,r4,r5,r6,r7,r8,r9,r10,r11,r12,r13⟩:Rul)==0)||r9==0||iLt s21 (IntKind.i64.wrap (r9 * r4)))<;>rfl
end Go.Px
end
