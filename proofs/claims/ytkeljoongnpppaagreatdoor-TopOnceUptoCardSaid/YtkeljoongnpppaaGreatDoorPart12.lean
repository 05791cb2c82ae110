/- Part 12. -/
import Derived.Test.YtkeljoongnpppaaGreatDoorPart11
set_option linter.unusedVariables false
set_option linter.unusedSimpArgs false
variable {s0 s1 s2 s3 s4 s5 s6 s7 s8 s9 s10 s11 s12 s13 s15 s21 s22 s23 s25 s26 s27:Int}
variable {s14 s16 s17 s19 s24:Go.Px.Rows}
variable {r1 r2 r3 r4 r5 r6 r7 r9 r10 r11 r12:Int}
variable {d0 d1 d2 d3 d4 d6 d7 d8 d9 d11:Int}
variable {e0 e1 e2 e3 e5 e6 e7 e8 e9 e10 e11 e13 e14 e15 e16 e18:Int}
section
namespace Go.Px
set_option maxRecDepth 100000
def A5 (r:Rul):Int:=L5 r.name r.side r.innings r.overs r.balls r.quota r.wide r.noball r.newball r.followon r.reviews r.outside r.power
theorem CV {N:Nat} {r8:Bool} {r0:ByteArray} {r13:Rows} (hN:2097152<N) (hs:r0.size≤1048576):AP N [.str r0,.int r1,.int r2,.int r3,.int r4,.int r5,.int r6,.int r7,.bool r8,.int r9,.int r10,.int r11,.int r12,.rows r13]=some [.int (A5 (⟨r0,r1,r2,r3,r4,r5,r6,r7,r8,r9,r10,r11,r12,r13⟩:Rul))]:=by
 exact VQ N _ _ _ _ _ _ _ _ _ _ _ _ _ _ hN hs
theorem UC {N:Nat} {s18 s20:Bool} (h:Fit s14 s16 s17 s19 s24):Cq N [.int s0,.int s1,.int s2,.int s3,.int s4,.int s5,.int s6,.int s7,.int s8,.int s9,.int s10,.int s11,.int s12,.int s13,.rows s14,.int s15,.rows s16,.rows s17,.bool s18,.rows s19,.bool s20,.int s21,.int s22,.int s23,.rows s24,.int s25,.int s26,.int s27]=some [.int s0,.int s1,.int s2,.int s3,.int s4,.int s5,.int s6,.int s7,.int s8,.int s9,.int s10,.int s11,.int s12,.int s13,.rows s14,.int s15,.rows s16,.rows s17,.bool s18,.rows s19,.bool s20,.int s21,.int s22,.int s23,.rows s24,.int s25,.int s26,.int s27]:=by
 show On (std (Hq N) N) (xOf _)=_;simp only [On,L9,N9,NT,lq9,std,xOf,PXb,PXc,PXn,PXm,Nat.reduceAdd,Int.reduceBEq,AX,Ad,Ab,Bi h.bt (show 1≤4096 by omega),Bi h.bw' (show 8≤4096 by omega),Bi h.bf (show 8≤4096 by omega),Bi h.bd (show 8≤4096 by omega),Bi h.sb (show 1≤4096 by omega)]
theorem UN {N:Nat} {s18 s20:Bool} (h:Fit s14 s16 s17 s19 s24):Cm N [.int s0,.int s1,.int s2,.int s3,.int s4,.int s5,.int s6,.int s7,.int s8,.int s9,.int s10,.int s11,.int s12,.int s13,.rows s14,.int s15,.rows s16,.rows s17,.bool s18,.rows s19,.bool s20,.int s21,.int s22,.int s23,.rows s24,.int s25,.int s26,.int s27]=some [.int s0,.int s1,.int s2,.int s3,.int s4,.int s5,.int s6,.int s7,.int s8,.int s9,.int s10,.int s11,.int s12,.int s13,.rows s14,.int s15,.rows s16,.rows s17,.bool s18,.rows s19,.bool s20,.int s21,.int s22,.int s23,.rows s24,.int s25,.int s26,.int s27]:=by
 show Oj (std (IC N) N) (xOf _)=_;simp only [Oj,MG,N6,NR,lq9,std,xOf,PXb,PXc,PXn,PXm,Nat.reduceAdd,Int.reduceBEq,AX,Ad,Ab,Bi h.bt (show 1≤4096 by omega),Bi h.bw' (show 8≤4096 by omega),Bi h.bf (show 8≤4096 by omega),Bi h.bd (show 8≤4096 by omega),Bi h.sb (show 1≤4096 by omega)]
theorem CL {N:Nat} {s18 s20:Bool} (h:Fit s14 s16 s17 s19 s24):AU N [.int s0,.int s1,.int s2,.int s3,.int s4,.int s5,.int s6,.int s7,.int s8,.int s9,.int s10,.int s11,.int s12,.int s13,.rows s14,.int s15,.rows s16,.rows s17,.bool s18,.rows s19,.bool s20,.int s21,.int s22,.int s23,.rows s24,.int s25,.int s26,.int s27]=some [.int s0,.int s1,.int s2,.int s3,.int s4,.int s5,.int s6,.int s7,.int s8,.int s9,.int s10,.int s11,.int s12,.int s13,.rows s14,.int s15,.rows s16,.rows s17,.bool s18,.rows s19,.bool s20,.int s21,.int s22,.int s23,.rows s24,.int s25,.int s26,.int s27]:=by
 show Iq (std (EK N) N) (xOf _)=_;simp only [Iq,Ji,Lp,Kj,lq9,std,xOf,PXb,PXc,PXn,PXm,Nat.reduceAdd,Int.reduceBEq,AX,Ad,Ab,Bi h.bt (show 1≤4096 by omega),Bi h.bw' (show 8≤4096 by omega),Bi h.bf (show 8≤4096 by omega),Bi h.bd (show 8≤4096 by omega),Bi h.sb (show 1≤4096 by omega)]
theorem Pr {N:Nat} {s18 s20:Bool} {p:Int}  : B3 N [.int s0,.int s1,.int s2,.int s3,.int s4,.int s5,.int s6,.int s7,.int s8,.int s9,.int s10,.int s11,.int s12,.int s13,.rows s14,.int s15,.rows s16,.rows s17,.bool s18,.rows s19,.bool s20,.int s21,.int s22,.int s23,.rows s24,.int s25,.int s26,.int s27,.int p]=some [.bool (inR p s19.length)]:=by
 show K9 (std (Si N) N) (xOf _)=_;simp only [K9,lq9,std,xOf,PXb,PXc,PXn,PXm,Nat.reduceAdd,Int.reduceBEq];rfl
theorem IA {N:Nat} {s18 s20:Bool} {p:Int}  : A9 N [.int s0,.int s1,.int s2,.int s3,.int s4,.int s5,.int s6,.int s7,.int s8,.int s9,.int s10,.int s11,.int s12,.int s13,.rows s14,.int s15,.rows s16,.rows s17,.bool s18,.rows s19,.bool s20,.int s21,.int s22,.int s23,.rows s24,.int s25,.int s26,.int s27,.int p]=some [.bool (inR p s24.length)]:=by
 show Ky (std (Tu N) N) (xOf _)=_;simp only [Ky,lq9,std,xOf,PXb,PXc,PXn,PXm,Nat.reduceAdd,Int.reduceBEq];rfl
def atB (L:Rows) (i j:Nat):Bool:=pvB (AB L i j)
theorem er (L:Rows) (i j:Nat):pvB (AB L i j)=atB L i j:=rfl
def HV (s:Inn) (p:Int):Bool:=inR p s.subs.length&&atB s.subs (ix p) 0
theorem Hc {N:Nat} {s18 s20:Bool} {p:Int} (h:s24.length≤1048576):A7 N [.int s0,.int s1,.int s2,.int s3,.int s4,.int s5,.int s6,.int s7,.int s8,.int s9,.int s10,.int s11,.int s12,.int s13,.rows s14,.int s15,.rows s16,.rows s17,.bool s18,.rows s19,.bool s20,.int s21,.int s22,.int s23,.rows s24,.int s25,.int s26,.int s27,.int p]=some [.bool (HV (⟨s0,s1,s2,s3,s4,s5,s6,s7,s8,s9,s10,s11,s12,s13,s14,s15,s16,s17,s18,s19,s20,s21,s22,s23,s24,s25,s26,s27⟩:Inn) p)]:=by
 show Hd (std (JB N) N) (xOf _)=_;generalize hres:(some [.bool (HV (⟨s0,s1,s2,s3,s4,s5,s6,s7,s8,s9,s10,s11,s12,s13,s14,s15,s16,s17,s18,s19,s20,s21,s22,s23,s24,s25,s26,s27⟩:Inn) p)]:Option (List PV))=RR;simp only [Hd,Nr,lq9,std,xOf,PXb,PXc,PXn,PXm,Nat.reduceAdd,Int.reduceBEq,IA,wm h];subst hres;simp only [HV];cases hp:inR p s24.length with
 | false=>rfl
 | true=>first | rfl | (rw [K4 hp h];rfl)
def pg (x:Int):Int:=cond (iLt x 0) 0 x
def eN (r:Rul) (s:Inn) (p:Int):Int :=
 cond (!inR p s.bowled.length || !(A5 r==0)) 0 (cond (r.quota==0) (-1) (pg (IntKind.i64.wrap (IntKind.i64.wrap (r.quota * r.balls) - pg (atI s.bowled (ix p) 0)))))
theorem kD {N:Nat} {r8:Bool} {r0:ByteArray} {r13:Rows} {s18 s20:Bool} {p:Int} (h:Fit s14 s16 s17 s19 s24) (hN:2097152<N) (hs:r0.size≤1048576):Jd N [.str r0,.int r1,.int r2,.int r3,.int r4,.int r5,.int r6,.int r7,.bool r8,.int r9,.int r10,.int r11,.int r12,.rows r13,.int s0,.int s1,.int s2,.int s3,.int s4,.int s5,.int s6,.int s7,.int s8,.int s9,.int s10,.int s11,.int s12,.int s13,.rows s14,.int s15,.rows s16,.rows s17,.bool s18,.rows s19,.bool s20,.int s21,.int s22,.int s23,.rows s24,.int s25,.int s26,.int s27,.int p]=some [.int (eN (⟨r0,r1,r2,r3,r4,r5,r6,r7,r8,r9,r10,r11,r12,r13⟩:Rul) (⟨s0,s1,s2,s3,s4,s5,s6,s7,s8,s9,s10,s11,s12,s13,s14,s15,s16,s17,s18,s19,s20,s21,s22,s23,s24,s25,s26,s27⟩:Inn) p)]:=by
 show Mo (std (Jj N) N) (xOf _)=_;generalize hres:(some [.int (eN (⟨r0,r1,r2,r3,r4,r5,r6,r7,r8,r9,r10,r11,r12,r13⟩:Rul) (⟨s0,s1,s2,s3,s4,s5,s6,s7,s8,s9,s10,s11,s12,s13,s14,s15,s16,s17,s18,s19,s20,s21,s22,s23,s24,s25,s26,s27⟩:Inn) p)]:Option (List PV))=RR;simp only [Mo,Rd,RA,lq9,std,xOf,PXb,PXc,PXn,PXm,Nat.reduceAdd,Int.reduceBEq,CV hN hs,Pr];subst hres;simp only [eN];cases hp:inR p s19.length with
 | false=>rfl
 | true=>rw [K4 hp h.bd];cases A5 (⟨r0,r1,r2,r3,r4,r5,r6,r7,r8,r9,r10,r11,r12,r13⟩:Rul)==0<;>cases r5==0<;>rfl
theorem Lw {N:Nat} {L:Rows} {v:Int} (hN:2097152<N) (hl:L.length≤1048576):Aw N [.rows L,.int v]=some [.bool (KO L L.length v)]:=by
 exact Kp N L v (by omega) (by omega)
def N1 (r:Rul) (s:Inn) (p:Int):Int :=
  cond (!inR p s.bowled.length || !(A5 r==0)) 3 (cond (p==s.keeper||p==s.bowler||HV s p) 7
    (cond (KO s.before s.before.length p) 8 (cond (!(eN r s p == -1)&&iLt s.inover (IntKind.i64.wrap (r.balls - eN r s p))) 9 0)))
theorem rI {p:Int} {n m:Nat} (h:inR p n=true):inR p m=iLe p (m:Int):=by
 unfold inR at h ⊢;rw [zzk] at h;rw [h.1,Bool.true_and]
theorem mg {N:Nat} {r8:Bool} {r0:ByteArray} {r13:Rows} {s18 s20:Bool} {p:Int} (h:Fit s14 s16 s17 s19 s24) (hN:2097152<N) (hs:r0.size≤1048576):Kv N [.str r0,.int r1,.int r2,.int r3,.int r4,.int r5,.int r6,.int r7,.bool r8,.int r9,.int r10,.int r11,.int r12,.rows r13,.int s0,.int s1,.int s2,.int s3,.int s4,.int s5,.int s6,.int s7,.int s8,.int s9,.int s10,.int s11,.int s12,.int s13,.rows s14,.int s15,.rows s16,.rows s17,.bool s18,.rows s19,.bool s20,.int s21,.int s22,.int s23,.rows s24,.int s25,.int s26,.int s27,.int p]=some [.int (N1 (⟨r0,r1,r2,r3,r4,r5,r6,r7,r8,r9,r10,r11,r12,r13⟩:Rul) (⟨s0,s1,s2,s3,s4,s5,s6,s7,s8,s9,s10,s11,s12,s13,s14,s15,s16,s17,s18,s19,s20,s21,s22,s23,s24,s25,s26,s27⟩:Inn) p)]:=by
 show Og (std (Ff N) N) (xOf _)=_;generalize hres:(some [.int (N1 (⟨r0,r1,r2,r3,r4,r5,r6,r7,r8,r9,r10,r11,r12,r13⟩:Rul) (⟨s0,s1,s2,s3,s4,s5,s6,s7,s8,s9,s10,s11,s12,s13,s14,s15,s16,s17,s18,s19,s20,s21,s22,s23,s24,s25,s26,s27⟩:Inn) p)]:Option (List PV))=RR;simp only [Og,Sf,MC,Sh,UA,lq9,std,xOf,PXb,PXc,PXn,PXm,Nat.reduceAdd,Int.reduceBEq,CV hN hs,Pr,kD h hN hs,Lw hN h.bf];subst hres;simp only [N1,HV];cases hp:inR p s19.length with
 | false=>rfl
 | true =>
  rw [rI (m:=s24.length) hp];have hq:(!(iLe p (s24.length:Int))||iIn (IntKind.i64.wrap (p - 1)) (s24.length:Int))=true:=by
   cases h1:iLe p (s24.length:Int) with
   | false=>rfl
   | true=>rw [K4 (by rw [rI hp];exact h1) h.sb];rfl
  rw [hq];cases A5 (⟨r0,r1,r2,r3,r4,r5,r6,r7,r8,r9,r10,r11,r12,r13⟩:Rul)==0<;>rfl
def Vc (r:Rul) (s:Inn) (p:Int):Inn×Int:=(cond (N1 r s p==0) { s with bowler:=p } s,N1 r s p)
theorem lu {N:Nat} {r8:Bool} {r0:ByteArray} {r13:Rows} {s18 s20:Bool} {p:Int} (h:Fit s14 s16 s17 s19 s24) (hN:2097152<N) (hs:r0.size≤1048576):I7 N [.str r0,.int r1,.int r2,.int r3,.int r4,.int r5,.int r6,.int r7,.bool r8,.int r9,.int r10,.int r11,.int r12,.rows r13,.int s0,.int s1,.int s2,.int s3,.int s4,.int s5,.int s6,.int s7,.int s8,.int s9,.int s10,.int s11,.int s12,.int s13,.rows s14,.int s15,.rows s16,.rows s17,.bool s18,.rows s19,.bool s20,.int s21,.int s22,.int s23,.rows s24,.int s25,.int s26,.int s27,.int p]=some (BU (Vc (⟨r0,r1,r2,r3,r4,r5,r6,r7,r8,r9,r10,r11,r12,r13⟩:Rul) (⟨s0,s1,s2,s3,s4,s5,s6,s7,s8,s9,s10,s11,s12,s13,s14,s15,s16,s17,s18,s19,s20,s21,s22,s23,s24,s25,s26,s27⟩:Inn) p)):=by
 show M5 (std (Jh N) N) (xOf _)=_;generalize hres:(some (BU (Vc (⟨r0,r1,r2,r3,r4,r5,r6,r7,r8,r9,r10,r11,r12,r13⟩:Rul) (⟨s0,s1,s2,s3,s4,s5,s6,s7,s8,s9,s10,s11,s12,s13,s14,s15,s16,s17,s18,s19,s20,s21,s22,s23,s24,s25,s26,s27⟩:Inn) p)):Option (List PV))=RR;simp only [M5,UF,Tz,lq9,std,xOf,PXb,PXc,PXn,PXm,Nat.reduceAdd,Int.reduceBEq,UC h,mg h hN hs];subst hres;simp only [Vc];cases N1 (⟨r0,r1,r2,r3,r4,r5,r6,r7,r8,r9,r10,r11,r12,r13⟩:Rul) (⟨s0,s1,s2,s3,s4,s5,s6,s7,s8,s9,s10,s11,s12,s13,s14,s15,s16,s17,s18,s19,s20,s21,s22,s23,s24,s25,s26,s27⟩:Inn) p==0<;>rfl
def uU (x:Inn×Bool):List PV:=[.int x.1.side,.int x.1.target,.int x.1.overs,.int x.1.runs,.int x.1.wickets,.int x.1.wides,.int x.1.noballs,.int x.1.byes,.int x.1.legbyes,.int x.1.pens,.int x.1.complete,.int x.1.inover,.int x.1.striker,.int x.1.other,.rows x.1.batters,.int x.1.bowler,.rows x.1.bowlers,.rows x.1.before,.bool x.1.fresh,.rows x.1.bowled,.bool x.1.freehit,.int x.1.ballage,.int x.1.keeper,.int x.1.outside,.rows x.1.subs,.int x.1.rev1,.int x.1.rev2,.int x.1.ending,.bool x.2]
def inc (x:Int):Int:=IntKind.i64.wrap (x+1)
def Au (r:Rul) (s:Inn) (counts:Bool):Inn×Bool :=
  cond (!inR s.bowler s.bowled.length || !(A5 r==0)) (s,false)
    (let L:=cond (KO s.bowlers s.bowlers.length s.bowler) s.bowlers (s.bowlers++[[.int s.bowler]])
     let o:=cond counts (inc s.inover) s.inover
     let t:Inn:={ s with bowlers:=L,bowled:=cond counts (N3 s.bowled s.bowler (inc (atI s.bowled (ix s.bowler) 0))) s.bowled,inover:=o,ballage:=cond counts (inc s.ballage) s.ballage }
     cond (iLt o r.balls) (t,false) ({ t with complete:=inc s.complete,inover:=0,before:=L,bowlers:=[],bowler:=0 },true))
theorem kK {N:Nat} {r8:Bool} {r0:ByteArray} {r13:Rows} {s18 s20:Bool} {b:Bool} (h:Fit s14 s16 s17 s19 s24) (hw:s16.length≤1048575) (hN:2097152<N) (hs:r0.size≤1048576):JE N [.str r0,.int r1,.int r2,.int r3,.int r4,.int r5,.int r6,.int r7,.bool r8,.int r9,.int r10,.int r11,.int r12,.rows r13,.int s0,.int s1,.int s2,.int s3,.int s4,.int s5,.int s6,.int s7,.int s8,.int s9,.int s10,.int s11,.int s12,.int s13,.rows s14,.int s15,.rows s16,.rows s17,.bool s18,.rows s19,.bool s20,.int s21,.int s22,.int s23,.rows s24,.int s25,.int s26,.int s27,.bool b]=some (uU (Au (⟨r0,r1,r2,r3,r4,r5,r6,r7,r8,r9,r10,r11,r12,r13⟩:Rul) (⟨s0,s1,s2,s3,s4,s5,s6,s7,s8,s9,s10,s11,s12,s13,s14,s15,s16,s17,s18,s19,s20,s21,s22,s23,s24,s25,s26,s27⟩:Inn) b)):=by
 show Mw (std (Et N) N) (xOf _)=_;generalize hres:(some (uU (Au (⟨r0,r1,r2,r3,r4,r5,r6,r7,r8,r9,r10,r11,r12,r13⟩:Rul) (⟨s0,s1,s2,s3,s4,s5,s6,s7,s8,s9,s10,s11,s12,s13,s14,s15,s16,s17,s18,s19,s20,s21,s22,s23,s24,s25,s26,s27⟩:Inn) b)):Option (List PV))=RR;have ha:(s16++[[PV.int s15]]).length≤1048576:=by simp;omega
 simp only [Mw,SB,Lc,T6,SD,lq9,std,xOf,PXb,PXc,PXn,PXm,Nat.reduceAdd,Int.reduceBEq,UC h,Pr,CV hN hs,Lw hN h.bw',xR ha (show 8≤4096 by omega)];subst hres;simp only [Au];cases hp:inR s15 s19.length with
 | false=>rfl
 | true =>
  rw [K4 hp h.bd];cases A5 (⟨r0,r1,r2,r3,r4,r5,r6,r7,r8,r9,r10,r11,r12,r13⟩:Rul)==0<;>try rfl
  cases KO s16 s16.length s15<;>cases b<;>simp only [PXb,PXc,PXn,PXm,Nat.reduceAdd,Int.reduceBEq,inc]
  all_goals first | (cases iLt s11 r4<;>rfl) | (cases iLt (IntKind.i64.wrap (s11+1)) r4<;>rfl)
def Le (r:Rul) (s:Inn):Inn×Int :=
 cond (!(A5 r==0)||r.newball==0||iLt s.ballage (IntKind.i64.wrap (r.newball * r.balls))) (s,22) ({ s with ballage:=0 },0)
theorem dv {N:Nat} {r8:Bool} {r0:ByteArray} {r13:Rows} {s18 s20:Bool} (h:Fit s14 s16 s17 s19 s24) (hN:2097152<N) (hs:r0.size≤1048576):GA N [.str r0,.int r1,.int r2,.int r3,.int r4,.int r5,.int r6,.int r7,.bool r8,.int r9,.int r10,.int r11,.int r12,.rows r13,.int s0,.int s1,.int s2,.int s3,.int s4,.int s5,.int s6,.int s7,.int s8,.int s9,.int s10,.int s11,.int s12,.int s13,.rows s14,.int s15,.rows s16,.rows s17,.bool s18,.rows s19,.bool s20,.int s21,.int s22,.int s23,.rows s24,.int s25,.int s26,.int s27]=some (BU (Le (⟨r0,r1,r2,r3,r4,r5,r6,r7,r8,r9,r10,r11,r12,r13⟩:Rul) (⟨s0,s1,s2,s3,s4,s5,s6,s7,s8,s9,s10,s11,s12,s13,s14,s15,s16,s17,s18,s19,s20,s21,s22,s23,s24,s25,s26,s27⟩:Inn))):=by
 show Il (std (GV N) N) (xOf _)=_;generalize hres:(some (BU (Le (⟨r0,r1,r2,r3,r4,r5,r6,r7,r8,r9,r10,r11,r12,r13⟩:Rul) (⟨s0,s1,s2,s3,s4,s5,s6,s7,s8,s9,s10,s11,s12,s13,s14,s15,s16,s17,s18,s19,s20,s21,s22,s23,s24,s25,s26,s27⟩:Inn))):Option (List PV))=RR;simp only [Il,O9,Qb,lq9,std,xOf,PXb,PXc,PXn,PXm,Nat.reduceAdd,Int.reduceBEq,UC h,CV hN hs];subst hres;simp only [Le];cases (!(A5 (⟨r0,r1,r2,r3,r4,r5,r6,r7,r8,r9,r10,r11,r12,r13⟩:Rul)==0)||r9==0||iLt s21 (IntKind.i64.wrap (r9 * r4)))<;>rfl
def mc (r:Rul) (over:Int):Int :=
 match BO (fun i=>cond (iLe (atI r.power i 0) (inc over)&&iLe (inc over) (atI r.power i 1)) (some [.int (atI r.power i 2)]) none) r.power.length 0 with
 | some x=>pvI (AG x 0)
 | none=>r.outside
theorem dU {N:Nat} {r8:Bool} {r0:ByteArray} {r13:Rows} {o:Int} (hN:2097152<N) (h13:r13.length≤1048576):GE N [.str r0,.int r1,.int r2,.int r3,.int r4,.int r5,.int r6,.int r7,.bool r8,.int r9,.int r10,.int r11,.int r12,.rows r13,.int o]=some [.int (mc (⟨r0,r1,r2,r3,r4,r5,r6,r7,r8,r9,r10,r11,r12,r13⟩:Rul) o)]:=by
 show Iz (std (P2 N) N) (xOf _)=_;simp only [Iz,lq9,std,xOf,PXb,PXc,PXn,AJ];refine Ak (Ci (len:=r13.length) (fun i=>cond (iLe (atI r13 i 0) (inc o)&&iLe (inc o) (atI r13 i 1)) (some [.int (atI r13 i 2)]) none) ?_ ?_ r13.length 0 N (by omega) (by omega)) ?_
 ·intro self;simp only [PXb,PXc,PXn,AJ,Bg]
 ·intro i self hi;simp only [PXb,PXc,PXn,AJ,BA (show i≤1099511627776 by omega),BQ hi,Ap hi];cases hq:iLe (atI r13 i 0) (inc o)&&iLe (inc o) (atI r13 i 1)<;>unfold inc atI at hq<;>rw [hq]<;>rfl
 ·unfold mc;cases BO (fun i=>cond (iLe (atI r13 i 0) (inc o)&&iLe (inc o) (atI r13 i 1)) (some [.int (atI r13 i 2)]) none) r13.length 0<;>rfl
def Nv (s:Inn) (p:Int):Inn×Int :=
 cond (!inR p s.subs.length) (s,3) (cond (HV s p) (s,18) (cond (p==s.bowler||p==s.keeper) (s,17) ({ s with keeper:=p },0)))
theorem fu {N:Nat} {s18 s20:Bool} {p:Int} (h:Fit s14 s16 s17 s19 s24):HF N [.int s0,.int s1,.int s2,.int s3,.int s4,.int s5,.int s6,.int s7,.int s8,.int s9,.int s10,.int s11,.int s12,.int s13,.rows s14,.int s15,.rows s16,.rows s17,.bool s18,.rows s19,.bool s20,.int s21,.int s22,.int s23,.rows s24,.int s25,.int s26,.int s27,.int p]=some (BU (Nv (⟨s0,s1,s2,s3,s4,s5,s6,s7,s8,s9,s10,s11,s12,s13,s14,s15,s16,s17,s18,s19,s20,s21,s22,s23,s24,s25,s26,s27⟩:Inn) p)):=by
 show Ju (std (FD N) N) (xOf _)=_;generalize hres:(some (BU (Nv (⟨s0,s1,s2,s3,s4,s5,s6,s7,s8,s9,s10,s11,s12,s13,s14,s15,s16,s17,s18,s19,s20,s21,s22,s23,s24,s25,s26,s27⟩:Inn) p)):Option (List PV))=RR;simp only [Ju,Sa,Pp,NP,lq9,std,xOf,PXb,PXc,PXn,PXm,Nat.reduceAdd,Int.reduceBEq,UN h,IA,Hc h.sb];subst hres;simp only [Nv];cases inR p s24.length<;>cases HV (⟨s0,s1,s2,s3,s4,s5,s6,s7,s8,s9,s10,s11,s12,s13,s14,s15,s16,s17,s18,s19,s20,s21,s22,s23,s24,s25,s26,s27⟩:Inn) p<;>cases p==s15<;>cases p==s22<;>rfl
def Rb (s:Inn) (p:Int) (on:Bool):Inn×Int :=
  cond (!inR p s.subs.length) (s,3) (cond (HV s p==on) (s,18)
    ({ s with subs:=th s.subs p on,keeper:=cond (on&&s.keeper==p) 0 s.keeper,bowler:=cond (on&&s.bowler==p) 0 s.bowler },0))
theorem YX {N:Nat} {s18 s20:Bool} {p:Int} {b:Bool} (h:Fit s14 s16 s17 s19 s24):Dt N [.int s0,.int s1,.int s2,.int s3,.int s4,.int s5,.int s6,.int s7,.int s8,.int s9,.int s10,.int s11,.int s12,.int s13,.rows s14,.int s15,.rows s16,.rows s17,.bool s18,.rows s19,.bool s20,.int s21,.int s22,.int s23,.rows s24,.int s25,.int s26,.int s27,.int p,.bool b]=some (BU (Rb (⟨s0,s1,s2,s3,s4,s5,s6,s7,s8,s9,s10,s11,s12,s13,s14,s15,s16,s17,s18,s19,s20,s21,s22,s23,s24,s25,s26,s27⟩:Inn) p b)):=by
 show Fi (std (DK N) N) (xOf _)=_;generalize hres:(some (BU (Rb (⟨s0,s1,s2,s3,s4,s5,s6,s7,s8,s9,s10,s11,s12,s13,s14,s15,s16,s17,s18,s19,s20,s21,s22,s23,s24,s25,s26,s27⟩:Inn) p b)):Option (List PV))=RR;simp only [Fi,Nt,Mb,Ke,lq9,std,xOf,PXb,PXc,PXn,PXm,Nat.reduceAdd,Int.reduceBEq,UN h,IA,Hc h.sb];subst hres;simp only [Rb];cases hp:inR p s24.length<;>try rfl
 rw [K4 hp h.sb];cases HV (⟨s0,s1,s2,s3,s4,s5,s6,s7,s8,s9,s10,s11,s12,s13,s14,s15,s16,s17,s18,s19,s20,s21,s22,s23,s24,s25,s26,s27⟩:Inn) p==b<;>cases b<;>cases s22==p<;>cases s15==p<;>rfl
def Ll (s:Inn) (n:Int):Inn×Int :=
 cond (iLt n 0||iLt (IntKind.i64.wrap ((s.subs.length:Int) - 2)) n) (s,16) ({ s with outside:=n },0)
theorem dJ {N:Nat} {s18 s20:Bool} {n:Int} (h:Fit s14 s16 s17 s19 s24):F8 N [.int s0,.int s1,.int s2,.int s3,.int s4,.int s5,.int s6,.int s7,.int s8,.int s9,.int s10,.int s11,.int s12,.int s13,.rows s14,.int s15,.rows s16,.rows s17,.bool s18,.rows s19,.bool s20,.int s21,.int s22,.int s23,.rows s24,.int s25,.int s26,.int s27,.int n]=some (BU (Ll (⟨s0,s1,s2,s3,s4,s5,s6,s7,s8,s9,s10,s11,s12,s13,s14,s15,s16,s17,s18,s19,s20,s21,s22,s23,s24,s25,s26,s27⟩:Inn) n)):=by
 show Ir (std (KQ N) N) (xOf _)=_;generalize hres:(some (BU (Ll (⟨s0,s1,s2,s3,s4,s5,s6,s7,s8,s9,s10,s11,s12,s13,s14,s15,s16,s17,s18,s19,s20,s21,s22,s23,s24,s25,s26,s27⟩:Inn) n)):Option (List PV))=RR;simp only [Ir,QT,lq9,std,xOf,PXb,PXc,PXn,PXm,Nat.reduceAdd,Int.reduceBEq,UN h];subst hres;simp only [Ll];cases (iLt n 0||iLt (IntKind.i64.wrap ((s24.length:Int) - 2)) n)<;>rfl
def Ro (r:Rul) (s:Inn):Int :=
 cond (!inR s.keeper s.subs.length||HV s s.keeper||s.keeper==s.bowler) 17 (cond (iLt (mc r s.complete) s.outside) 16 0)
theorem jI {N:Nat} {r8:Bool} {r0:ByteArray} {r13:Rows} {s18 s20:Bool} (h:Fit s14 s16 s17 s19 s24) (hN:2097152<N) (h13:r13.length≤1048576):Hp N [.str r0,.int r1,.int r2,.int r3,.int r4,.int r5,.int r6,.int r7,.bool r8,.int r9,.int r10,.int r11,.int r12,.rows r13,.int s0,.int s1,.int s2,.int s3,.int s4,.int s5,.int s6,.int s7,.int s8,.int s9,.int s10,.int s11,.int s12,.int s13,.rows s14,.int s15,.rows s16,.rows s17,.bool s18,.rows s19,.bool s20,.int s21,.int s22,.int s23,.rows s24,.int s25,.int s26,.int s27]=some [.int (Ro (⟨r0,r1,r2,r3,r4,r5,r6,r7,r8,r9,r10,r11,r12,r13⟩:Rul) (⟨s0,s1,s2,s3,s4,s5,s6,s7,s8,s9,s10,s11,s12,s13,s14,s15,s16,s17,s18,s19,s20,s21,s22,s23,s24,s25,s26,s27⟩:Inn))]:=by
 show LJ (std (F0 N) N) (xOf _)=_;generalize hres:(some [.int (Ro (⟨r0,r1,r2,r3,r4,r5,r6,r7,r8,r9,r10,r11,r12,r13⟩:Rul) (⟨s0,s1,s2,s3,s4,s5,s6,s7,s8,s9,s10,s11,s12,s13,s14,s15,s16,s17,s18,s19,s20,s21,s22,s23,s24,s25,s26,s27⟩:Inn))]:Option (List PV))=RR;simp only [LJ,Qv,OD,O5,lq9,std,xOf,PXb,PXc,PXn,PXm,Nat.reduceAdd,Int.reduceBEq,IA,Hc h.sb,dU hN h13];subst hres;simp only [Ro];cases inR s22 s24.length<;>cases HV (⟨s0,s1,s2,s3,s4,s5,s6,s7,s8,s9,s10,s11,s12,s13,s14,s15,s16,s17,s18,s19,s20,s21,s22,s23,s24,s25,s26,s27⟩:Inn) s22<;>cases s22==s15<;>rfl
def SI (s:Inn) (d:Del):Int :=
  cond (iLt 0 d.fielder && !inR d.fielder s.subs.length) 3 (cond (iLt 0 d.fielder && !(d.sub==HV s d.fielder)) 18
    (cond (iLt 0 d.second && !inR d.second s.subs.length) 3 (cond (iLt 0 d.second&&HV s d.second) 18
      (cond (d.how==4 && !(pg d.fielder==s.keeper)) 17 0))))
theorem iX {N:Nat} {s18 s20:Bool} {d5 d10:Bool} (h:Fit s14 s16 s17 s19 s24):Hy N [.int s0,.int s1,.int s2,.int s3,.int s4,.int s5,.int s6,.int s7,.int s8,.int s9,.int s10,.int s11,.int s12,.int s13,.rows s14,.int s15,.rows s16,.rows s17,.bool s18,.rows s19,.bool s20,.int s21,.int s22,.int s23,.rows s24,.int s25,.int s26,.int s27,.int d0,.int d1,.int d2,.int d3,.int d4,.bool d5,.int d6,.int d7,.int d8,.int d9,.bool d10,.int d11]=some [.int (SI (⟨s0,s1,s2,s3,s4,s5,s6,s7,s8,s9,s10,s11,s12,s13,s14,s15,s16,s17,s18,s19,s20,s21,s22,s23,s24,s25,s26,s27⟩:Inn) (⟨d0,d1,d2,d3,d4,d5,d6,d7,d8,d9,d10,d11⟩:Del))]:=by
 show LR (std (Iw N) N) (xOf _)=_;generalize hres:(some [.int (SI (⟨s0,s1,s2,s3,s4,s5,s6,s7,s8,s9,s10,s11,s12,s13,s14,s15,s16,s17,s18,s19,s20,s21,s22,s23,s24,s25,s26,s27⟩:Inn) (⟨d0,d1,d2,d3,d4,d5,d6,d7,d8,d9,d10,d11⟩:Del))]:Option (List PV))=RR;simp only [LR,QW,N0,lq9,std,xOf,PXb,PXc,PXn,PXm,Nat.reduceAdd,Int.reduceBEq,IA,Hc h.sb];subst hres;simp only [SI,pg,we];cases iLt 0 d8<;>cases iLt 0 d9<;>cases inR d8 s24.length<;>cases inR d9 s24.length<;>cases d10==HV (⟨s0,s1,s2,s3,s4,s5,s6,s7,s8,s9,s10,s11,s12,s13,s14,s15,s16,s17,s18,s19,s20,s21,s22,s23,s24,s25,s26,s27⟩:Inn) d8<;>cases HV (⟨s0,s1,s2,s3,s4,s5,s6,s7,s8,s9,s10,s11,s12,s13,s14,s15,s16,s17,s18,s19,s20,s21,s22,s23,s24,s25,s26,s27⟩:Inn) d9<;>rfl
structure Cre where
 batter:Int
 wides:Int
 noballs:Int
 byes:Int
 legbyes:Int
 bowler:Int
 counts:Bool
 faced:Bool
 wicket:Bool
 swap:Bool
def Cre.ls (c:Cre):List PV:=[.int c.batter,.int c.wides,.int c.noballs,.int c.byes,.int c.legbyes,.int c.bowler,.bool c.counts,.bool c.faced,.bool c.wicket,.bool c.swap]
def Yd (d:Del):Bool :=
  cond (d.type==2) (d.source==0 && !(d.boundary==6)) (cond (d.source==0) (d.runs==0&&d.boundary==0)
    (cond (d.boundary==0) (iLt 0 d.runs) (cond (d.boundary==6) (d.source==1&&d.runs==0) true)))
def GC (d:Del):Int :=
  cond (iLt d.type 1||iLt 3 d.type||iLt 3 d.source||iLt 10 d.how || !btw d.sector 0 8) 11
    (cond (!btw d.runs 0 7 || !btw d.short 0 d.runs||(!(d.boundary==0) && !(d.boundary==4) && !(d.boundary==6))) 12
      (cond (!Yd d) 11 (cond (!(d.sector==0) && !(d.source==1) && !(d.how==2)) 11 (cond (!(d.boundary==0) && !(d.how==0)) 11
        (cond (d.crossed && !(d.how==6) && !(d.how==8)) 11 0)))))
def Km (d:Del):Bool :=
  cond (d.type==2) (d.source==0 && !(d.boundary==6)) (cond (d.source==0) (d.runs==0&&d.boundary==0)
    (cond (d.source==1) (!(d.boundary==6)||d.runs==0) (!(d.boundary==6)&&(iLt 0 d.runs || !(d.boundary==0)))))
theorem XP {N:Nat} {d5 d10:Bool}  : Da N [.int d0,.int d1,.int d2,.int d3,.int d4,.bool d5,.int d6,.int d7,.int d8,.int d9,.bool d10,.int d11]=some [.bool (Km (⟨d0,d1,d2,d3,d4,d5,d6,d7,d8,d9,d10,d11⟩:Del))]:=by
 show FI (std (Lz N) N) (xOf _)=_;generalize hres:(some [.bool (Km (⟨d0,d1,d2,d3,d4,d5,d6,d7,d8,d9,d10,d11⟩:Del))]:Option (List PV))=RR;simp only [FI,lq9,std,xOf,PXb,PXc,PXn,PXm,Nat.reduceAdd,Int.reduceBEq];subst hres;simp only [Km]
theorem yC (x a b:Int):(!btw x a b)=(iLt x a||iLt b x):=by
 unfold btw iLe iLt;rw [Bool.eq_iff_iff];simp only [Bool.not_eq_true',Bool.and_eq_false_iff,decide_eq_false_iff_not,Bool.or_eq_true,decide_eq_true_eq];omega
theorem vm {d:Del} (h:0≤d.runs):(!Km d || !d.type==2&&d.source==1&&d.runs==0&&d.boundary==0) = !Yd d:=by
 unfold Km Yd;rw [vf h];cases h1:d.source==0 with
 | true =>
  rw [fR h1 (c:=1) rfl];cases d.type==2<;>cases d.runs==0<;>cases d.boundary==0<;>cases d.boundary==6<;>rfl
 | false =>
  cases h2:d.boundary==0 with
  | true =>
   rw [fR h2 (c:=6) rfl];cases d.type==2<;>cases d.source==1<;>cases d.runs==0<;>rfl
  | false=>cases d.type==2<;>cases d.source==1<;>cases d.runs==0<;>cases d.boundary==6<;>rfl
theorem RP {N:Nat} {d5 d10:Bool}  : CS N [.int d0,.int d1,.int d2,.int d3,.int d4,.bool d5,.int d6,.int d7,.int d8,.int d9,.bool d10,.int d11]=some [.int (GC (⟨d0,d1,d2,d3,d4,d5,d6,d7,d8,d9,d10,d11⟩:Del))]:=by
 show Hj (std (JZ N) N) (xOf _)=_;generalize hres:(some [.int (GC (⟨d0,d1,d2,d3,d4,d5,d6,d7,d8,d9,d10,d11⟩:Del))]:Option (List PV))=RR;simp only [Hj,KR,lq9,std,xOf,PXb,PXc,PXn,PXm,Nat.reduceAdd,Int.reduceBEq,XP];subst hres;simp only [GC,yC,Bool.or_assoc];cases h2:(iLt d2 0||(iLt 7 d2||(iLt d3 0||(iLt d2 d3 || !d4==0 && !d4==4 && !d4==6)))) with
 | true=>rfl
 | false =>
  have h3:0≤d2:=by
   rw [Bool.or_eq_false_iff] at h2;have:=h2.1;simp only [iLt,decide_eq_false_iff_not] at this;omega
  have:=vm (d:=(⟨d0,d1,d2,d3,d4,d5,d6,d7,d8,d9,d10,d11⟩:Del)) h3;simp only at this;rw [this]
theorem SW {N:Nat} {a:Int} {b:Int} {c:Int} {d:Int} {e:Int} {x:Int} {p:Bool} {q:Bool} {u:Bool} {v:Bool}  : CO N [.int a,.int b,.int c,.int d,.int e,.int x,.bool p,.bool q,.bool u,.bool v]=some [.int (IntKind.i64.wrap (IntKind.i64.wrap (IntKind.i64.wrap (IntKind.i64.wrap (a+b)+c)+d)+e))]:=by
 rfl
def Db (c:Cre):Int:=IntKind.i64.wrap (IntKind.i64.wrap (IntKind.i64.wrap (IntKind.i64.wrap (c.batter+c.wides)+c.noballs)+c.byes)+c.legbyes)
def gU (h:Int):Bool:=iLe 1 h&&iLe h 5
theorem XU {N:Nat} {h:Int}  : DY N [.int h]=some [.bool (gU h)]:=by
 show FM (std (L3 N) N) (xOf _)=_;simp only [FM,lq9,std,xOf,PXb,PXc,PXn,PXm,Nat.reduceAdd,Int.reduceBEq,gU]
def TA (r:Rul) (d:Del):Cre :=
  let n:=IntKind.i64.wrap (IntKind.i64.wrap (d.runs - d.short)+d.boundary)
  let b:=cond (!(d.type==2)&&d.source==1) n 0
  let w:=cond (d.type==2) (IntKind.i64.wrap (r.wide+n)) 0
  let o:=cond (d.type==3) r.noball 0
  { batter:=b,wides:=w,noballs:=o,byes:=cond (!(d.type==2)&&d.source==2) n 0,legbyes:=cond (!(d.type==2)&&d.source==3) n 0,bowler:=IntKind.i64.wrap (IntKind.i64.wrap (b+w)+o),
    counts:=d.type==1,faced := !(d.type==2),wicket:=gU d.how,swap := !((!(d.runs.tmod 2==0))==d.crossed) }
def AE (r:Rul) (d:Del):Cre:=cond (!(GC d==0)) ⟨0,0,0,0,0,0,false,false,false,false⟩ (TA r d)
theorem pI {d:Del} (h:(GC d==0)=true):0≤d.runs∧d.runs≤7:=by
 unfold GC at h;cases h1:(iLt d.type 1||iLt 3 d.type||iLt 3 d.source||iLt 10 d.how || !btw d.sector 0 8) with
 | true=>rw [h1] at h;cases h
 | false =>
  cases h2:(!btw d.runs 0 7 || !btw d.short 0 d.runs||(!(d.boundary==0) && !(d.boundary==4) && !(d.boundary==6))) with
  | true=>rw [h1,h2] at h;cases h
  | false =>
   rw [Bool.or_eq_false_iff,Bool.or_eq_false_iff] at h2;have:=h2.1.1;simp only [btw,iLe,Bool.not_eq_false',zzk,decide_eq_true_eq] at this;exact this
theorem vQ {n:Int} (h:0≤n∧n≤7) (b:Bool):((cond b (IntKind.i64.wrap (n+1)) n).tmod 2==1) = !((!(n.tmod 2==0))==b):=by
 obtain ⟨k,rfl⟩:∃ k:Nat,n=k:=⟨n.toNat,by omega⟩;have:k=0∨k=1∨k=2∨k=3∨k=4∨k=5∨k=6∨k=7:=by omega
 rcases this with h | h | h | h | h | h | h | h<;>subst h<;>cases b<;>rfl
theorem KZ {N:Nat} {r8:Bool} {r0:ByteArray} {r13:Rows} {d5 d10:Bool}  : BP N [.str r0,.int r1,.int r2,.int r3,.int r4,.int r5,.int r6,.int r7,.bool r8,.int r9,.int r10,.int r11,.int r12,.rows r13,.int d0,.int d1,.int d2,.int d3,.int d4,.bool d5,.int d6,.int d7,.int d8,.int d9,.bool d10,.int d11]=some (AE (⟨r0,r1,r2,r3,r4,r5,r6,r7,r8,r9,r10,r11,r12,r13⟩:Rul) (⟨d0,d1,d2,d3,d4,d5,d6,d7,d8,d9,d10,d11⟩:Del)).ls:=by
 show GZ (std (FK N) N) (xOf _)=_;generalize hres:(some (AE (⟨r0,r1,r2,r3,r4,r5,r6,r7,r8,r9,r10,r11,r12,r13⟩:Rul) (⟨d0,d1,d2,d3,d4,d5,d6,d7,d8,d9,d10,d11⟩:Del)).ls:Option (List PV))=RR;simp only [GZ,Lh,KB,lq9,std,xOf,PXb,PXc,PXn,PXm,Nat.reduceAdd,Int.reduceBEq,RP,XU];subst hres;simp only [AE,TA];cases hl:GC (⟨d0,d1,d2,d3,d4,d5,d6,d7,d8,d9,d10,d11⟩:Del)==0 with
 | false=>rfl
 | true =>
  have hs:=vQ (pI hl) d5;simp only at hs;simp only [PXb,PXc,PXn,PXm,Nat.reduceAdd,Int.reduceBEq,hs];cases h0:d0==2<;>cases h3:d0==3<;>cases h1:d1==1<;>cases h2:d1==2<;>cases h4:d1==3<;>first
   | rfl
   | (rw [fR h0 (c:=3) rfl] at h3;exact absurd h3 (by decide))
   | (rw [fR h1 (c:=2) rfl] at h2;exact absurd h2 (by decide))
   | (rw [fR h1 (c:=3) rfl] at h4;exact absurd h4 (by decide))
   | (rw [fR h2 (c:=3) rfl] at h4;exact absurd h4 (by decide))
def onS (h t:Int):Bool :=
 cond (h==1||h==2||h==3) (t==1) (cond (h==4||h==5) (t==1||t==2) (cond (h==7) (t==1||t==3) (cond (h==6||h==8) (t==1||t==2||t==3) false)))
def jS (h:Int):Bool:=h==6||h==7||h==8
def OI (h:Int):Bool:=h==6||h==8
def db (h:Int):Bool:=h==2||h==4||h==6
def Qd (d:Del) (free:Bool):Int :=
  cond (d.how==0) (cond (!(d.victim==0)) 14 (cond (!(d.fielder==0) || !(d.second==0)||d.sub) 15 0))
    (cond (!onS d.how d.type||free && !jS d.how) 13 (cond (!OI d.how&&(!(d.source==0) || !(d.runs==0))) 12
      (cond (!(d.victim==1) && !(d.victim==2&&OI d.how)) 14
        (cond (db d.how && !btw d.fielder 1 11 || !db d.how && !(d.fielder==0)) 15
          (cond (!(d.second==0)&&(!(d.how==6) || !btw d.second 1 11||d.second==d.fielder)) 15
            (cond (d.sub && !(d.how==2) && !(d.how==6)) 18 0))))))
def Bu:Rows:=match Bm 0 [] with
 | some [.rows l]=>l
 | _=>[]
theorem P9 {N:Nat}:Bm N []=some [.rows Bu]:=rfl
theorem aW:Bu.length=11:=rfl
theorem Yp {N:Nat} {h:Int} {n:ByteArray} {b:Bool} {c:Bool} {d:Bool} {e:Bool} {x:Bool} {t:Int}  : Ds N [.int h,.str n,.bool b,.bool c,.bool d,.bool e,.bool x,.int t]=some [.bool (t==1&&b||t==2&&c||t==3&&d)]:=by
 show Fx (std (MQ N) N) (xOf _)=_;simp only [Fx,lq9,std,xOf,PXb,PXc,PXn,PXm,Nat.reduceAdd,Int.reduceBEq]
theorem UO {N:Nat} {n:Int}  : Cs N [.int n]=some [.bool (btw n 1 11)]:=by
 show Dn (std (JH N) N) (xOf _)=_;simp only [Dn,lq9,std,xOf,PXb,PXc,PXn,PXm,Nat.reduceAdd,Int.reduceBEq];rfl
def oz (i j:Nat):Bool:=pvB (AB Bu i j)
def wOk (t:Int) (free:Bool) (i:Nat):Bool :=
  (t==1&&oz i 2||t==2&&oz i 3||t==3&&oz i 4)&&(!free||atI Bu i 0==6||atI Bu i 0==7||atI Bu i 0==8)
def HZ (t:Int) (free:Bool):Nat→Rows
 | 0=>[]
 | i+1=>cond (wOk t free i) (HZ t free i++[[.int (atI Bu i 0)]]) (HZ t free i)
theorem bT (t:Int) (free:Bool):∀ i,(HZ t free i).length≤i
 | 0=>Nat.le_refl _
 | i+1=>by
  have:=bT t free i;unfold HZ;cases wOk t free i
  ·exact Nat.le_succ_of_le this
  ·simp;exact this
theorem aV {N:Nat} {t:Int} {f:Bool} (hN:2097152<N):FE N [.int t,.bool f]=some [.rows (HZ t f 11)]:=by
 show He (std (Fu N) N) (xOf _)=_;simp only [He,Lq,Ku,lq9,std,xOf,PXb,PXc,PXn,AJ,P9,Yp];refine Ak (EI (len:=Bu.length) (fun i=>[.rows (HZ t f i),.int (i:Int)]) [.rows (HZ t f 11)] ?_ ?_ N (by rw [aW];omega)) rfl
 ·intro self;simp only [PXb,PXc,PXn,AJ,Bg];rfl
 ·intro i self hi;have hi2:i<11:=hi;have h2:(HZ t f i++[[PV.int (atI Bu i 0)]]).length≤4194304:=by have:=bT t f i;simp;omega
  simp only [PXb,PXc,AJ,BA (show i≤1099511627776 by omega),BQ hi,Ap hi,Ca,HZ,GT h2 (show 1≤4096 by omega)];unfold wOk oz;cases ((t==1&&pvB (AB Bu i 2)||t==2&&pvB (AB Bu i 3)||t==3&&pvB (AB Bu i 4))&&(!f||atI Bu i 0==6||atI Bu i 0==7||atI Bu i 0==8))<;>rfl
theorem Yx {N:Nat} {L:Rows} {v:Int} (hN:L.length<N) (hl:L.length≤1048576):Dq N [.rows L,.int v]=some [.int (Pi (fun j=>v==atI L j 0) L.length)]:=by
 show F3 (std (Mu N) N) (xOf _)=_;simp only [F3,lq9,std,xOf,PXb,PXc,PXn,AJ];refine Ak (Ci (len:=L.length) (GH fun j=>v==atI L j 0) ?_ ?_ L.length 0 N (by omega) (by omega)) ?_
 ·intro self;simp only [PXb,PXc,PXn,AJ,Bg]
 ·intro i self hi;simp only [PXb,PXc,PXn,AJ,BA (show i≤1099511627776 by omega),BQ hi,Ap hi,GH,Ca];cases v==atI L i 0<;>rfl
 ·unfold Pi;cases BO (GH fun j=>v==atI L j 0) L.length 0<;>rfl
theorem UY {N:Nat} {L:Rows} {v:Int} (hN:L.length<N) (hl:L.length≤1048576):C5 N [.rows L,.int v]=some [.bool (KO L L.length v)]:=by
 show D5 (std (FU N) N) (xOf _)=_;simp only [D5,IW,lq9,std,xOf,PXb,PXc,PXn,AJ,Yx hN hl,J9,KO]
theorem sT (L:Rows) (v:Int):KO L L.length v=KN (fun x=>v==x) L:=rfl
theorem xP (p:Int→Bool) (b:Bool) (L:Rows) (x:Int):KN p (cond b (L++[[.int x]]) L)=(KN p L||(b&&p x)):=by
 cases b with
 | false=>simp
 | true=>rw [cond_true,mS,Bool.true_and];congr 1;rw [Nx];simp [AG,pvI]
theorem jk (t:Int) (free:Bool) (p:Int→Bool):∀ i,KN p (HZ t free i)=Bo (fun j=>wOk t free j&&p (atI Bu j 0)) i 0
 | 0=>rfl
 | i+1=>by rw [Yn,← jk t free p i,HZ,xP,Nat.zero_add]
theorem uC (t h:Int) (free:Bool):KO (HZ t free 11) (HZ t free 11).length h=(onS h t&&(!free||jS h)):=by
 rw [sT,jk];have key:∀ j,j<11→atI Bu j 0=j:=by
  intro j hj;have:j=0∨j=1∨j=2∨j=3∨j=4∨j=5∨j=6∨j=7∨j=8∨j=9∨j=10:=by omega
  rcases this with h | h | h | h | h | h | h | h | h | h | h<;>subst h<;>rfl
 by_cases hr:0≤h∧h≤10
 ·obtain ⟨k,rfl⟩:∃ k:Nat,h=k:=⟨h.toNat,by omega⟩;have:k=0∨k=1∨k=2∨k=3∨k=4∨k=5∨k=6∨k=7∨k=8∨k=9∨k=10:=by omega
  rcases this with h | h | h | h | h | h | h | h | h | h | h<;>subst h<;>simp only [CD,Jg,wOk,onS]<;>cases free<;>cases t==1<;>cases t==2<;>cases t==3<;>rfl
 ·rw [Jo.2 fun j _ hj=>by
   rw [key j (by omega),show (h==(j:Int))=false from beq_false_of_ne (by omega),Bool.and_false]]
  have e:∀ n:Int,0≤n→n≤10→(h==n)=false:=fun n h0 h1=>beq_false_of_ne (by omega)
  unfold onS;rw [e 1 (by omega) (by omega),e 2 (by omega) (by omega),e 3 (by omega) (by omega),e 4 (by omega) (by omega),e 5 (by omega) (by omega),e 6 (by omega) (by omega),e 7 (by omega) (by omega),e 8 (by omega) (by omega)];rfl
def Vw (h:Int):List PV:=match BO (fun i=>cond (atI Bu i 0==h) (some [.int (pvI (AB Bu i 0)),.str (pvS (AB Bu i 1)),.bool (pvB (AB Bu i 2)),.bool (pvB (AB Bu i 3)),.bool (pvB (AB Bu i 4)),.bool (pvB (AB Bu i 5)),.bool (pvB (AB Bu i 6))]) none) 11 0 with
 | some r=>r
 | none=>[.int 0,.str ⟨#[]⟩,.bool false,.bool false,.bool false,.bool false,.bool false]
theorem QU {ans:Nat→Option (List PV)} {r:List PV}:∀ (k i:Nat),BO ans k i=some r→∃ j,i≤j∧j<i+k∧ans j=some r
 | 0,i,h=>by cases h
 | k+1,i,h=>by
  simp only [BO] at h;cases ha:ans i with
  | some x=>rw [ha] at h;cases h;exact ⟨i,Nat.le_refl _,by omega,ha⟩
  | none =>
   rw [ha] at h;obtain ⟨j,h1,h2,h3⟩:=QU k (i+1) h;exact ⟨j,by omega,by omega,h3⟩
theorem si (h:Int):∃ a b c d e f g,Vw h=[.int a,.str b,.bool c,.bool d,.bool e,.bool f,.bool g]:=by
 unfold Vw;generalize hf:BO _ 11 0=o;cases o with
 | none=>exact ⟨_,_,_,_,_,_,_,rfl⟩
 | some r =>
  obtain ⟨j,_,_,h3⟩:=QU _ _ hf;cases hb:atI Bu j 0==h with
  | false=>rw [hb] at h3;cases h3
  | true=>rw [hb] at h3;cases h3;exact ⟨_,_,_,_,_,_,_,rfl⟩
theorem fB {N:Nat} {h:Int} (hN:2097152<N):Gm N [.int h]=some (Vw h):=by
 show J2 (std (Lg N) N) (xOf _)=_;simp only [J2,NG,lq9,std,xOf,PXb,PXc,PXn,AJ,P9];refine Ak (Ci (len:=Bu.length) (fun i=>cond (atI Bu i 0==h) (some [.int (pvI (AB Bu i 0)),.str (pvS (AB Bu i 1)),.bool (pvB (AB Bu i 2)),.bool (pvB (AB Bu i 3)),.bool (pvB (AB Bu i 4)),.bool (pvB (AB Bu i 5)),.bool (pvB (AB Bu i 6))]) none) ?_ ?_ Bu.length 0 N (by omega) (by rw [aW];omega)) ?_
 ·intro self;simp only [PXb,PXc,PXn,AJ,Bg]
 ·intro i self hi;have hi2:i<11:=hi;simp only [PXb,PXc,PXn,AJ,BA (show i≤1099511627776 by omega),BQ hi,Ap hi,Ca];cases atI Bu i 0==h<;>rfl
 ·unfold Vw;rw [aW];generalize hf:BO _ 11 0=o;cases o with
  | none=>rfl
  | some r =>
   obtain ⟨j,_,_,h3⟩:=QU _ _ hf;cases hb:atI Bu j 0==h with
   | false=>rw [hb] at h3;cases h3
   | true=>rw [hb] at h3;cases h3;rfl
theorem sK (h:Int):pvB (AG (Vw h) 5)=db h∧pvB (AG (Vw h) 6)=OI h:=by
 by_cases hr:0≤h∧h≤10
 ·obtain ⟨k,rfl⟩:∃ k:Nat,h=k:=⟨h.toNat,by omega⟩;have:k=0∨k=1∨k=2∨k=3∨k=4∨k=5∨k=6∨k=7∨k=8∨k=9∨k=10:=by omega
  rcases this with h | h | h | h | h | h | h | h | h | h | h<;>subst h<;>exact ⟨rfl,rfl⟩
 ·have e:∀ n:Int,0≤n→n≤10→(h==n)=false:=fun n h0 h1=>beq_false_of_ne (by omega)
  have key:∀ j,j<11→atI Bu j 0=j:=by
   intro j hj;have:j=0∨j=1∨j=2∨j=3∨j=4∨j=5∨j=6∨j=7∨j=8∨j=9∨j=10:=by omega
   rcases this with h | h | h | h | h | h | h | h | h | h | h<;>subst h<;>rfl
  unfold Vw;generalize hf:BO _ 11 0=o;cases o with
  | none =>
   unfold db OI;rw [e 2 (by omega) (by omega),e 4 (by omega) (by omega),e 6 (by omega) (by omega),e 8 (by omega) (by omega)];exact ⟨rfl,rfl⟩
  | some r =>
   obtain ⟨j,_,hj,h3⟩:=QU _ _ hf;rw [key j (by omega),show ((j:Int)==h)=false from beq_false_of_ne (by omega)] at h3;cases h3
def O8 (d:Del) (m:Bool):Bool :=
 !(!(m==btw d.fielder 1 11) || !m && !(d.fielder==0))&&(d.second==0||d.how==6&&btw d.second 1 11 && !(d.second==d.fielder))
theorem WO {N:Nat} {d5 d10:Bool} {a:Int} {n:ByteArray} {b:Bool} {c:Bool} {e:Bool} {f:Bool} {g:Bool}  : DD N [.int d0,.int d1,.int d2,.int d3,.int d4,.bool d5,.int d6,.int d7,.int d8,.int d9,.bool d10,.int d11,.int a,.str n,.bool b,.bool c,.bool e,.bool f,.bool g]=some [.bool (O8 (⟨d0,d1,d2,d3,d4,d5,d6,d7,d8,d9,d10,d11⟩:Del) f)]:=by
 show Ee (std (GL N) N) (xOf _)=_;generalize hres:(some [.bool (O8 (⟨d0,d1,d2,d3,d4,d5,d6,d7,d8,d9,d10,d11⟩:Del) f)]:Option (List PV))=RR;simp only [Ee,HJ,lq9,std,xOf,PXb,PXc,PXn,PXm,Nat.reduceAdd,Int.reduceBEq,UO];subst hres;simp only [O8];cases d9==0<;>cases d6==6<;>cases f<;>cases btw d8 1 11<;>cases d8==0<;>first | rfl | (cases btw d9 1 11<;>rfl)
theorem xt {α:Type} (a b:Bool) (x y:α):cond (a||b) x y=cond a x (cond b x y):=by cases a<;>rfl
theorem nL (d:Del) (m:Bool):(!O8 d m)=((m && !btw d.fielder 1 11 || !m && !(d.fielder==0))||(!(d.second==0)&&(!(d.how==6) || !btw d.second 1 11||d.second==d.fielder))):=by
 unfold O8;cases hb:btw d.fielder 1 11<;>cases hf:d.fielder==0
 ·cases m<;>cases d.second==0<;>cases d.how==6<;>cases btw d.second 1 11<;>cases d.second==d.fielder<;>rfl
 ·cases m<;>cases d.second==0<;>cases d.how==6<;>cases btw d.second 1 11<;>cases d.second==d.fielder<;>rfl
 ·cases m<;>cases d.second==0<;>cases d.how==6<;>cases btw d.second 1 11<;>cases d.second==d.fielder<;>rfl
 ·rw [beq_iff_eq.1 hf] at hb;exact absurd hb (by decide)
theorem V6 {N:Nat} {d5 d10:Bool} {f:Bool} (hN:2097152<N):DJ N [.int d0,.int d1,.int d2,.int d3,.int d4,.bool d5,.int d6,.int d7,.int d8,.int d9,.bool d10,.int d11,.bool f]=some [.int (Qd (⟨d0,d1,d2,d3,d4,d5,d6,d7,d8,d9,d10,d11⟩:Del) f)]:=by
 show Eb (std (B8 N) N) (xOf _)=_;generalize hres:(some [.int (Qd (⟨d0,d1,d2,d3,d4,d5,d6,d7,d8,d9,d10,d11⟩:Del) f)]:Option (List PV))=RR;have hl:=bT d0 f 11;obtain ⟨a,b,c,d,e,m,g,hline⟩:=si d6;have hbits:=sK d6;rw [hline] at hbits;have hm:m=db d6:=hbits.1;have hg:g=OI d6:=hbits.2;have h1:(HZ d0 f 11).length<N:=by omega
 have h2:(HZ d0 f 11).length≤1048576:=by omega
 simp only [Eb,Kf,Hf,J5,H3,lq9,std,xOf,PXb,PXc,PXn,PXm,Nat.reduceAdd,Int.reduceBEq,fB hN,hline,aV hN,UY h1 h2,uC,WO,nL];subst hres;simp only [Qd,xt];rw [hm,hg];unfold OI;cases d6==0<;>cases onS d6 d0<;>cases f<;>cases jS d6<;>try rfl
 all_goals (cases d6==6<;>cases d6==8<;>cases d7==2<;>rfl)
theorem Xr {N:Nat} {a:Int} {b:Int} {c:Int}  : Dz N [.int a,.int b,.int c]=some [.bool (btw a b c)]:=by
 show JF (std (M3 N) N) (xOf _)=_;show some [PV.bool (cond (iLe b a) (iLe a c) false)]=_;rw [dX];rfl
theorem ef {N:Nat} {a:Int} {b:Int} {c:Int}  : Fl N [.int a,.int b,.int c]=some [.bool (btw a b c)]:=by
 show ND (std (QF N) N) (xOf _)=_;show some [PV.bool (cond (iLe b a) (iLe a c) false)]=_;rw [dX];rfl
def jY (d:Del):Int :=
  cond (iLt d.type 1||iLt 3 d.type||iLt 3 d.source||iLt 10 d.how) 3
    (cond (!btw d.runs 0 7 || !btw d.short 0 d.runs||(!(d.boundary==0) && !(d.boundary==4) && !(d.boundary==6)) || !btw d.victim 0 2 || !btw d.fielder 0 11 || !btw d.second 0 11 || !btw d.sector 0 8) 2 0)
theorem bM {N:Nat} {d5 d10:Bool}  : C3 N [.int d0,.int d1,.int d2,.int d3,.int d4,.bool d5,.int d6,.int d7,.int d8,.int d9,.bool d10,.int d11]=some [.int (jY (⟨d0,d1,d2,d3,d4,d5,d6,d7,d8,d9,d10,d11⟩:Del))]:=by
 show Hl (std (I3 N) N) (xOf _)=_;generalize hres:(some [.int (jY (⟨d0,d1,d2,d3,d4,d5,d6,d7,d8,d9,d10,d11⟩:Del))]:Option (List PV))=RR;simp only [Hl,Kc,lq9,std,xOf,PXb,PXc,PXn,PXm,Nat.reduceAdd,Int.reduceBEq,Xr];subst hres;simp only [jY]
def loS (k:Int):Int:=cond (k==7) 0 (cond (k==13) 1 0)
def hiS (k:Int):Int:=cond (k==7) 11 (cond (k==13) 99 100000)
theorem fG {N:Nat} {k:Int}  : Gw N [.int k]=some [.int (loS k),.int (hiS k)]:=by
 show Jv (std (R4 N) N) (xOf _)=_;simp only [Jv,lq9,std,xOf,PXb,PXc,PXn,PXm,Nat.reduceAdd,Int.reduceBEq];unfold loS hiS;cases k==7<;>cases k==13<;>rfl
def uS (k:Int):Bool:=k==1||k==12||k==14||k==11||k==13
def uP (k:Int):Bool:=k==2||k==3||k==8||k==5||k==6||k==9
def uO (k:Int):Bool:=k==2
def uY (k:Int):Bool:=k==1||k==12||k==14||k==5||k==6||k==9
def uR (k:Int):Bool:=k==7||k==13||k==15
def uV (k:Int):Bool:=k==15
def uB (k:Int):Bool:=k==4
theorem fe {k:Int} (h:(iLt k 1||iLt 16 k)=false):k=1∨k=2∨k=3∨k=4∨k=5∨k=6∨k=7∨k=8∨k=9∨k=10∨k=11∨k=12∨k=13∨k=14∨k=15∨k=16:=by
 simp only [iLt,Bool.or_eq_false_iff,decide_eq_false_iff_not] at h;omega
def pG:Rows:=match Cx 0 [] with
 | some [.rows l]=>l
 | _=>[]
theorem im {N:Nat}:Cx N []=some [.rows pG]:=rfl
def DS (k f:Int):Bool:=iLe 0 (Lib.indexByte (pvS (AB pG (IntKind.u8.wrap (k - 1)).toNat 1)).data.toList f.toNat.toUInt8)||(k==5&&f==121)
theorem XT {N:Nat} {s:ByteArray} {f:Int}  : CF N [.str s,.int f]=some [.int (Lib.indexByte s.data.toList f.toNat.toUInt8)]:=by
 show FO (std (Gh N) N) (xOf _)=_;simp only [FO,HK,lq9,std,xOf,PXb,PXc,PXn,PXm,Nat.reduceAdd,Int.reduceBEq,Bc,dK]
theorem Xn {N:Nat} {k:Int} {f:Int} (h:(iLt k 1||iLt 16 k)=false):Ja N [.int k,.int f]=some [.bool (DS k f)]:=by
 show M7 (std (J8 N) N) (xOf _)=_;have hi:iIn (IntKind.u8.wrap (k - 1)) (pG.length:Int)=true:=by
  rcases fe h with h | h | h | h | h | h | h | h | h | h | h | h | h | h | h | h<;>subst h<;>rfl
 simp only [M7,RK,Mk,lq9,std,xOf,PXb,PXc,PXn,PXm,Nat.reduceAdd,Int.reduceBEq,im,XT,hi,DS]
theorem xD {k:Int} (h:(iLt k 1||iLt 16 k)=false):DS k 115=uS k∧DS k 112=uP k∧DS k 111=uO k∧DS k 121=uY k∧DS k 114=uR k∧DS k 118=uV k∧DS k 98=uB k:=by
 rcases fe h with h | h | h | h | h | h | h | h | h | h | h | h | h | h | h | h<;>subst h<;>exact ⟨rfl,rfl,rfl,rfl,rfl,rfl,rfl⟩
def qK (d:Del):Bool:=d.type==0&&(d.source==0&&(d.runs==0&&(d.short==0&&(d.boundary==0&&(d.crossed==false&&(d.how==0&&(d.victim==0&&(d.fielder==0&&(d.second==0&&(d.sub==false&&d.sector==0))))))))))
def jx (e:Ev):Bool:=(!(e.side==0) && !uS e.kind)||((!(e.player==0) && !uP e.kind)||((!(e.other==0) && !uO e.kind)||((e.yes && !uY e.kind)||((!(e.runs==0) && !uR e.kind)||((!(e.overs==0) && !uV e.kind)||(!qK e.ball && !uB e.kind))))))
def bF (e:Ev):Bool:=(!btw e.side 1 2&&uS e.kind)||((!btw e.player 1 11&&uP e.kind)||((!btw e.other 1 11&&uO e.kind)||((!btw e.runs (loS e.kind) (hiS e.kind)&&uR e.kind)||(!btw e.overs 0 90&&uV e.kind))))
def evS (e:Ev):Int:=cond (iLt e.kind 1||iLt 16 e.kind) 3 (cond (jx e) 1 (cond (bF e) 2 (cond (e.kind==4) (jY e.ball) 0)))
def evT (e:Ev):Rows:=[[.int 115,.bool (e.side==0),.bool (btw e.side 1 2)],[.int 112,.bool (e.player==0),.bool (btw e.player 1 11)],[.int 111,.bool (e.other==0),.bool (btw e.other 1 11)],[.int 121,.bool (!e.yes),.bool true],[.int 114,.bool (e.runs==0),.bool (btw e.runs (loS e.kind) (hiS e.kind))],[.int 118,.bool (e.overs==0),.bool (btw e.overs 0 90)],[.int 98,.bool (qK e.ball),.bool true]]
theorem Wn {N:Nat} {e4 e12 e17:Bool} (hN:2097152<N):CW N [.int e0,.int e1,.int e2,.int e3,.bool e4,.int e5,.int e6,.int e7,.int e8,.int e9,.int e10,.int e11,.bool e12,.int e13,.int e14,.int e15,.int e16,.bool e17,.int e18]=some [.int (evS (⟨e0,e1,e2,e3,e4,e5,e6,⟨e7,e8,e9,e10,e11,e12,e13,e14,e15,e16,e17,e18⟩⟩:Ev))]:=by
 show Hr (std (ED N) N) (xOf _)=_;generalize hres:(some [.int (evS (⟨e0,e1,e2,e3,e4,e5,e6,⟨e7,e8,e9,e10,e11,e12,e13,e14,e15,e16,e17,e18⟩⟩:Ev))]:Option (List PV))=RR;cases hk:iLt e0 1||iLt 16 e0 with
 | true =>
  simp only [Hr,H4,HN,JX,Dg,lq9,std,xOf,PXb,PXc,AJ,hk,← hres,evS]
 | false =>
  simp only [Hr,H4,HN,JX,Dg,lq9,std,xOf,PXb,PXc,AJ,hk,fG,ef];subst hres;obtain ⟨g1,g2,g3,g4,g5,g6,g7⟩:=xD hk;refine Ak (Li (len:=7) (fun i => !pvB (AB (evT (⟨e0,e1,e2,e3,e4,e5,e6,⟨e7,e8,e9,e10,e11,e12,e13,e14,e15,e16,e17,e18⟩⟩:Ev)) i 1) && !DS e0 (pvI (AB (evT (⟨e0,e1,e2,e3,e4,e5,e6,⟨e7,e8,e9,e10,e11,e12,e13,e14,e15,e16,e17,e18⟩⟩:Ev)) i 0))) [.int 1] ?_ ?_ N (by omega)) ?_
  ·intro self;rfl
  ·intro i self hi;simp only [PXb,PXc,AJ,BA (show i≤1099511627776 by omega),List.length_cons,List.length_nil,Nat.reduceAdd,BQ hi,Ap hi,Xn hk];change cond (!pvB (AB (evT (⟨e0,e1,e2,e3,e4,e5,e6,⟨e7,e8,e9,e10,e11,e12,e13,e14,e15,e16,e17,e18⟩⟩:Ev)) i 1) && !(!pvB (AB (evT (⟨e0,e1,e2,e3,e4,e5,e6,⟨e7,e8,e9,e10,e11,e12,e13,e14,e15,e16,e17,e18⟩⟩:Ev)) i 1)&&DS e0 (pvI (AB (evT (⟨e0,e1,e2,e3,e4,e5,e6,⟨e7,e8,e9,e10,e11,e12,e13,e14,e15,e16,e17,e18⟩⟩:Ev)) i 0)))) _ _=_;cases pvB (AB (evT (⟨e0,e1,e2,e3,e4,e5,e6,⟨e7,e8,e9,e10,e11,e12,e13,e14,e15,e16,e17,e18⟩⟩:Ev)) i 1)<;>rfl
  ·have a1:Bo (fun i => !pvB (AB (evT (⟨e0,e1,e2,e3,e4,e5,e6,⟨e7,e8,e9,e10,e11,e12,e13,e14,e15,e16,e17,e18⟩⟩:Ev)) i 1) && !DS e0 (pvI (AB (evT (⟨e0,e1,e2,e3,e4,e5,e6,⟨e7,e8,e9,e10,e11,e12,e13,e14,e15,e16,e17,e18⟩⟩:Ev)) i 0))) 7 0=jx (⟨e0,e1,e2,e3,e4,e5,e6,⟨e7,e8,e9,e10,e11,e12,e13,e14,e15,e16,e17,e18⟩⟩:Ev):=by
    simp only [CD,Jg];change (!(e1==0) && !DS e0 115||(!(e2==0) && !DS e0 112||(!(e3==0) && !DS e0 111||(!(!e4) && !DS e0 121||(!(e5==0) && !DS e0 114||(!(e6==0) && !DS e0 118||(!(qK (⟨e0,e1,e2,e3,e4,e5,e6,⟨e7,e8,e9,e10,e11,e12,e13,e14,e15,e16,e17,e18⟩⟩:Ev).ball) && !DS e0 98||false)))))))=_;rw [g1,g2,g3,g4,g5,g6,g7,Bool.not_not,Bool.or_false];rfl
   rw [a1];simp only [evS,hk,cond_false];cases jx (⟨e0,e1,e2,e3,e4,e5,e6,⟨e7,e8,e9,e10,e11,e12,e13,e14,e15,e16,e17,e18⟩⟩:Ev) with
   | true=>rfl
   | false =>
    simp only [PXb,PXc,AJ];refine Ak (Li (len:=7) (fun i => !pvB (AB (evT (⟨e0,e1,e2,e3,e4,e5,e6,⟨e7,e8,e9,e10,e11,e12,e13,e14,e15,e16,e17,e18⟩⟩:Ev)) i 2)&&DS e0 (pvI (AB (evT (⟨e0,e1,e2,e3,e4,e5,e6,⟨e7,e8,e9,e10,e11,e12,e13,e14,e15,e16,e17,e18⟩⟩:Ev)) i 0))) [.int 2] ?_ ?_ N (by omega)) ?_
    ·intro self;rfl
    ·intro i self hi;simp only [PXb,PXc,AJ,BA (show i≤1099511627776 by omega),List.length_cons,List.length_nil,Nat.reduceAdd,BQ hi,Ap hi,Xn hk];rfl
    ·have a2:Bo (fun i => !pvB (AB (evT (⟨e0,e1,e2,e3,e4,e5,e6,⟨e7,e8,e9,e10,e11,e12,e13,e14,e15,e16,e17,e18⟩⟩:Ev)) i 2)&&DS e0 (pvI (AB (evT (⟨e0,e1,e2,e3,e4,e5,e6,⟨e7,e8,e9,e10,e11,e12,e13,e14,e15,e16,e17,e18⟩⟩:Ev)) i 0))) 7 0=bF (⟨e0,e1,e2,e3,e4,e5,e6,⟨e7,e8,e9,e10,e11,e12,e13,e14,e15,e16,e17,e18⟩⟩:Ev):=by
      simp only [CD,Jg];change (!(btw e1 1 2)&&DS e0 115||(!(btw e2 1 11)&&DS e0 112||(!(btw e3 1 11)&&DS e0 111||(!true&&DS e0 121||(!(btw e5 (loS e0) (hiS e0))&&DS e0 114||(!(btw e6 0 90)&&DS e0 118||(!true&&DS e0 98||false)))))))=_;rw [g1,g2,g3,g4,g5,g6,g7];simp only [Bool.not_true,Bool.false_and,Bool.false_or,Bool.or_false];rfl
     rw [a2];cases bF (⟨e0,e1,e2,e3,e4,e5,e6,⟨e7,e8,e9,e10,e11,e12,e13,e14,e15,e16,e17,e18⟩⟩:Ev) with
     | true=>rfl
     | false =>
      simp only [PXb,PXc,PXn,PXm,Nat.reduceAdd,Int.reduceBEq,Dg,bM]
theorem c4 {c x x' y y':Bool} {a b d z z':Int} (h1:x=x') (h2:y=y') (h3:z=z'):(some [PV.int (cond c a (cond x b (cond y d z)))]:Option (List PV))=some [PV.int (cond c a (cond x' b (cond y' d z')))]:=by subst h1;subst h2;subst h3;rfl
structure Lens (s t:Inn):Prop where
 bt:t.batters.length=s.batters.length
 bd:t.bowled.length=s.bowled.length
 sb:t.subs.length=s.subs.length
 bw:t.bowlers.length≤s.bowlers.length+1
 bf:t.before.length≤s.before.length+s.bowlers.length+1
theorem Lens.refl (s:Inn):Lens s s:=⟨rfl,rfl,rfl,by omega,by omega⟩
theorem P_c {α:Type} {P:α→Prop} (b:Bool) (x y:α) (hx:P x) (hy:P y):P (cond b x y):=by cases b<;>assumption
theorem ki (s:Inn) (d:Del):Lens s (Ah s d):=by
 have hb:∀ (b:Bool),(cond b (N3 s.batters s.striker 2) s.batters).length=s.batters.length:=fun b=>by cases b<;>simp [LV]
 have hc:∀ (b:Bool),(cond b (N3 s.batters s.other 2) s.batters).length=s.batters.length:=fun b=>by cases b<;>simp [LV]
 unfold Ah;cases (!(d.runs.tmod 2==0) != d.crossed)<;>refine P_c _ _ _ ⟨hb _,rfl,rfl,?_,?_⟩ (P_c _ _ _ ⟨hc _,rfl,rfl,?_,?_⟩ ⟨rfl,rfl,rfl,?_,?_⟩)<;>simp<;>omega
theorem hY (r:Rul) (s:Inn) (c:Bool):Lens s (Au r s c).1:=by
 have hl:(cond (KO s.bowlers s.bowlers.length s.bowler) s.bowlers (s.bowlers++[[.int s.bowler]])).length≤s.bowlers.length+1:=by
  cases KO s.bowlers s.bowlers.length s.bowler<;>simp
 have hd:(cond c (N3 s.bowled s.bowler (inc (atI s.bowled (ix s.bowler) 0))) s.bowled).length=s.bowled.length:=by cases c<;>simp [LV]
 unfold Au;refine P_c (P:=fun x:Inn×Bool=>Lens s x.1) _ _ _ (Lens.refl s) (P_c (P:=fun x:Inn×Bool=>Lens s x.1) _ _ _ ⟨rfl,hd,rfl,hl,by simp;omega⟩ ⟨rfl,hd,rfl,by simp,?_⟩);simp only;omega
def dL (a b c d:Int):Int:=cond (!(a==0)) a (cond (!(b==0)) b (cond (!(c==0)) c (cond (!(d==0)) d 0)))
def IJ (r:Rul) (s:Inn) (d:Del):Int :=
 cond (Gx s.batters s.striker s.other) 6 (cond (s.bowler==0) 7 (dL (Ro r s) (GC d) (Qd d s.freehit) (SI s d)))
theorem Zh {N:Nat} {r8:Bool} {r0:ByteArray} {r13:Rows} {s18 s20:Bool} {d5 d10:Bool} (h:Fit s14 s16 s17 s19 s24) (hN:2097152<N) (h13:r13.length≤1048576):EP N [.str r0,.int r1,.int r2,.int r3,.int r4,.int r5,.int r6,.int r7,.bool r8,.int r9,.int r10,.int r11,.int r12,.rows r13,.int s0,.int s1,.int s2,.int s3,.int s4,.int s5,.int s6,.int s7,.int s8,.int s9,.int s10,.int s11,.int s12,.int s13,.rows s14,.int s15,.rows s16,.rows s17,.bool s18,.rows s19,.bool s20,.int s21,.int s22,.int s23,.rows s24,.int s25,.int s26,.int s27,.int d0,.int d1,.int d2,.int d3,.int d4,.bool d5,.int d6,.int d7,.int d8,.int d9,.bool d10,.int d11]=some [.int (IJ (⟨r0,r1,r2,r3,r4,r5,r6,r7,r8,r9,r10,r11,r12,r13⟩:Rul) (⟨s0,s1,s2,s3,s4,s5,s6,s7,s8,s9,s10,s11,s12,s13,s14,s15,s16,s17,s18,s19,s20,s21,s22,s23,s24,s25,s26,s27⟩:Inn) (⟨d0,d1,d2,d3,d4,d5,d6,d7,d8,d9,d10,d11⟩:Del))]:=by
 show Ga (std (CG N) N) (xOf _)=_;generalize hres:(some [.int (IJ (⟨r0,r1,r2,r3,r4,r5,r6,r7,r8,r9,r10,r11,r12,r13⟩:Rul) (⟨s0,s1,s2,s3,s4,s5,s6,s7,s8,s9,s10,s11,s12,s13,s14,s15,s16,s17,s18,s19,s20,s21,s22,s23,s24,s25,s26,s27⟩:Inn) (⟨d0,d1,d2,d3,d4,d5,d6,d7,d8,d9,d10,d11⟩:Del))]:Option (List PV))=RR;simp only [Ga,LX,MB,NN,I2,NM,lq9,std,xOf,PXb,TY h.bt hN,jI h hN h13,RP,V6 hN,iX h];subst hres;simp only [IJ];cases Gx s14 s12 s13<;>try rfl
 cases s15==0<;>try rfl
 simp only [PXb];generalize Ro (⟨r0,r1,r2,r3,r4,r5,r6,r7,r8,r9,r10,r11,r12,r13⟩:Rul) (⟨s0,s1,s2,s3,s4,s5,s6,s7,s8,s9,s10,s11,s12,s13,s14,s15,s16,s17,s18,s19,s20,s21,s22,s23,s24,s25,s26,s27⟩:Inn)=a;generalize GC (⟨d0,d1,d2,d3,d4,d5,d6,d7,d8,d9,d10,d11⟩:Del)=b;generalize Qd (⟨d0,d1,d2,d3,d4,d5,d6,d7,d8,d9,d10,d11⟩:Del) s20=c;generalize SI (⟨s0,s1,s2,s3,s4,s5,s6,s7,s8,s9,s10,s11,s12,s13,s14,s15,s16,s17,s18,s19,s20,s21,s22,s23,s24,s25,s26,s27⟩:Inn) (⟨d0,d1,d2,d3,d4,d5,d6,d7,d8,d9,d10,d11⟩:Del)=e;refine Ak (Ci (len:=4) (fun i=>cond (!(atI [[.int a],[.int b],[.int c],[.int e]] i 0==0)) (some [.int (atI [[.int a],[.int b],[.int c],[.int e]] i 0)]) none) ?_ ?_ 4 0 N (by omega) (by omega)) ?_
 ·intro self;rfl
 ·intro i self hi;simp only [PXb,BA (show i≤1099511627776 by omega),List.length_cons,List.length_nil,Nat.reduceAdd,BQ hi,Ap hi,Ca];cases atI [[.int a],[.int b],[.int c],[.int e]] i 0==0<;>rfl
 ·refine (dz _).trans (congrArg (fun z=>some [PV.int z]) ?_);unfold dL;simp only [BO];rw [show atI [[.int a],[.int b],[.int c],[.int e]] 0 0=a from rfl,show atI [[.int a],[.int b],[.int c],[.int e]] (0+1) 0=b from rfl,show atI [[.int a],[.int b],[.int c],[.int e]] (0+1+1) 0=c from rfl,show atI [[.int a],[.int b],[.int c],[.int e]] (0+1+1+1) 0=e from rfl];cases a==0<;>try rfl
  cases b==0<;>try rfl
  cases c==0<;>try rfl
  cases e==0<;>rfl
theorem Q8 {s t:Inn} (l:Lens s t) (h:s.Fit) (hw:s.before.length+s.bowlers.length≤1048575):t.Fit:=⟨l.bt▸h.bt,by have:=l.bw;omega,by have:=l.bf;omega,l.bd▸h.bd,l.sb▸h.sb⟩
theorem rG (s:Inn) (d:Del):(Ah s d).bowlers=s.bowlers:=by
 unfold Ah;cases (!(d.runs.tmod 2==0) != d.crossed)<;>exact P_c (P:=fun x:Inn=>x.bowlers=s.bowlers) _ _ _ rfl (P_c (P:=fun x:Inn=>x.bowlers=s.bowlers) _ _ _ rfl rfl)
theorem rC (s:Inn) (d:Del):(Ah s d).before=s.before:=by
 unfold Ah;cases (!(d.runs.tmod 2==0) != d.crossed)<;>exact P_c (P:=fun x:Inn=>x.before=s.before) _ _ _ rfl (P_c (P:=fun x:Inn=>x.before=s.before) _ _ _ rfl rfl)
@[reducible] def X0 (t:Inn) (a b e f g:Int):Inn:=⟨t.side,t.target,t.overs,a,t.wickets,b,e,f,g,t.pens,t.complete,t.inover,t.striker,t.other,t.batters,t.bowler,t.bowlers,t.before,t.fresh,t.bowled,t.freehit,t.ballage,t.keeper,t.outside,t.subs,t.rev1,t.rev2,t.ending⟩
def M2 (r:Rul) (s:Inn) (d:Del):Inn×Int :=
  cond (!(IJ r s d==0)) (s,IJ r s d)
    (let c:=AE r d
     let t:=Ah s d
     let o:=Au r (X0 t (IntKind.i64.wrap (t.runs+Db c)) (IntKind.i64.wrap (t.wides+c.wides)) (IntKind.i64.wrap (t.noballs+c.noballs)) (IntKind.i64.wrap (t.byes+c.byes)) (IntKind.i64.wrap (t.legbyes+c.legbyes))) c.counts
     let t:Inn:=cond o.2 (IK o.1) o.1
     ({ t with freehit:=cond (d.type==1) false (cond (d.type==3&&r.freehit) true o.1.freehit) },0))
theorem fH {N:Nat} {r8:Bool} {r0:ByteArray} {r13:Rows} {s18 s20:Bool} {d5 d10:Bool} (h:Fit s14 s16 s17 s19 s24) (hw:s17.length+s16.length≤1000000) (hN:2097152<N) (hs:r0.size≤1048576) (h13:r13.length≤1048576):HC N [.str r0,.int r1,.int r2,.int r3,.int r4,.int r5,.int r6,.int r7,.bool r8,.int r9,.int r10,.int r11,.int r12,.rows r13,.int s0,.int s1,.int s2,.int s3,.int s4,.int s5,.int s6,.int s7,.int s8,.int s9,.int s10,.int s11,.int s12,.int s13,.rows s14,.int s15,.rows s16,.rows s17,.bool s18,.rows s19,.bool s20,.int s21,.int s22,.int s23,.rows s24,.int s25,.int s26,.int s27,.int d0,.int d1,.int d2,.int d3,.int d4,.bool d5,.int d6,.int d7,.int d8,.int d9,.bool d10,.int d11]=some (BU (M2 (⟨r0,r1,r2,r3,r4,r5,r6,r7,r8,r9,r10,r11,r12,r13⟩:Rul) (⟨s0,s1,s2,s3,s4,s5,s6,s7,s8,s9,s10,s11,s12,s13,s14,s15,s16,s17,s18,s19,s20,s21,s22,s23,s24,s25,s26,s27⟩:Inn) (⟨d0,d1,d2,d3,d4,d5,d6,d7,d8,d9,d10,d11⟩:Del))):=by
 show KC (std (Bx N) N) (xOf _)=_;generalize hres:(some (BU (M2 (⟨r0,r1,r2,r3,r4,r5,r6,r7,r8,r9,r10,r11,r12,r13⟩:Rul) (⟨s0,s1,s2,s3,s4,s5,s6,s7,s8,s9,s10,s11,s12,s13,s14,s15,s16,s17,s18,s19,s20,s21,s22,s23,s24,s25,s26,s27⟩:Inn) (⟨d0,d1,d2,d3,d4,d5,d6,d7,d8,d9,d10,d11⟩:Del))):Option (List PV))=RR;have l1:=ki (⟨s0,s1,s2,s3,s4,s5,s6,s7,s8,s9,s10,s11,s12,s13,s14,s15,s16,s17,s18,s19,s20,s21,s22,s23,s24,s25,s26,s27⟩:Inn) (⟨d0,d1,d2,d3,d4,d5,d6,d7,d8,d9,d10,d11⟩:Del);have f1:=Q8 l1 h (by simp only;omega);have w1:(Ah (⟨s0,s1,s2,s3,s4,s5,s6,s7,s8,s9,s10,s11,s12,s13,s14,s15,s16,s17,s18,s19,s20,s21,s22,s23,s24,s25,s26,s27⟩:Inn) (⟨d0,d1,d2,d3,d4,d5,d6,d7,d8,d9,d10,d11⟩:Del)).bowlers.length=s16.length:=congrArg List.length (rG _ _);have w2:(Ah (⟨s0,s1,s2,s3,s4,s5,s6,s7,s8,s9,s10,s11,s12,s13,s14,s15,s16,s17,s18,s19,s20,s21,s22,s23,s24,s25,s26,s27⟩:Inn) (⟨d0,d1,d2,d3,d4,d5,d6,d7,d8,d9,d10,d11⟩:Del)).before.length=s17.length:=congrArg List.length (rC _ _);have l2:=fun (x:Rul) (c:Bool) (a b e f g:Int)=>hY x (X0 (Ah (⟨s0,s1,s2,s3,s4,s5,s6,s7,s8,s9,s10,s11,s12,s13,s14,s15,s16,s17,s18,s19,s20,s21,s22,s23,s24,s25,s26,s27⟩:Inn) (⟨d0,d1,d2,d3,d4,d5,d6,d7,d8,d9,d10,d11⟩:Del)) a b e f g) c
 have f2:=fun (x:Rul) (c:Bool) (a b e f g:Int)=>Q8 (l2 x c a b e f g) f1 (show (Ah (⟨s0,s1,s2,s3,s4,s5,s6,s7,s8,s9,s10,s11,s12,s13,s14,s15,s16,s17,s18,s19,s20,s21,s22,s23,s24,s25,s26,s27⟩:Inn) (⟨d0,d1,d2,d3,d4,d5,d6,d7,d8,d9,d10,d11⟩:Del)).before.length+(Ah (⟨s0,s1,s2,s3,s4,s5,s6,s7,s8,s9,s10,s11,s12,s13,s14,s15,s16,s17,s18,s19,s20,s21,s22,s23,s24,s25,s26,s27⟩:Inn) (⟨d0,d1,d2,d3,d4,d5,d6,d7,d8,d9,d10,d11⟩:Del)).bowlers.length≤1048575 by omega)
 simp only [KC,Ml,NS,Nm,NI,Qp,QY,OV,lq9,std,xOf,PXb,PXc,PXn,PXm,Nat.reduceAdd,Int.reduceBEq,Zh h hN h13,CL h,KZ,mJ h,SW,Cre.ls,kK f1 (show (Ah (⟨s0,s1,s2,s3,s4,s5,s6,s7,s8,s9,s10,s11,s12,s13,s14,s15,s16,s17,s18,s19,s20,s21,s22,s23,s24,s25,s26,s27⟩:Inn) (⟨d0,d1,d2,d3,d4,d5,d6,d7,d8,d9,d10,d11⟩:Del)).bowlers.length≤1048575 by omega) hN hs,uU,eB (f2 _ _ _ _ _ _ _)];subst hres;simp only [M2,X0];cases IJ (⟨r0,r1,r2,r3,r4,r5,r6,r7,r8,r9,r10,r11,r12,r13⟩:Rul) (⟨s0,s1,s2,s3,s4,s5,s6,s7,s8,s9,s10,s11,s12,s13,s14,s15,s16,s17,s18,s19,s20,s21,s22,s23,s24,s25,s26,s27⟩:Inn) (⟨d0,d1,d2,d3,d4,d5,d6,d7,d8,d9,d10,d11⟩:Del)==0 with
 | false=>rfl
 | true =>
  obtain ⟨o,ho⟩:∃ o,o=Au (⟨r0,r1,r2,r3,r4,r5,r6,r7,r8,r9,r10,r11,r12,r13⟩:Rul) (X0 (Ah (⟨s0,s1,s2,s3,s4,s5,s6,s7,s8,s9,s10,s11,s12,s13,s14,s15,s16,s17,s18,s19,s20,s21,s22,s23,s24,s25,s26,s27⟩:Inn) (⟨d0,d1,d2,d3,d4,d5,d6,d7,d8,d9,d10,d11⟩:Del)) (IntKind.i64.wrap ((Ah (⟨s0,s1,s2,s3,s4,s5,s6,s7,s8,s9,s10,s11,s12,s13,s14,s15,s16,s17,s18,s19,s20,s21,s22,s23,s24,s25,s26,s27⟩:Inn) (⟨d0,d1,d2,d3,d4,d5,d6,d7,d8,d9,d10,d11⟩:Del)).runs+Db (AE (⟨r0,r1,r2,r3,r4,r5,r6,r7,r8,r9,r10,r11,r12,r13⟩:Rul) (⟨d0,d1,d2,d3,d4,d5,d6,d7,d8,d9,d10,d11⟩:Del)))) (IntKind.i64.wrap ((Ah (⟨s0,s1,s2,s3,s4,s5,s6,s7,s8,s9,s10,s11,s12,s13,s14,s15,s16,s17,s18,s19,s20,s21,s22,s23,s24,s25,s26,s27⟩:Inn) (⟨d0,d1,d2,d3,d4,d5,d6,d7,d8,d9,d10,d11⟩:Del)).wides+(AE (⟨r0,r1,r2,r3,r4,r5,r6,r7,r8,r9,r10,r11,r12,r13⟩:Rul) (⟨d0,d1,d2,d3,d4,d5,d6,d7,d8,d9,d10,d11⟩:Del)).wides)) (IntKind.i64.wrap ((Ah (⟨s0,s1,s2,s3,s4,s5,s6,s7,s8,s9,s10,s11,s12,s13,s14,s15,s16,s17,s18,s19,s20,s21,s22,s23,s24,s25,s26,s27⟩:Inn) (⟨d0,d1,d2,d3,d4,d5,d6,d7,d8,d9,d10,d11⟩:Del)).noballs+(AE (⟨r0,r1,r2,r3,r4,r5,r6,r7,r8,r9,r10,r11,r12,r13⟩:Rul) (⟨d0,d1,d2,d3,d4,d5,d6,d7,d8,d9,d10,d11⟩:Del)).noballs)) (IntKind.i64.wrap ((Ah (⟨s0,s1,s2,s3,s4,s5,s6,s7,s8,s9,s10,s11,s12,s13,s14,s15,s16,s17,s18,s19,s20,s21,s22,s23,s24,s25,s26,s27⟩:Inn) (⟨d0,d1,d2,d3,d4,d5,d6,d7,d8,d9,d10,d11⟩:Del)).byes+(AE (⟨r0,r1,r2,r3,r4,r5,r6,r7,r8,r9,r10,r11,r12,r13⟩:Rul) (⟨d0,d1,d2,d3,d4,d5,d6,d7,d8,d9,d10,d11⟩:Del)).byes)) (IntKind.i64.wrap ((Ah (⟨s0,s1,s2,s3,s4,s5,s6,s7,s8,s9,s10,s11,s12,s13,s14,s15,s16,s17,s18,s19,s20,s21,s22,s23,s24,s25,s26,s27⟩:Inn) (⟨d0,d1,d2,d3,d4,d5,d6,d7,d8,d9,d10,d11⟩:Del)).legbyes+(AE (⟨r0,r1,r2,r3,r4,r5,r6,r7,r8,r9,r10,r11,r12,r13⟩:Rul) (⟨d0,d1,d2,d3,d4,d5,d6,d7,d8,d9,d10,d11⟩:Del)).legbyes))) (AE (⟨r0,r1,r2,r3,r4,r5,r6,r7,r8,r9,r10,r11,r12,r13⟩:Rul) (⟨d0,d1,d2,d3,d4,d5,d6,d7,d8,d9,d10,d11⟩:Del)).counts:=⟨_,rfl⟩;simp only [X0,Db] at ho ⊢;simp only [← ho];obtain ⟨o1,o2⟩:=o;cases o2<;>cases d0==1<;>cases d0==3<;>cases r8<;>rfl
theorem lL (r:Rul) (s:Inn) (b:Bool) (a c d e f:Int):Au r (X0 s a c d e f) b=(X0 (Au r s b).1 a c d e f,(Au r s b).2):=by
 unfold Au X0;simp only;cases (!inR s.bowler s.bowled.length || !(A5 r==0)) with
 | true=>rfl
 | false =>
  simp only [cond_false];cases iLt (cond b (inc s.inover) s.inover) r.balls<;>rfl
def LY (r:Rul) (s:Inn) (side:Int):Inn×Int:=cond (!(side==s.side)) (s,2) (cond (!(r.overs==0)) (s,20) ({ s with ending:=4 },0))
theorem ZX {N:Nat} {r8:Bool} {r0:ByteArray} {r13:Rows} {s18 s20:Bool} {e4 e12 e17:Bool} (h:Fit s14 s16 s17 s19 s24):ES N [.str r0,.int r1,.int r2,.int r3,.int r4,.int r5,.int r6,.int r7,.bool r8,.int r9,.int r10,.int r11,.int r12,.rows r13,.int s0,.int s1,.int s2,.int s3,.int s4,.int s5,.int s6,.int s7,.int s8,.int s9,.int s10,.int s11,.int s12,.int s13,.rows s14,.int s15,.rows s16,.rows s17,.bool s18,.rows s19,.bool s20,.int s21,.int s22,.int s23,.rows s24,.int s25,.int s26,.int s27,.int e0,.int e1,.int e2,.int e3,.bool e4,.int e5,.int e6,.int e7,.int e8,.int e9,.int e10,.int e11,.bool e12,.int e13,.int e14,.int e15,.int e16,.bool e17,.int e18]=some (BU (LY (⟨r0,r1,r2,r3,r4,r5,r6,r7,r8,r9,r10,r11,r12,r13⟩:Rul) (⟨s0,s1,s2,s3,s4,s5,s6,s7,s8,s9,s10,s11,s12,s13,s14,s15,s16,s17,s18,s19,s20,s21,s22,s23,s24,s25,s26,s27⟩:Inn) e1)):=by
 show Gc (std (IR N) N) (xOf _)=_;generalize hres:(some (BU (LY (⟨r0,r1,r2,r3,r4,r5,r6,r7,r8,r9,r10,r11,r12,r13⟩:Rul) (⟨s0,s1,s2,s3,s4,s5,s6,s7,s8,s9,s10,s11,s12,s13,s14,s15,s16,s17,s18,s19,s20,s21,s22,s23,s24,s25,s26,s27⟩:Inn) e1)):Option (List PV))=RR;simp only [Gc,MD,lq9,std,xOf,PXb,PXc,PXn,PXm,Nat.reduceAdd,Int.reduceBEq,CL h];subst hres;simp only [LY];cases e1==s0<;>cases r3==0<;>rfl
def PZ (s:Inn):Inn:={ s with runs:=IntKind.i64.wrap (s.runs+5),pens:=IntKind.i64.wrap (s.pens+5) }
theorem P4 {N:Nat} {s18 s20:Bool} (h:Fit s14 s16 s17 s19 s24):CC N [.int s0,.int s1,.int s2,.int s3,.int s4,.int s5,.int s6,.int s7,.int s8,.int s9,.int s10,.int s11,.int s12,.int s13,.rows s14,.int s15,.rows s16,.rows s17,.bool s18,.rows s19,.bool s20,.int s21,.int s22,.int s23,.rows s24,.int s25,.int s26,.int s27]=some (PZ (⟨s0,s1,s2,s3,s4,s5,s6,s7,s8,s9,s10,s11,s12,s13,s14,s15,s16,s17,s18,s19,s20,s21,s22,s23,s24,s25,s26,s27⟩:Inn)).ls:=by
 show Gb (std (IV N) N) (xOf _)=_;generalize hres:(some (PZ (⟨s0,s1,s2,s3,s4,s5,s6,s7,s8,s9,s10,s11,s12,s13,s14,s15,s16,s17,s18,s19,s20,s21,s22,s23,s24,s25,s26,s27⟩:Inn)).ls:Option (List PV))=RR;simp only [Gb,ME,lq9,std,xOf,PXb,PXc,PXn,PXm,Nat.reduceAdd,Int.reduceBEq,CL h];subst hres;simp only [PZ];rfl
def Ha (s:Inn) (side runs:Int):Inn×Int :=
 cond (!(runs==5)) (s,23) (cond (side==s.side) (PZ s,0) ({ s with target:=cond (iLt 0 s.target) (IntKind.i64.wrap (s.target+5)) s.target },0))
theorem Zi {N:Nat} {s18 s20:Bool} {e4 e12 e17:Bool} (h:Fit s14 s16 s17 s19 s24):EZ N [.int s0,.int s1,.int s2,.int s3,.int s4,.int s5,.int s6,.int s7,.int s8,.int s9,.int s10,.int s11,.int s12,.int s13,.rows s14,.int s15,.rows s16,.rows s17,.bool s18,.rows s19,.bool s20,.int s21,.int s22,.int s23,.rows s24,.int s25,.int s26,.int s27,.int e0,.int e1,.int e2,.int e3,.bool e4,.int e5,.int e6,.int e7,.int e8,.int e9,.int e10,.int e11,.bool e12,.int e13,.int e14,.int e15,.int e16,.bool e17,.int e18]=some (BU (Ha (⟨s0,s1,s2,s3,s4,s5,s6,s7,s8,s9,s10,s11,s12,s13,s14,s15,s16,s17,s18,s19,s20,s21,s22,s23,s24,s25,s26,s27⟩:Inn) e1 e5)):=by
 show Gf (std (FH N) N) (xOf _)=_;generalize hres:(some (BU (Ha (⟨s0,s1,s2,s3,s4,s5,s6,s7,s8,s9,s10,s11,s12,s13,s14,s15,s16,s17,s18,s19,s20,s21,s22,s23,s24,s25,s26,s27⟩:Inn) e1 e5)):Option (List PV))=RR;simp only [Gf,MF,Kg,lq9,std,xOf,PXb,PXc,PXn,PXm,Nat.reduceAdd,Int.reduceBEq,CL h,P4 h];subst hres;simp only [Ha];cases e5==5<;>cases e1==s0<;>cases iLt 0 s1<;>rfl
def Ly (r:Rul) (s:Inn) (side:Int) (yes:Bool):Inn×Int :=
 cond (!s.fresh||iLe r.reviews (cond (side==2) s.rev2 s.rev1)) (s,24) (cond (!yes) ({ s with rev1:=cond (side==1) (inc s.rev1) s.rev1,rev2:=cond (side==2) (inc s.rev2) s.rev2 },0) (s,0))
theorem wr1:IntKind.i64.wrap (1 - 1)=0:=rfl
theorem wr2:IntKind.i64.wrap (2 - 1)=1:=rfl
theorem kW:iIn 0 2=true:=rfl
theorem mC:iIn 1 2=true:=rfl
theorem bU {N:Nat} {r8:Bool} {r0:ByteArray} {r13:Rows} {s18 s20:Bool} {e4 e12 e17:Bool} (h:Fit s14 s16 s17 s19 s24) (he:e1=1∨e1=2):E2 N [.str r0,.int r1,.int r2,.int r3,.int r4,.int r5,.int r6,.int r7,.bool r8,.int r9,.int r10,.int r11,.int r12,.rows r13,.int s0,.int s1,.int s2,.int s3,.int s4,.int s5,.int s6,.int s7,.int s8,.int s9,.int s10,.int s11,.int s12,.int s13,.rows s14,.int s15,.rows s16,.rows s17,.bool s18,.rows s19,.bool s20,.int s21,.int s22,.int s23,.rows s24,.int s25,.int s26,.int s27,.int e0,.int e1,.int e2,.int e3,.bool e4,.int e5,.int e6,.int e7,.int e8,.int e9,.int e10,.int e11,.bool e12,.int e13,.int e14,.int e15,.int e16,.bool e17,.int e18]=some (BU (Ly (⟨r0,r1,r2,r3,r4,r5,r6,r7,r8,r9,r10,r11,r12,r13⟩:Rul) (⟨s0,s1,s2,s3,s4,s5,s6,s7,s8,s9,s10,s11,s12,s13,s14,s15,s16,s17,s18,s19,s20,s21,s22,s23,s24,s25,s26,s27⟩:Inn) e1 e4)):=by
 show Eu (std (JW N) N) (xOf _)=_;generalize hres:(some (BU (Ly (⟨r0,r1,r2,r3,r4,r5,r6,r7,r8,r9,r10,r11,r12,r13⟩:Rul) (⟨s0,s1,s2,s3,s4,s5,s6,s7,s8,s9,s10,s11,s12,s13,s14,s15,s16,s17,s18,s19,s20,s21,s22,s23,s24,s25,s26,s27⟩:Inn) e1 e4)):Option (List PV))=RR
 rcases he with he | he<;>subst he
 ·simp only [Eu,Fq,lq9,std,xOf,PXb,PXc,PXn,PXm,Nat.reduceAdd,Int.reduceBEq,CL h,wr1,wr2,kW,mC];subst hres;simp only [Ly,Int.reduceBEq,beq_self_eq_true,cond_true,cond_false];cases s18<;>cases e4<;>first | rfl | (cases iLe r11 s25<;>rfl)
 ·simp only [Eu,Fq,lq9,std,xOf,PXb,PXc,PXn,PXm,Nat.reduceAdd,Int.reduceBEq,CL h,wr1,wr2,kW,mC];subst hres;simp only [Ly,Int.reduceBEq,beq_self_eq_true,cond_true,cond_false];cases s18<;>cases e4<;>first | rfl | (cases iLe r11 s26<;>rfl)
theorem Sx {N:Nat} {r8:Bool} {r0:ByteArray} {r13:Rows} {s18 s20:Bool}  : Ch N [.str r0,.int r1,.int r2,.int r3,.int r4,.int r5,.int r6,.int r7,.bool r8,.int r9,.int r10,.int r11,.int r12,.rows r13,.int s0,.int s1,.int s2,.int s3,.int s4,.int s5,.int s6,.int s7,.int s8,.int s9,.int s10,.int s11,.int s12,.int s13,.rows s14,.int s15,.rows s16,.rows s17,.bool s18,.rows s19,.bool s20,.int s21,.int s22,.int s23,.rows s24,.int s25,.int s26,.int s27]=some [.int (Cp r4 s10 s11)]:=by
 rfl
def OK (r:Rul) (s:Inn) (runs overs:Int):Inn×Int :=
  cond (r.overs==0||(runs==0&&overs==0)) (s,25) (cond (iLt 0 runs&&(s.target==0||iLe runs s.runs)) (s,25)
    (cond (iLt 0 overs&&(iLt r.overs overs||iLt (IntKind.i64.wrap (overs * r.balls)) (Cp r.balls s.complete s.inover))) (s,25)
      ({ s with target:=cond (iLt 0 runs) runs s.target,overs:=cond (iLt 0 overs) overs s.overs },0)))
theorem aN {N:Nat} {r8:Bool} {r0:ByteArray} {r13:Rows} {s18 s20:Bool} {e4 e12 e17:Bool} (h:Fit s14 s16 s17 s19 s24):E0 N [.str r0,.int r1,.int r2,.int r3,.int r4,.int r5,.int r6,.int r7,.bool r8,.int r9,.int r10,.int r11,.int r12,.rows r13,.int s0,.int s1,.int s2,.int s3,.int s4,.int s5,.int s6,.int s7,.int s8,.int s9,.int s10,.int s11,.int s12,.int s13,.rows s14,.int s15,.rows s16,.rows s17,.bool s18,.rows s19,.bool s20,.int s21,.int s22,.int s23,.rows s24,.int s25,.int s26,.int s27,.int e0,.int e1,.int e2,.int e3,.bool e4,.int e5,.int e6,.int e7,.int e8,.int e9,.int e10,.int e11,.bool e12,.int e13,.int e14,.int e15,.int e16,.bool e17,.int e18]=some (BU (OK (⟨r0,r1,r2,r3,r4,r5,r6,r7,r8,r9,r10,r11,r12,r13⟩:Rul) (⟨s0,s1,s2,s3,s4,s5,s6,s7,s8,s9,s10,s11,s12,s13,s14,s15,s16,s17,s18,s19,s20,s21,s22,s23,s24,s25,s26,s27⟩:Inn) e5 e6)):=by
 show Hk (std (GD N) N) (xOf _)=_;generalize hres:(some (BU (OK (⟨r0,r1,r2,r3,r4,r5,r6,r7,r8,r9,r10,r11,r12,r13⟩:Rul) (⟨s0,s1,s2,s3,s4,s5,s6,s7,s8,s9,s10,s11,s12,s13,s14,s15,s16,s17,s18,s19,s20,s21,s22,s23,s24,s25,s26,s27⟩:Inn) e5 e6)):Option (List PV))=RR;simp only [Hk,MW,Mm,lq9,std,xOf,PXb,PXc,PXn,PXm,Nat.reduceAdd,Int.reduceBEq,CL h,Sx];subst hres;simp only [OK];cases (r3==0||e5==0&&e6==0)<;>try rfl
 cases (iLt 0 e5&&(s1==0||iLe e5 s3))<;>try rfl
 cases iLt 0 e6<;>cases iLt r3 e6<;>try rfl
 simp only [PXb,PXc,PXn,PXm,Nat.reduceAdd,Int.reduceBEq];cases iLt (IntKind.i64.wrap (e6 * r4)) (Cp r4 s10 s11)<;>rfl
def CP (r:Rul) (s:Inn) (e:Ev):Inn×Int :=
  cond (e.kind==2) (V3 s e.player e.other) (cond (e.kind==3) (Vc r s e.player) (cond (e.kind==4) (M2 r s e.ball)
    (cond (e.kind==5) (cond e.yes (HT s e.player) (PN s e.player)) (cond (e.kind==6) (J4 s e.player e.yes) (cond (e.kind==7) (Ll s e.runs)
      (cond (e.kind==8) (Nv s e.player) (cond (e.kind==9) (Rb s e.player e.yes) (cond (e.kind==10) (Le r s) (cond (e.kind==11) (LY r s e.side)
        (cond (e.kind==13) (Ha s e.side e.runs) (cond (e.kind==14) (Ly r s e.side e.yes) (OK r s e.runs e.overs))))))))))))
theorem gD {e:Ev} (h:(evS e==0)=true):(iLt e.kind 1||iLt 16 e.kind)=false:=by
 unfold evS at h;cases hk:(iLt e.kind 1||iLt 16 e.kind) with
 | false=>rfl
 | true=>rw [hk] at h;cases h
theorem vV {e:Ev} (h:(evS e==0)=true) (hk:e.kind=14):e.side=1∨e.side=2:=by
 have h0:=gD h;unfold evS at h;rw [h0] at h;cases h1:jx e with
 | true=>rw [h1] at h;cases h
 | false =>
  cases h2:bF e with
  | true=>rw [h1,h2] at h;cases h
  | false =>
   unfold bF at h2;rw [Bool.or_eq_false_iff] at h2;have h3:=h2.1;rw [hk,show uS 14=true from rfl,Bool.and_true] at h3;simp only [btw,iLe,Bool.not_eq_false',zzk,decide_eq_true_eq] at h3;omega
set_option maxHeartbeats 4000000 in
theorem ZP {N:Nat} {r8:Bool} {r0:ByteArray} {r13:Rows} {s18 s20:Bool} {e4 e12 e17:Bool} (h:Fit s14 s16 s17 s19 s24) (hw:s17.length+s16.length≤1000000) (hN:2097152<N) (hs:r0.size≤1048576) (h13:r13.length≤1048576) (he:(evS (⟨e0,e1,e2,e3,e4,e5,e6,⟨e7,e8,e9,e10,e11,e12,e13,e14,e15,e16,e17,e18⟩⟩:Ev)==0)=true):ER N [.str r0,.int r1,.int r2,.int r3,.int r4,.int r5,.int r6,.int r7,.bool r8,.int r9,.int r10,.int r11,.int r12,.rows r13,.int s0,.int s1,.int s2,.int s3,.int s4,.int s5,.int s6,.int s7,.int s8,.int s9,.int s10,.int s11,.int s12,.int s13,.rows s14,.int s15,.rows s16,.rows s17,.bool s18,.rows s19,.bool s20,.int s21,.int s22,.int s23,.rows s24,.int s25,.int s26,.int s27,.int e0,.int e1,.int e2,.int e3,.bool e4,.int e5,.int e6,.int e7,.int e8,.int e9,.int e10,.int e11,.bool e12,.int e13,.int e14,.int e15,.int e16,.bool e17,.int e18]=some (BU (CP (⟨r0,r1,r2,r3,r4,r5,r6,r7,r8,r9,r10,r11,r12,r13⟩:Rul) (⟨s0,s1,s2,s3,s4,s5,s6,s7,s8,s9,s10,s11,s12,s13,s14,s15,s16,s17,s18,s19,s20,s21,s22,s23,s24,s25,s26,s27⟩:Inn) (⟨e0,e1,e2,e3,e4,e5,e6,⟨e7,e8,e9,e10,e11,e12,e13,e14,e15,e16,e17,e18⟩⟩:Ev))):=by
  show EY (std (Af N) N) (xOf _)=_;generalize hres:(some (BU (CP (⟨r0,r1,r2,r3,r4,r5,r6,r7,r8,r9,r10,r11,r12,r13⟩:Rul) (⟨s0,s1,s2,s3,s4,s5,s6,s7,s8,s9,s10,s11,s12,s13,s14,s15,s16,s17,s18,s19,s20,s21,s22,s23,s24,s25,s26,s27⟩:Inn) (⟨e0,e1,e2,e3,e4,e5,e6,⟨e7,e8,e9,e10,e11,e12,e13,e14,e15,e16,e17,e18⟩⟩:Ev))):Option (List PV))=RR;have hsd:e0=14→e1=1∨e1=2:=vV (e:=(⟨e0,e1,e2,e3,e4,e5,e6,⟨e7,e8,e9,e10,e11,e12,e13,e14,e15,e16,e17,e18⟩⟩:Ev)) he
  rcases fe (gD he) with hk | hk | hk | hk | hk | hk | hk | hk | hk | hk | hk | hk | hk | hk | hk | hk<;>simp only at hk<;>subst hk<;>clear he
  all_goals (first
    | (have hsd := hsd rfl
       simp only [EY,GS,G9,Fk,Ey,Fy,FP,FT,Fr,EO,FQ,En,Em,E7,Ez,lq9,std,xOf,PXb,PXc,PXn,PXm,Nat.reduceAdd,Int.reduceBEq,bU h hsd];subst hres;rfl)
    | (simp only [EY, GS, G9, Fk, Ey, Fy, FP, FT, Fr, EO, FQ, En, Em, E7, Ez, lq9,std,xOf, PXb, PXc, PXn, PXm, Nat.reduceAdd, Int.reduceBEq, ic h hN, lu h hN hs, fH h hw hN hs h13, aR h hN, fj h hN, eY h hN, dJ h, fu h, YX h, dv h hN hs, ZX h, Zi h, aN h]
       subst hres
       first
       | rfl
       | (cases e4<;>rfl)))
theorem Lens.of {s t:Inn} (h1:t.batters.length=s.batters.length) (h2:t.bowled.length=s.bowled.length) (h3:t.subs.length=s.subs.length) (h4:t.bowlers=s.bowlers) (h5:t.before=s.before):Lens s t:=⟨h1,h2,h3,by rw [h4];omega,by rw [h5];omega⟩
theorem L_c {s:Inn} (b:Bool) (x y:Inn×Int) (hx:Lens s x.1) (hy:Lens s y.1):Lens s (cond b x y).1:=by cases b<;>assumption
theorem rh (s:Inn) (p q:Int):Lens s (V3 s p q).1:=by
 unfold V3;exact L_c _ _ _ (Lens.refl s) (L_c _ _ _ (Lens.refl s) (L_c _ _ _ (Lens.refl s) (Lens.of (by simp [LV]) rfl rfl rfl rfl)))
theorem qt (r:Rul) (s:Inn) (p:Int):Lens s (Vc r s p).1:=by
 unfold Vc;exact P_c (P:=fun x:Inn=>Lens s x) _ _ _ (Lens.of rfl rfl rfl rfl rfl) (Lens.refl s)
theorem rb (r:Rul) (s:Inn) (d:Del):Lens s (M2 r s d).1:=by
 unfold M2;refine L_c _ _ _ (Lens.refl s) ?_;have l1:=ki s d;have w1:=rG s d;have w2:=rC s d;simp only [lL];have l2:=hY r (Ah s d) (AE r d).counts;cases (Au r (Ah s d) (AE r d).counts).2
 ·exact ⟨l2.bt.trans l1.bt,l2.bd.trans l1.bd,l2.sb.trans l1.sb,by have:=l2.bw;rw [w1] at this;exact this,by have:=l2.bf;rw [w1,w2] at this;exact this⟩
 ·exact ⟨l2.bt.trans l1.bt,l2.bd.trans l1.bd,l2.sb.trans l1.sb,by have:=l2.bw;rw [w1] at this;exact this,by have:=l2.bf;rw [w1,w2] at this;exact this⟩
theorem mL (s:Inn) (p:Int):Lens s (HT s p).1:=by
 unfold HT;exact L_c _ _ _ (Lens.of (by simp [LV]) rfl rfl rfl rfl) (Lens.refl s)
theorem o9 (s:Inn) (p:Int):Lens s (PN s p).1:=by
 unfold PN;exact L_c _ _ _ (Lens.of (by simp [LV]) rfl rfl rfl rfl) (Lens.refl s)
theorem nG (s:Inn) (p:Int) (b:Bool):Lens s (J4 s p b).1:=by
 unfold J4;exact L_c _ _ _ (Lens.refl s) (L_c _ _ _ (Lens.refl s) (L_c _ _ _ (Lens.refl s) (L_c _ _ _ (Lens.refl s) (Lens.of (by simp [LV]) rfl rfl rfl rfl))))
theorem kl (s:Inn) (n:Int):Lens s (Ll s n).1:=by
 unfold Ll;exact L_c _ _ _ (Lens.refl s) (Lens.of rfl rfl rfl rfl rfl)
theorem nJ (s:Inn) (n:Int):Lens s (Nv s n).1:=by
 unfold Nv;exact L_c _ _ _ (Lens.refl s) (L_c _ _ _ (Lens.refl s) (L_c _ _ _ (Lens.refl s) (Lens.of rfl rfl rfl rfl rfl)))
theorem pM (s:Inn) (n:Int) (b:Bool):Lens s (Rb s n b).1:=by
 unfold Rb;exact L_c _ _ _ (Lens.refl s) (L_c _ _ _ (Lens.refl s) (Lens.of rfl rfl (by simp [sY]) rfl rfl))
theorem j4 (r:Rul) (s:Inn):Lens s (Le r s).1:=by
 unfold Le;exact L_c _ _ _ (Lens.refl s) (Lens.of rfl rfl rfl rfl rfl)
theorem jy (r:Rul) (s:Inn) (n:Int):Lens s (LY r s n).1:=by
 unfold LY;exact L_c _ _ _ (Lens.refl s) (L_c _ _ _ (Lens.refl s) (Lens.of rfl rfl rfl rfl rfl))
theorem mI (s:Inn) (n m:Int):Lens s (Ha s n m).1:=by
 unfold Ha;exact L_c _ _ _ (Lens.refl s) (L_c _ _ _ (Lens.of rfl rfl rfl rfl rfl) (Lens.of rfl rfl rfl rfl rfl))
theorem mo (r:Rul) (s:Inn) (n:Int) (b:Bool):Lens s (Ly r s n b).1:=by
 unfold Ly;exact L_c _ _ _ (Lens.refl s) (L_c _ _ _ (Lens.of rfl rfl rfl rfl rfl) (Lens.refl s))
theorem mz (r:Rul) (s:Inn) (n m:Int):Lens s (OK r s n m).1:=by
 unfold OK;exact L_c _ _ _ (Lens.refl s) (L_c _ _ _ (Lens.refl s) (L_c _ _ _ (Lens.refl s) (Lens.of rfl rfl rfl rfl rfl)))
theorem YE (r:Rul) (s:Inn) (e:Ev):Lens s (CP r s e).1:=by
  unfold CP;exact L_c _ _ _ (rh ..) (L_c _ _ _ (qt ..) (L_c _ _ _ (rb ..) (L_c _ _ _ (L_c _ _ _ (mL ..) (o9 ..)) (L_c _ _ _ (nG ..) (L_c _ _ _ (kl ..)
    (L_c _ _ _ (nJ ..) (L_c _ _ _ (pM ..) (L_c _ _ _ (j4 ..) (L_c _ _ _ (jy ..) (L_c _ _ _ (mI ..) (L_c _ _ _ (mo ..) (mz ..))))))))))))
def Gy (r:Rul) (s:Inn):Bool:=Ux r.name r.side r.innings r.overs r.balls r.quota r.wide r.noball r.newball r.followon r.reviews r.outside r.power s.batters s.bowlers s.before s.bowled s.subs s.side s.target s.overs s.runs s.wickets s.wides s.noballs s.byes s.legbyes s.pens s.complete s.inover s.striker s.other s.bowler s.ballage s.keeper s.outside s.rev1 s.rev2 s.ending
def xF (r:Rul) (s:Inn):Int:=tJ (Gy r s) s.batters s.striker s.other s.target s.overs s.runs s.complete
theorem Tf {N:Nat} {r8:Bool} {r0:ByteArray} {r13:Rows} {s18 s20:Bool} (h:Fit s14 s16 s17 s19 s24) (hN:2097152<N) (hs:r0.size≤1048576):BW N [.str r0,.int r1,.int r2,.int r3,.int r4,.int r5,.int r6,.int r7,.bool r8,.int r9,.int r10,.int r11,.int r12,.rows r13,.int s0,.int s1,.int s2,.int s3,.int s4,.int s5,.int s6,.int s7,.int s8,.int s9,.int s10,.int s11,.int s12,.int s13,.rows s14,.int s15,.rows s16,.rows s17,.bool s18,.rows s19,.bool s20,.int s21,.int s22,.int s23,.rows s24,.int s25,.int s26,.int s27]=some [.bool (Gy (⟨r0,r1,r2,r3,r4,r5,r6,r7,r8,r9,r10,r11,r12,r13⟩:Rul) (⟨s0,s1,s2,s3,s4,s5,s6,s7,s8,s9,s10,s11,s12,s13,s14,s15,s16,s17,s18,s19,s20,s21,s22,s23,s24,s25,s26,s27⟩:Inn))]:=by
 exact SX N _ _ _ _ _ _ _ _ _ _ _ _ _ _ _ _ _ _ _ _ _ _ _ _ _ _ _ _ _ _ _ _ _ _ _ _ _ _ _ _ _ _ hN hs h.bt h.bw h.bf h.bd
theorem aq {N:Nat} {r8:Bool} {r0:ByteArray} {r13:Rows} {s18 s20:Bool} (h:Fit s14 s16 s17 s19 s24) (hN:2097152<N) (hs:r0.size≤1048576):Dh N [.str r0,.int r1,.int r2,.int r3,.int r4,.int r5,.int r6,.int r7,.bool r8,.int r9,.int r10,.int r11,.int r12,.rows r13,.int s0,.int s1,.int s2,.int s3,.int s4,.int s5,.int s6,.int s7,.int s8,.int s9,.int s10,.int s11,.int s12,.int s13,.rows s14,.int s15,.rows s16,.rows s17,.bool s18,.rows s19,.bool s20,.int s21,.int s22,.int s23,.rows s24,.int s25,.int s26,.int s27]=some [.int (xF (⟨r0,r1,r2,r3,r4,r5,r6,r7,r8,r9,r10,r11,r12,r13⟩:Rul) (⟨s0,s1,s2,s3,s4,s5,s6,s7,s8,s9,s10,s11,s12,s13,s14,s15,s16,s17,s18,s19,s20,s21,s22,s23,s24,s25,s26,s27⟩:Inn))]:=by
 exact ZZ N _ _ _ _ _ _ _ _ _ _ _ _ _ _ _ _ _ _ _ _ _ _ _ _ _ _ _ _ _ _ _ _ _ _ _ _ _ _ _ _ _ _ hN hs h.bt h.bw h.bf h.bd
def kQ (t:Inn) (b:Bool):Inn:=⟨t.side,t.target,t.overs,t.runs,t.wickets,t.wides,t.noballs,t.byes,t.legbyes,t.pens,t.complete,t.inover,t.striker,t.other,t.batters,t.bowler,t.bowlers,t.before,b,t.bowled,t.freehit,t.ballage,t.keeper,t.outside,t.subs,t.rev1,t.rev2,t.ending⟩
def Bt (r:Rul) (t:Inn) (b:Bool):Inn:={ kQ t b with ending:=cond (t.ending==0) (xF r (kQ t b)) t.ending }
def ZA (s:Inn) (e:Ev):Bool:=e.kind==1||e.kind==12||e.kind==16||(!DF s.batters && !(e.kind==2))
def Ay (r:Rul) (s:Inn) (e:Ev):Inn×Int :=
  cond (!Gy r s || !(evS e==0)) (s,1) (cond (!(s.ending==0)) (s,26) (cond (ZA s e) (s,1)
    (cond (!((CP r s e).2==0)) (s,(CP r s e).2) (Bt r (CP r s e).1 (e.kind==4),0))))
set_option maxHeartbeats 4000000 in
theorem Nj {N:Nat} {r8:Bool} {r0:ByteArray} {r13:Rows} {s18 s20:Bool} {e4 e12 e17:Bool} (h:Fit s14 s16 s17 s19 s24) (hw:s17.length+s16.length≤1000000) (hN:2097152<N) (hs:r0.size≤1048576) (h13:r13.length≤1048576):Gg N [.str r0,.int r1,.int r2,.int r3,.int r4,.int r5,.int r6,.int r7,.bool r8,.int r9,.int r10,.int r11,.int r12,.rows r13,.int s0,.int s1,.int s2,.int s3,.int s4,.int s5,.int s6,.int s7,.int s8,.int s9,.int s10,.int s11,.int s12,.int s13,.rows s14,.int s15,.rows s16,.rows s17,.bool s18,.rows s19,.bool s20,.int s21,.int s22,.int s23,.rows s24,.int s25,.int s26,.int s27,.int e0,.int e1,.int e2,.int e3,.bool e4,.int e5,.int e6,.int e7,.int e8,.int e9,.int e10,.int e11,.bool e12,.int e13,.int e14,.int e15,.int e16,.bool e17,.int e18]=some (BU (Ay (⟨r0,r1,r2,r3,r4,r5,r6,r7,r8,r9,r10,r11,r12,r13⟩:Rul) (⟨s0,s1,s2,s3,s4,s5,s6,s7,s8,s9,s10,s11,s12,s13,s14,s15,s16,s17,s18,s19,s20,s21,s22,s23,s24,s25,s26,s27⟩:Inn) (⟨e0,e1,e2,e3,e4,e5,e6,⟨e7,e8,e9,e10,e11,e12,e13,e14,e15,e16,e17,e18⟩⟩:Ev))):=by
 show Js (std (CT N) N) (xOf _)=_;generalize hres:(some (BU (Ay (⟨r0,r1,r2,r3,r4,r5,r6,r7,r8,r9,r10,r11,r12,r13⟩:Rul) (⟨s0,s1,s2,s3,s4,s5,s6,s7,s8,s9,s10,s11,s12,s13,s14,s15,s16,s17,s18,s19,s20,s21,s22,s23,s24,s25,s26,s27⟩:Inn) (⟨e0,e1,e2,e3,e4,e5,e6,⟨e7,e8,e9,e10,e11,e12,e13,e14,e15,e16,e17,e18⟩⟩:Ev))):Option (List PV))=RR;have l1:=YE (⟨r0,r1,r2,r3,r4,r5,r6,r7,r8,r9,r10,r11,r12,r13⟩:Rul) (⟨s0,s1,s2,s3,s4,s5,s6,s7,s8,s9,s10,s11,s12,s13,s14,s15,s16,s17,s18,s19,s20,s21,s22,s23,s24,s25,s26,s27⟩:Inn) (⟨e0,e1,e2,e3,e4,e5,e6,⟨e7,e8,e9,e10,e11,e12,e13,e14,e15,e16,e17,e18⟩⟩:Ev);have f1:=Q8 l1 h (by simp only;omega);simp only [Js,OM,Pn,OG,OQ,Ft,GP,lq9,std,xOf,PXb,Tf h hN hs,Wn hN,CL h,ed h.bt hN];subst hres;simp only [Ay,ZA];cases Gy (⟨r0,r1,r2,r3,r4,r5,r6,r7,r8,r9,r10,r11,r12,r13⟩:Rul) (⟨s0,s1,s2,s3,s4,s5,s6,s7,s8,s9,s10,s11,s12,s13,s14,s15,s16,s17,s18,s19,s20,s21,s22,s23,s24,s25,s26,s27⟩:Inn)
 ·rfl
 cases he:evS (⟨e0,e1,e2,e3,e4,e5,e6,⟨e7,e8,e9,e10,e11,e12,e13,e14,e15,e16,e17,e18⟩⟩:Ev)==0
 ·simp only [PXb,PXc,PXn,PXm,Nat.reduceAdd,Int.reduceBEq,he]
 simp only [PXb,PXc,PXn,PXm,Nat.reduceAdd,Int.reduceBEq,he];cases s27==0<;>try rfl
 cases (e0==1||e0==12||e0==16)<;>cases DF s14<;>cases e0==2<;>try rfl
 all_goals (simp only [PXb,PXc,PXn,PXm,Nat.reduceAdd,Int.reduceBEq,Ft,GP,ZP h hw hN hs h13 he,aq f1 hN hs])
 all_goals (unfold Bt kQ;cases (CP (⟨r0,r1,r2,r3,r4,r5,r6,r7,r8,r9,r10,r11,r12,r13⟩:Rul) (⟨s0,s1,s2,s3,s4,s5,s6,s7,s8,s9,s10,s11,s12,s13,s14,s15,s16,s17,s18,s19,s20,s21,s22,s23,s24,s25,s26,s27⟩:Inn) (⟨e0,e1,e2,e3,e4,e5,e6,⟨e7,e8,e9,e10,e11,e12,e13,e14,e15,e16,e17,e18⟩⟩:Ev)).2==0<;>cases (CP (⟨r0,r1,r2,r3,r4,r5,r6,r7,r8,r9,r10,r11,r12,r13⟩:Rul) (⟨s0,s1,s2,s3,s4,s5,s6,s7,s8,s9,s10,s11,s12,s13,s14,s15,s16,s17,s18,s19,s20,s21,s22,s23,s24,s25,s26,s27⟩:Inn) (⟨e0,e1,e2,e3,e4,e5,e6,⟨e7,e8,e9,e10,e11,e12,e13,e14,e15,e16,e17,e18⟩⟩:Ev)).1.ending==0<;>rfl)
def VW (r:Rul):Rul:={ r with name:=sR r.name 20,power:=cut r.power 10 }
theorem lg (L:Rows) (c:Nat):(cut L c).length≤c:=by
 unfold cut;rw [List.length_drop,List.length_take];cases h:iLt (c:Int) (L.length:Int) with
 | true=>simp only [cond_true];omega
 | false=>simp only [iLt,decide_eq_false_iff_not] at h;simp only [cond_false];omega
theorem mH (r:Rul) (h:r.name.size≤1048576):(VW r).name.size≤1048576:=Nat.le_trans (sn _ _) h
theorem iY (r:Rul):(VW r).power.length≤1048576:=Nat.le_trans (lg _ 10) (by omega)
theorem nV {s t:Inn} (r:Rul) (b:Bool) (h:Lens s t):Lens s (Bt r t b):=⟨h.bt,h.bd,h.sb,h.bw,h.bf⟩
theorem TI (r:Rul) (s:Inn) (e:Ev):Lens s (Ay r s e).1:=by
 unfold Ay;exact L_c _ _ _ (Lens.refl s) (L_c _ _ _ (Lens.refl s) (L_c _ _ _ (Lens.refl s) (L_c _ _ _ (Lens.refl s) (nV r _ (YE r s e)))))
theorem gW {r : Rul} {s : Inn} {e : Ev} (h : ((Ay r s e).2 == 0) = true) :
    Gy r s=true∧(evS e==0)=true∧(s.ending==0)=true∧ZA s e=false∧((CP r s e).2==0)=true∧(Ay r s e).1=Bt r (CP r s e).1 (e.kind==4):=by
  unfold Ay at h ⊢;cases hv:Gy r s with
  | false=>rw [hv] at h;cases h
  | true =>
    cases he:evS e==0 with
    | false=>rw [hv,he] at h;cases h
    | true =>
      cases hn:s.ending==0 with
      | false=>rw [hv,he,hn] at h;cases h
      | true =>
        cases hw:ZA s e with
        | true=>rw [hv,he,hn,hw] at h;cases h
        | false =>
          cases hp:(CP r s e).2==0 with
          | false=>rw [hv,he,hn,hw,hp] at h;exact absurd (hp▸h) (by decide)
          | true=>exact ⟨rfl,rfl,rfl,rfl,rfl,rfl⟩
theorem U3 {x a b:Int}:btw x a b=true↔a≤x∧x≤b:=by simp [btw,iLe]
structure RulOk (r:Rul):Prop where
 side:2≤r.side∧r.side≤11
 innings:1≤r.innings∧r.innings≤2
 overs:0≤r.overs∧r.overs≤90
 balls:4≤r.balls∧r.balls≤8
 quota:0≤r.quota∧r.quota≤90
 wide:1≤r.wide∧r.wide≤5
 noball:1≤r.noball∧r.noball≤5
 newball:0≤r.newball∧r.newball≤200
 followon:0≤r.followon∧r.followon≤1000
 reviews:0≤r.reviews∧r.reviews≤9
 outside:0≤r.outside∧r.outside≤11
theorem Fa {r:Rul} (h:A5 r=0):RulOk r:=by
 unfold A5 L5 at h;cases hn:YJ r.name with
 | false=>rw [hn] at h;cases h
 | true =>
  cases hr:OJ r.side r.innings r.overs r.balls r.quota r.wide r.noball r.newball r.followon r.reviews r.outside with
  | false=>rw [hn,hr] at h;cases h
  | true =>
   unfold OJ at hr;simp only [zzk,U3] at hr;obtain ⟨⟨⟨⟨⟨⟨⟨⟨⟨⟨h1,h2⟩,h3⟩,h4⟩,h5⟩,h6⟩,h7⟩,h8⟩,h9⟩,h10⟩,h11⟩:=hr;exact ⟨h1,h2,h3,h4,h5,h6,h7,h8,h9,h10,h11⟩
def Bv (x:Int):Prop:=0≤x∧x≤1000000000
structure InnOk (r:Rul) (s:Inn):Prop where
 code:A5 r=0
 side:1≤s.side∧s.side≤2
 lb:(s.batters.length:Int)=r.side
 ld:(s.bowled.length:Int)=r.side
 lz:(s.subs.length:Int)=r.side
 ending:s.ending≤5
 st:0≤s.striker∧s.striker≤r.side
 ot:0≤s.other∧s.other≤r.side
 bat:ZC s.batters s.striker s.other s.wickets=true
 bow:0≤s.bowler∧s.bowler≤r.side
 kee:0≤s.keeper∧s.keeper≤r.side
 dw:Kq s.bowlers r.side=true
 df:Kq s.before r.side=true
 ov:f9 r.overs s.overs=true
 io:0≤s.inover∧s.inover≤r.balls - 1
 target:Bv s.target
 runs:Bv s.runs
 wides:Bv s.wides
 noballs:Bv s.noballs
 byes:Bv s.byes
 legbyes:Bv s.legbyes
 pens:Bv s.pens
 complete:Bv s.complete
 ballage:Bv s.ballage
 outside:Bv s.outside
 rev1:Bv s.rev1
 rev2:Bv s.rev2
 bowled:KN JQ s.bowled=false
theorem vb {x:Int}:JQ x=false↔Bv x:=by
 unfold JQ Bv;rw [Bool.not_eq_false',U3]
theorem uG (a b c d e f g h i j k l:Int):KN JQ (j9 a b c d e f g h i j k l)=false↔Bv a∧Bv b∧Bv c∧Bv d∧Bv e∧Bv f∧Bv g∧Bv h∧Bv i∧Bv j∧Bv k∧Bv l:=by
 rw [Nx];simp only [j9,List.any_cons,List.any_nil,Bool.or_false,iC,vG,Bool.or_eq_false_iff,vb]
theorem cm {r:Rul} (h:RulOk r):IntKind.i64.wrap (r.balls - 1)=r.balls - 1:=by
 have:=h.balls;exact DG (by omega) (by omega)
theorem oB {x:Int}:(!iLt 5 x)=true↔x≤5:=by
 rw [Bool.not_eq_true'];simp only [iLt,decide_eq_false_iff_not];omega
theorem PG {r:Rul} {s:Inn}:Gy r s=true↔InnOk r s:=by
 unfold Gy Ux;simp only [zzk,Bool.not_eq_true',uG,U3];constructor
 ·intro ⟨h1,h2,h3,h4,h5,h6,h7,h8,h9,h10,h11,h12,h13,h14,h15,⟨n1,n2,n3,n4,n5,n6,n7,n8,n9,n10,n11,n12⟩,h17⟩;have hc:A5 r=0:=beq_iff_eq.1 h1;exact ⟨hc,h2,beq_iff_eq.1 h3,beq_iff_eq.1 h4,beq_iff_eq.1 h5,oB.1 (by rw [h6];rfl),h7,h8,h9,h10,h11,h12,h13,h14,by rw [cm (Fa hc)] at h15;exact h15,n1,n2,n3,n4,n5,n6,n7,n8,n9,n10,n11,n12,h17⟩
 ·intro h;have h6:=oB.2 h.ending;rw [Bool.not_eq_true'] at h6;exact ⟨beq_iff_eq.2 h.code,h.side,beq_iff_eq.2 h.lb,beq_iff_eq.2 h.ld,beq_iff_eq.2 h.lz,h6,h.st,h.ot,h.bat,h.bow,h.kee,h.dw,h.df,h.ov,by rw [cm (Fa h.code)];exact h.io,
   ⟨h.target,h.runs,h.wides,h.noballs,h.byes,h.legbyes,h.pens,h.complete,h.ballage,h.outside,h.rev1,h.rev2⟩,h.bowled⟩
theorem OT (n:Int):IntKind.i64.wrap n=(n+9223372036854775808) % 18446744073709551616 - 9223372036854775808:=by
 unfold IntKind.wrap;simp only [IntKind.signed,IntKind.bits];simp
 split<;>omega
theorem HO (n:Int):IntKind.i64.wrap (IntKind.i64.wrap n)=IntKind.i64.wrap n:=by
 simp only [OT];omega
theorem L6 (a b:Int):IntKind.i64.wrap (IntKind.i64.wrap (a+b) - a)=IntKind.i64.wrap b:=by
 simp only [OT];omega
theorem W6 (a:Int):IntKind.i64.wrap (a - a)=0:=by rw [Int.sub_self];rfl
theorem bu (s:Inn) (d:Del):(Ah s d).runs=s.runs∧(Ah s d).wides=s.wides∧(Ah s d).noballs=s.noballs∧(Ah s d).byes=s.byes∧(Ah s d).legbyes=s.legbyes∧(Ah s d).pens=s.pens∧(Ah s d).complete=s.complete∧(Ah s d).inover=s.inover∧(Ah s d).bowler=s.bowler∧(Ah s d).bowled=s.bowled:=by
  unfold Ah;cases (!(d.runs.tmod 2==0) != d.crossed)<;>exact P_c (P:=fun x:Inn=>x.runs=s.runs∧x.wides=s.wides∧x.noballs=s.noballs∧x.byes=s.byes∧x.legbyes=s.legbyes∧x.pens=s.pens∧x.complete=s.complete∧x.inover=s.inover∧x.bowler=s.bowler∧x.bowled=s.bowled) _ _ _ ⟨rfl,rfl,rfl,rfl,rfl,rfl,rfl,rfl,rfl,rfl⟩
    (P_c (P:=fun x:Inn=>x.runs=s.runs∧x.wides=s.wides∧x.noballs=s.noballs∧x.byes=s.byes∧x.legbyes=s.legbyes∧x.pens=s.pens∧x.complete=s.complete∧x.inover=s.inover∧x.bowler=s.bowler∧x.bowled=s.bowled) _ _ _ ⟨rfl,rfl,rfl,rfl,rfl,rfl,rfl,rfl,rfl,rfl⟩ ⟨rfl,rfl,rfl,rfl,rfl,rfl,rfl,rfl,rfl,rfl⟩)
def IU (r:Rul) (s:Inn) (d:Del):Inn :=
 let o:=Au r (Ah s d) (AE r d).counts
 let t:Inn:=cond o.2 (IK o.1) o.1
 { t with runs:=IntKind.i64.wrap (s.runs+Db (AE r d)),wides:=IntKind.i64.wrap (s.wides+(AE r d).wides),noballs:=IntKind.i64.wrap (s.noballs+(AE r d).noballs),byes:=IntKind.i64.wrap (s.byes+(AE r d).byes),legbyes:=IntKind.i64.wrap (s.legbyes+(AE r d).legbyes),freehit:=cond (d.type==1) false (cond (d.type==3&&r.freehit) true o.1.freehit) }
theorem oA {r:Rul} {s:Inn} {d:Del} (h:((M2 r s d).2==0)=true):(IJ r s d==0)=true∧(M2 r s d).1=IU r s d:=by
 unfold M2 at h ⊢;cases hr:IJ r s d==0 with
 | false=>rw [hr] at h;exact absurd (hr▸h) (by decide)
 | true =>
  refine ⟨rfl,?_⟩;obtain ⟨k1,k2,k3,k4,k5,_⟩:=bu s d;simp only [Bool.not_true,cond_false,lL,k1,k2,k3,k4,k5,IU];generalize Au r (Ah s d) (AE r d).counts=o;obtain ⟨o1,o2⟩:=o;cases o2<;>rfl
theorem iR {r:Rul} {s:Inn} {d:Del} (h:(IJ r s d==0)=true):Gx s.batters s.striker s.other=false∧(s.bowler==0)=false∧(Ro r s==0)=true∧(GC d==0)=true∧(Qd d s.freehit==0)=true∧(SI s d==0)=true:=by
 unfold IJ at h;cases h1:Gx s.batters s.striker s.other with
 | true=>rw [h1] at h;cases h
 | false =>
  cases h2:s.bowler==0 with
  | true=>rw [h1,h2] at h;cases h
  | false =>
   rw [h1,h2] at h;change (dL _ _ _ _==0)=true at h;unfold dL at h;cases h3:Ro r s==0 with
   | false=>rw [h3] at h;exact absurd (h3▸h) (by decide)
   | true =>
    cases h4:GC d==0 with
    | false=>rw [h3,h4] at h;exact absurd (h4▸h) (by decide)
    | true =>
     cases h5:Qd d s.freehit==0 with
     | false=>rw [h3,h4,h5] at h;exact absurd (h5▸h) (by decide)
     | true =>
      cases h6:SI s d==0 with
      | false=>rw [h3,h4,h5,h6] at h;exact absurd (h6▸h) (by decide)
      | true=>exact ⟨rfl,rfl,rfl,rfl,rfl,rfl⟩
theorem Zw {d:Del} {f:Bool} (h:(Qd d f==0)=true) (hd:(d.how==0)=false):(d.victim==1)=true∨(d.victim==2)=true:=by
 unfold Qd at h;rw [hd] at h;cases h1:d.victim==1 with
 | true=>exact .inl rfl
 | false =>
  cases h2:d.victim==2 with
  | true=>exact .inr rfl
  | false =>
   rw [h1,h2] at h
   exfalso
   revert h
   cases (!onS d.how d.type||f && !jS d.how)<;>cases (!OI d.how&&(!(d.source==0) || !(d.runs==0)))<;>intro h<;>cases h
theorem lc {s:Inn} {e:Ev} (h:ZA s e=false) (hk:(e.kind==2)=false):DF s.batters=true:=by
 unfold ZA at h;rw [hk] at h;cases hb:DF s.batters with
 | true=>rfl
 | false=>rw [hb] at h;simp at h
theorem oN {s : Inn} {d : Del} (h1 : (s.striker == 0) = false) (h2 : (s.other == 0) = false) (hv : (d.how == 0) = false → (d.victim == 1) = true ∨ (d.victim == 2) = true) :
    (Ah s d).wickets=cond (d.how==0) s.wickets (inc s.wickets):=by
  unfold Ah;rw [h1,h2];cases hd:d.how==0 with
  | true=>cases (!(d.runs.tmod 2==0) != d.crossed)<;>rfl
  | false =>
    rcases hv hd with h | h<;>rw [h]<;>cases (!(d.runs.tmod 2==0) != d.crossed)<;>cases d.victim==1<;>rfl
theorem oH (r:Rul) (s:Inn) (b:Bool):(Au r s b).1.wickets=s.wickets∧(Au r s b).1.pens=s.pens:=by
 unfold Au;exact P_c (P:=fun x:Inn×Bool=>x.1.wickets=s.wickets∧x.1.pens=s.pens) _ _ _ ⟨rfl,rfl⟩ (P_c (P:=fun x:Inn×Bool=>x.1.wickets=s.wickets∧x.1.pens=s.pens) _ _ _ ⟨rfl,rfl⟩ ⟨rfl,rfl⟩)
theorem oa {r : Rul} {s : Inn} {b : Bool} (hr : RulOk r) (hc : A5 r = 0) (hb : inR s.bowler s.bowled.length = true) (hi : 0 ≤ s.inover ∧ s.inover ≤ r.balls - 1) (hn : Bv s.complete) :
    IntKind.i64.wrap (Cp r.balls (Au r s b).1.complete (Au r s b).1.inover - Cp r.balls s.complete s.inover)=cond b 1 0:=by
  have hk:∃ k:Nat,r.balls=k:=⟨r.balls.toNat,by have:=hr.balls;omega⟩;have hz:=hr.balls;unfold Bv at hn;unfold Au Cp;rw [hb,hc];cases b with
  | false =>
    have h1:iLt s.inover r.balls=true:=by simp only [iLt,decide_eq_true_eq];omega
    simp only [cond_false,h1,beq_self_eq_true,Bool.not_true,Bool.or_false,cond_true];exact W6 _
  | true =>
    have h2:inc s.inover=s.inover+1:=DG (by omega) (by omega);simp only [cond_true,h2,beq_self_eq_true,Bool.not_true,Bool.or_false,cond_false];have h3:inc s.complete=s.complete+1:=DG (by omega) (by omega);have hb5:r.balls=4∨r.balls=5∨r.balls=6∨r.balls=7∨r.balls=8:=by omega
    cases h1:iLt (s.inover+1) r.balls with
    | true =>
      simp only [cond_true]
      rcases hb5 with e | e | e | e | e<;>rw [e] at hi ⊢<;>simp only [OT]<;>omega
    | false =>
      simp only [iLt,decide_eq_false_iff_not] at h1;simp only [cond_false,h3]
      rcases hb5 with e | e | e | e | e<;>rw [e] at hi h1 ⊢<;>simp only [OT]<;>omega
end Go.Px
end
