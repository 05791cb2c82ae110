/- Part 12. -/
import Derived.Test.YteeikpbpdlgdfaaGreatDoorPart11
set_option linter.unusedVariables false
set_option linter.unusedSimpArgs false
variable {s0 s1 s2 s3 s4 s5 s6 s7 s8 s9 s10 s11 s12 s13 s15 s21 s22 s23 s25 s26 s27:Int}
variable {s14 s16 s17 s19 s24:Go.Px.Rows}
section
namespace Go.Px
set_option maxRecDepth 100000
def uB (k:Int):Bool:=k==4
theorem c4 {c x x' y y':Bool} {a b d z z':Int} (h1:x=x') (h2:y=y') (h3:z=z'):(some [PV.int (cond c a (cond x b (cond y d z)))]:Option (List PV))=some [PV.int (cond c a (cond x' b (cond y' d z')))]:=by subst h1;subst h2;subst h3;rfl
structure Lens (s t:Inn):Prop where
 bt:t.batters.length=s.batters.length
 bd:t.bowled.length=s.bowled.length
 sb:t.subs.length=s.subs.length
 bw:t.bowlers.length≤s.bowlers.length+1
 bf:t.before.length≤s.before.length+s.bowlers.length+1
theorem Lens.refl (s:Inn):Lens s s:=⟨rfl,rfl,rfl,by omega,by omega⟩
@[reducible] def fC (t:Inn) (a b e f g:Int):Inn:=⟨t.side,t.target,t.overs,a,t.wickets,b,e,f,g,t.pens,t.complete,t.inover,t.striker,t.other,t.batters,t.bowler,t.bowlers,t.before,t.fresh,t.bowled,t.freehit,t.ballage,t.keeper,t.outside,t.subs,t.rev1,t.rev2,t.ending⟩
theorem Lens.of {s t:Inn} (h1:t.batters.length=s.batters.length) (h2:t.bowled.length=s.bowled.length) (h3:t.subs.length=s.subs.length) (h4:t.bowlers=s.bowlers) (h5:t.before=s.before):Lens s t:=⟨h1,h2,h3,by rw [h4];omega,by rw [h5];omega⟩
def dU (r:Rul) (s:Inn):Bool:=d7 r.name r.side r.innings r.overs r.balls r.quota r.wide r.noball r.newball r.followon r.reviews r.outside r.power s.batters s.bowlers s.before s.bowled s.subs s.side s.target s.overs s.runs s.wickets s.wides s.noballs s.byes s.legbyes s.pens s.complete s.inover s.striker s.other s.bowler s.ballage s.keeper s.outside s.rev1 s.rev2 s.ending
def eqL (L M:Rows):Bool:=((L.length:Int)==(M.length:Int)) && !CH (fun i => !(atI L i 0==atI M i 0)) L.length 0
def eqB (L M:Rows):Bool:=((L.length:Int)==(M.length:Int)) && !CH (fun i => !(atB L i 0==atB M i 0)) L.length 0
def eqN (s t:Inn):Bool:=s.side==t.side&&s.target==t.target&&s.overs==t.overs&&s.runs==t.runs&&s.wickets==t.wickets&&(s.wides==t.wides&&(s.noballs==t.noballs&&(s.byes==t.byes&&(s.legbyes==t.legbyes&&s.pens==t.pens))))&&s.complete==t.complete&&s.inover==t.inover&&s.striker==t.striker&&s.other==t.other&&s.bowler==t.bowler&&s.fresh==t.fresh&&s.freehit==t.freehit&&s.ballage==t.ballage&&s.keeper==t.keeper&&s.outside==t.outside&&s.rev1==t.rev1&&s.rev2==t.rev2&&s.ending==t.ending
def LR (s t:Inn):Bool:=eqL s.batters t.batters&&(eqB s.subs t.subs&&(eqL s.bowlers t.bowlers&&(eqL s.before t.before&&(eqL s.bowled t.bowled&&eqN s t))))
theorem bS (L:Rows):eqL L L=true:=by
 unfold eqL;rw [beq_self_eq_true,M4.2 (fun j _ _=>by rw [beq_self_eq_true];rfl)];rfl
theorem aQ (L:Rows):eqB L L=true:=by
 unfold eqB;rw [beq_self_eq_true,M4.2 (fun j _ _=>by rw [beq_self_eq_true];rfl)];rfl
theorem Ve (s:Inn):LR s s=true:=by
 unfold LR eqN;simp only [bS,aQ,beq_self_eq_true,Bool.and_self]
theorem JU {i len:Nat} {m:Nat} (h:((len:Int)==(m:Int))=true) (hi:i<len):iIn (i:Int) (m:Int)=true:=by
 have:=beq_iff_eq.1 h;exact Bu (by omega)
theorem NR {N:Nat} {L:Rows} {M:Rows} (hN:2097152<N) (hl:L.length≤1048576):Ge N [.rows L,.rows M]=some [.bool (eqL L M)]:=by
 show JH (std (PK N) N) (xOf _)=_;simp only [JH,q9,std,xOf,PXb,PXc,PXn,A7];unfold eqL;cases hm:(L.length:Int)==(M.length:Int) with
 | false=>rfl
 | true =>
  simp only [PXb,PXc,PXn,A7];refine Br (Hg (len:=L.length) (fun i => !(atI L i 0==atI M i 0)) [.bool false] ?_ ?_ N (by omega)) ?_
  ·intro self;simp only [PXb,PXc,PXn,A7,Du]
  ·intro i self hi;simp only [PXb,PXc,PXn,A7,CF (show i≤1099511627776 by omega),DV hi,Bu hi,JU hm hi,QX]
  ·cases CH (fun i => !(atI L i 0==atI M i 0)) L.length 0<;>rfl
set_option maxHeartbeats 4000000 in
theorem YV {N:Nat} {s18 s20:Bool} {t0 t1 t2 t3 t4 t5 t6 t7 t8 t9 t10 t11 t12 t13 t15 t21 t22 t23 t25 t26 t27:Int} {t18 t20:Bool} {t14 t16 t17 t19 t24:Rows} (h:Fit s14 s16 s17 s19 s24) (hN:2097152<N):Gv N [.int s0,.int s1,.int s2,.int s3,.int s4,.int s5,.int s6,.int s7,.int s8,.int s9,.int s10,.int s11,.int s12,.int s13,.rows s14,.int s15,.rows s16,.rows s17,.bool s18,.rows s19,.bool s20,.int s21,.int s22,.int s23,.rows s24,.int s25,.int s26,.int s27,.int t0,.int t1,.int t2,.int t3,.int t4,.int t5,.int t6,.int t7,.int t8,.int t9,.int t10,.int t11,.int t12,.int t13,.rows t14,.int t15,.rows t16,.rows t17,.bool t18,.rows t19,.bool t20,.int t21,.int t22,.int t23,.rows t24,.int t25,.int t26,.int t27]=some [.bool (LR (⟨s0,s1,s2,s3,s4,s5,s6,s7,s8,s9,s10,s11,s12,s13,s14,s15,s16,s17,s18,s19,s20,s21,s22,s23,s24,s25,s26,s27⟩:Inn) (⟨t0,t1,t2,t3,t4,t5,t6,t7,t8,t9,t10,t11,t12,t13,t14,t15,t16,t17,t18,t19,t20,t21,t22,t23,t24,t25,t26,t27⟩:Inn))]:=by
 show JJ (std (Jz N) N) (xOf _)=_;generalize hres:(some [.bool (LR (⟨s0,s1,s2,s3,s4,s5,s6,s7,s8,s9,s10,s11,s12,s13,s14,s15,s16,s17,s18,s19,s20,s21,s22,s23,s24,s25,s26,s27⟩:Inn) (⟨t0,t1,t2,t3,t4,t5,t6,t7,t8,t9,t10,t11,t12,t13,t14,t15,t16,t17,t18,t19,t20,t21,t22,t23,t24,t25,t26,t27⟩:Inn))]:Option (List PV))=RR;simp only [JJ,Oc,q9,std,xOf,PXb,NR hN h.bw',NR hN h.bf,NR hN h.bd];subst hres;simp only [LR,eqN];rw [show eqL s14 t14=(((s14.length:Int)==(t14.length:Int)) && !CH (fun i => !(atI s14 i 0==atI t14 i 0)) s14.length 0) from rfl,
  show eqB s24 t24=(((s24.length:Int)==(t24.length:Int)) && !CH (fun i => !(atB s24 i 0==atB t24 i 0)) s24.length 0) from rfl]
 cases hm:(s14.length:Int)==(t14.length:Int) with
 | false=>rfl
 | true =>
  cases hk:(s24.length:Int)==(t24.length:Int) with
  | false=>simp only [PXb,PXc,PXn,PXm,Nat.reduceAdd,Int.reduceBEq]
  | true =>
   simp only [PXb,PXc,PXn,PXm,Nat.reduceAdd,Int.reduceBEq];cases eqL s16 t16<;>try (simp only [PXb,PXc,PXn,PXm,Nat.reduceAdd,Int.reduceBEq];done)
   cases eqL s17 t17<;>try (simp only [PXb,PXc,PXn,PXm,Nat.reduceAdd,Int.reduceBEq];done)
   cases eqL s19 t19<;>try (simp only [PXb,PXc,PXn,PXm,Nat.reduceAdd,Int.reduceBEq];done)
   simp only [PXb];refine Br (Hg (len:=s14.length) (fun i => !(atI s14 i 0==atI t14 i 0)) [.bool false] ?_ ?_ N (by have:=h.bt;omega)) ?_
   ·intro self;simp only [PXb,PXc,PXn,A7,Du]
   ·intro i self hi;have hb:=h.bt;simp only [PXb,PXc,PXn,A7,CF (show i≤1099511627776 by omega),DV hi,Bu hi,JU hm hi,QX]
   ·cases CH (fun i => !(atI s14 i 0==atI t14 i 0)) s14.length 0 with
    | true=>rfl
    | false =>
     simp only [PXb,PXc,PXn,PXm,Nat.reduceAdd,Int.reduceBEq];refine Br (Hg (len:=s24.length) (fun i => !(atB s24 i 0==atB t24 i 0)) [.bool false] ?_ ?_ N (by have:=h.sb;omega)) ?_
     ·intro self;simp only [PXb,PXc,PXn,A7,Du]
     ·intro i self hi;have hb:=h.sb;simp only [PXb,PXc,PXn,A7,CF (show i≤1099511627776 by omega),DV hi,Bu hi,JU hk hi,YS]
     ·cases CH (fun i => !(atB s24 i 0==atB t24 i 0)) s24.length 0 with
      | true=>rfl
      | false=>simp only [PXb,PXc,PXn,PXm,Nat.reduceAdd,Int.reduceBEq]
def Rm (r:Rul):Rul:={ r with name:=eh r.name 20,power:=cut r.power 10 }
def Jj (s:Inn):Inn:={ s with batters:=cut s.batters 13,bowlers:=cut s.bowlers 13,before:=cut s.before 13,bowled:=cut s.bowled 13,subs:=cut s.subs 13 }
theorem GB (L:Rows) (c:Nat):(cut L c).length≤c:=by
 unfold cut;rw [List.length_drop,List.length_take];cases h:iLt (c:Int) (L.length:Int) with
 | true=>simp only [cond_true];omega
 | false=>simp only [iLt,decide_eq_false_iff_not] at h;simp only [cond_false];omega
theorem cJ (s:Inn):(Jj s).Fit:=⟨Nat.le_trans (GB _ 13) (by omega),Nat.le_trans (GB _ 13) (by omega),Nat.le_trans (GB _ 13) (by omega),Nat.le_trans (GB _ 13) (by omega),Nat.le_trans (GB _ 13) (by omega)⟩
theorem V5 (r:Rul):(Rm r).power.length≤1048576:=Nat.le_trans (GB _ 10) (by omega)
structure RulOk (r:Rul):Prop where
 side:2≤r.side∧r.side≤11
 innings:1≤r.innings∧r.innings≤2
 overs:0≤r.overs∧r.overs≤90
 balls:4≤r.balls∧r.balls≤8
 quota:0≤r.quota∧r.quota≤90
 wide:1≤r.wide∧r.wide≤5
 noball:1≤r.noball∧r.noball≤5
 newball:0≤r.newball∧r.newball≤200
 followon:0≤r.followon∧r.followon≤1000
 reviews:0≤r.reviews∧r.reviews≤9
 outside:0≤r.outside∧r.outside≤11
def FV (x:Int):Prop:=0≤x∧x≤1000000000
structure InnOk (r:Rul) (s:Inn):Prop where
 code:cC r=0
 side:1≤s.side∧s.side≤2
 lb:(s.batters.length:Int)=r.side
 ld:(s.bowled.length:Int)=r.side
 lz:(s.subs.length:Int)=r.side
 ending:s.ending≤5
 st:0≤s.striker∧s.striker≤r.side
 ot:0≤s.other∧s.other≤r.side
 bat:b9 s.batters s.striker s.other s.wickets=true
 bow:0≤s.bowler∧s.bowler≤r.side
 kee:0≤s.keeper∧s.keeper≤r.side
 dw:Ty s.bowlers r.side=true
 df:Ty s.before r.side=true
 ov:YI r.overs s.overs=true
 io:0≤s.inover∧s.inover≤r.balls - 1
 target:FV s.target
 runs:FV s.runs
 wides:FV s.wides
 noballs:FV s.noballs
 byes:FV s.byes
 legbyes:FV s.legbyes
 pens:FV s.pens
 complete:FV s.complete
 ballage:FV s.ballage
 outside:FV s.outside
 rev1:FV s.rev1
 rev2:FV s.rev2
 bowled:bB XV s.bowled=false
theorem EW {N:Nat} {L:Rows} {M:Rows} (hN:2097152<N) (hl:L.length≤1048576):CO N [.rows L,.rows M]=some [.bool (eqL L M)]:=by
 show C5 (std (Gp N) N) (xOf _)=_;simp only [C5,q9,std,xOf,PXb,PXc,PXn,A7];unfold eqL;cases hm:(L.length:Int)==(M.length:Int) with
 | false=>rfl
 | true =>
  simp only [PXb,PXc,PXn,A7];refine Br (Hg (len:=L.length) (fun i => !(atI L i 0==atI M i 0)) [.bool false] ?_ ?_ N (by omega)) ?_
  ·intro self;simp only [PXb,PXc,PXn,A7,Du]
  ·intro i self hi;simp only [PXb,PXc,PXn,A7,CF (show i≤1099511627776 by omega),DV hi,Bu hi,JU hm hi,QX]
  ·cases CH (fun i => !(atI L i 0==atI M i 0)) L.length 0<;>rfl
theorem MI {N:Nat} {L:Rows} {M:Rows} (hN:2097152<N) (hl:L.length≤1048576):Bq N [.rows L,.rows M]=some [.bool (eqL L M)]:=by
 show CS (std (E0 N) N) (xOf _)=_;simp only [CS,q9,std,xOf,PXb,PXc,PXn,A7];unfold eqL;cases hm:(L.length:Int)==(M.length:Int) with
 | false=>rfl
 | true =>
  simp only [PXb,PXc,PXn,A7];refine Br (Hg (len:=L.length) (fun i => !(atI L i 0==atI M i 0)) [.bool false] ?_ ?_ N (by omega)) ?_
  ·intro self;simp only [PXb,PXc,PXn,A7,Du]
  ·intro i self hi;simp only [PXb,PXc,PXn,A7,CF (show i≤1099511627776 by omega),DV hi,Bu hi,JU hm hi,QX]
  ·cases CH (fun i => !(atI L i 0==atI M i 0)) L.length 0<;>rfl
theorem Oe {N:Nat} {L:Rows} {M:Rows} (hN:2097152<N) (hl:L.length≤1048576):CD N [.rows L,.rows M]=some [.bool (eqB L M)]:=by
 show Cx (std (Fv N) N) (xOf _)=_;simp only [Cx,q9,std,xOf,PXb,PXc,PXn,A7];unfold eqB;cases hm:(L.length:Int)==(M.length:Int) with
 | false=>rfl
 | true =>
  simp only [PXb,PXc,PXn,A7];refine Br (Hg (len:=L.length) (fun i => !(atB L i 0==atB M i 0)) [.bool false] ?_ ?_ N (by omega)) ?_
  ·intro self;simp only [PXb,PXc,PXn,A7,Du]
  ·intro i self hi;simp only [PXb,PXc,PXn,A7,CF (show i≤1099511627776 by omega),DV hi,Bu hi,JU hm hi,YS]
  ·cases CH (fun i => !(atB L i 0==atB M i 0)) L.length 0<;>rfl
theorem Rq {N:Nat} {s18 s20:Bool}  : Cu N [.int s0,.int s1,.int s2,.int s3,.int s4,.int s5,.int s6,.int s7,.int s8,.int s9,.int s10,.int s11,.int s12,.int s13,.rows s14,.int s15,.rows s16,.rows s17,.bool s18,.rows s19,.bool s20,.int s21,.int s22,.int s23,.rows s24,.int s25,.int s26,.int s27]=some [.int s0,.int s1,.int s2,.int s3,.int s4,.int s10,.int s11,.int s12,.int s13,.int s15,.int s21,.int s22,.int s23,.int s25,.int s26]:=by
 show Df (std (H8 N) N) (xOf _)=_;simp only [Df,q9,std,xOf,PXb,PXc,PXn,PXm,Nat.reduceAdd,Int.reduceBEq]
theorem Uo {N:Nat} {s18 s20:Bool} {t0 t1 t2 t3 t4 t5 t6 t7 t8 t9 t10 t11 t12 t13 t15 t21 t22 t23 t25 t26 t27:Int} {t18 t20:Bool} {t14 t16 t17 t19 t24:Rows} (h:Fit s14 s16 s17 s19 s24) (hN:2097152<N):Em N [.int s0,.int s1,.int s2,.int s3,.int s4,.int s5,.int s6,.int s7,.int s8,.int s9,.int s10,.int s11,.int s12,.int s13,.rows s14,.int s15,.rows s16,.rows s17,.bool s18,.rows s19,.bool s20,.int s21,.int s22,.int s23,.rows s24,.int s25,.int s26,.int s27,.int t0,.int t1,.int t2,.int t3,.int t4,.int t5,.int t6,.int t7,.int t8,.int t9,.int t10,.int t11,.int t12,.int t13,.rows t14,.int t15,.rows t16,.rows t17,.bool t18,.rows t19,.bool t20,.int t21,.int t22,.int t23,.rows t24,.int t25,.int t26,.int t27]=some [.bool (LR (⟨s0,s1,s2,s3,s4,s5,s6,s7,s8,s9,s10,s11,s12,s13,s14,s15,s16,s17,s18,s19,s20,s21,s22,s23,s24,s25,s26,s27⟩:Inn) (⟨t0,t1,t2,t3,t4,t5,t6,t7,t8,t9,t10,t11,t12,t13,t14,t15,t16,t17,t18,t19,t20,t21,t22,t23,t24,t25,t26,t27⟩:Inn))]:=by
 show Eh (std (CE N) N) (xOf _)=_;generalize hres:(some [.bool (LR (⟨s0,s1,s2,s3,s4,s5,s6,s7,s8,s9,s10,s11,s12,s13,s14,s15,s16,s17,s18,s19,s20,s21,s22,s23,s24,s25,s26,s27⟩:Inn) (⟨t0,t1,t2,t3,t4,t5,t6,t7,t8,t9,t10,t11,t12,t13,t14,t15,t16,t17,t18,t19,t20,t21,t22,t23,t24,t25,t26,t27⟩:Inn))]:Option (List PV))=RR;simp only [Eh,E2,F9,Fg,Gx,q9,std,xOf,PXb,PXc,PXn,PXm,Nat.reduceAdd,Int.reduceBEq,MI hN h.bt,EW hN h.bw',EW hN h.bf,EW hN h.bd,Oe hN h.sb,Rq];subst hres;simp only [LR,eqN];refine congrArg (fun z=>some [PV.bool z]) ?_;simp only [Bool.and_assoc,Bool.and_comm,Bool.and_left_comm]
structure BatOk (L:Rows) (s n wk:Int):Prop where
 le:∀ i,i<L.length→atI L i 0≤3
 at1:∀ i,i<L.length→(atI L i 0=1↔(s=(i:Int)+1∨n=(i:Int)+1))
 here:Z8 L=true→s≠0∨n≠0
 ne:s≠0→s≠n
 wk:wk=d0 L
end Go.Px
end
