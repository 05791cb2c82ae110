/- Part 15. -/
import Derived.Test.YtejjoflbpnjohaaGreatDoorPart14
import Derived.Test.YtejjoflbpnjohaaGreatDoorPart07
import Derived.Shelf.Strconv.Itoa3
import Derived.Shelf.LaysM
import Derived.Shelf.Strconv.Itoa4
import Derived.Test.YtejjoflbpnjohaaGreatDoorProg
import Derived.Test.YtejjoflbpnjohaaGreatDoorPart04
import Derived.Lib.Builder
import Derived.Lib.AppendStr
import Derived.WalkKit
import Derived.Shelf.RegionOpenPlain
import Derived.Lib.Walk
import Derived.Lib.UnsafeStr
import Derived.Laws.Externs
import Derived.KernelRfl
set_option linter.unusedVariables false
set_option linter.unusedSimpArgs false
section
namespace Go.Px
set_option maxRecDepth 100000
theorem mZ {r:Rul} {L:Rows} {k:Nat} (hc:Dg r L=0) (hk:k<opn L L.length):∀ n,n≤(D9 L k).length→∀ p,p∈BX (D9 L k) n→1≤p∧p≤r.side
 | 0,_,p,hp=>absurd hp List.not_mem_nil
 | n+1,hn,p,hp=>by
  have l4:=(JF hc).2.2.1;have ih:=mZ hc hk n (by omega);have sl:=gk (L:=L) (by omega) hk;have sg:=seg (L:=L) (by omega) hk;have ei:evR (D9 L k) n=evR L (CH L k+n):=oy L n (by omega);have hi:=sQ hc (a:=CH L k+n) (by have:=sg.le;omega);unfold BX at hp;rw [ei] at hp;cases h2:(evR L (CH L k+n)).kind==2 with
  | true =>
   rw [h2,cond_true] at hp;have o:=hi.op (beq_iff_eq.1 h2)
   rcases J5.1 hp with hp | rfl
   ·rcases J5.1 hp with hp | rfl
    ·exact ih p hp
    ·exact o.1
   ·exact o.2
  | false =>
   rw [h2,cond_false] at hp;cases h5:(evR L (CH L k+n)).kind==5 with
   | true =>
    rw [h5,cond_true] at hp
    rcases J5.1 hp with hp | rfl
    ·exact ih p hp
    ·exact hi.en (beq_iff_eq.1 h5)
   | false =>
    rw [h5,cond_false] at hp;exact ih p hp
theorem tY {r:Rul} {L:Rows} {k:Nat} (hc:Dg r L=0) (hk:k<opn L L.length) (h0:0≤r.side) {p:Int}:p∈Nl (BX (D9 L k) (D9 L k).length) r.side.toNat↔1≤p∧p≤r.side:=by
 rw [Zl];constructor
 ·rintro (h | h)
  ·exact mZ hc hk _ (Nat.le_refl _) p h
  ·omega
 ·intro h;exact .inr (by omega)
theorem cd {o : List Int} {p : Int} (hn : o.Nodup) (h : p ∈ o) :
    (∀ (F:Int→Ln) (a:Int),(AL o F).set (Ae p o) (BE (Aa (AL o F) (Ae p o)) 1 [.int a])=AL o (BW F p { F p with runs:=a })) ∧
    (∀ (F:Int→Ln) (a:Int),(AL o F).set (Ae p o) (BE (Aa (AL o F) (Ae p o)) 2 [.int a])=AL o (BW F p { F p with balls:=a })) ∧
    (∀ (F:Int→Ln) (a:Int),(AL o F).set (Ae p o) (BE (Aa (AL o F) (Ae p o)) 3 [.int a])=AL o (BW F p { F p with fours:=a })) ∧
    (∀ (F:Int→Ln) (a:Int),(AL o F).set (Ae p o) (BE (Aa (AL o F) (Ae p o)) 4 [.int a])=AL o (BW F p { F p with sixes:=a })) ∧
    (∀ (F:Int→Ln) (a:Bool),(AL o F).set (Ae p o) (BE (Aa (AL o F) (Ae p o)) 5 [.bool a])=AL o (BW F p { F p with out:=a })) ∧
    (∀ (F:Int→Ln) (a:Int),(AL o F).set (Ae p o) (BE (Aa (AL o F) (Ae p o)) 6 [.int a])=AL o (BW F p { F p with how:=a })) ∧
    (∀ (F:Int→Ln) (a:Int),(AL o F).set (Ae p o) (BE (Aa (AL o F) (Ae p o)) 7 [.int a])=AL o (BW F p { F p with bowler:=a })) ∧
    (∀ (F:Int→Ln) (a:Int),(AL o F).set (Ae p o) (BE (Aa (AL o F) (Ae p o)) 8 [.int a])=AL o (BW F p { F p with fielder:=a })) ∧
    (∀ (F:Int→Ln),pvI (AB (AL o F) (Ae p o) 1)=(F p).runs)∧(∀ (F:Int→Ln),pvI (AB (AL o F) (Ae p o) 2)=(F p).balls) ∧
    (∀ (F:Int→Ln),pvI (AB (AL o F) (Ae p o) 3)=(F p).fours)∧(∀ (F:Int→Ln),pvI (AB (AL o F) (Ae p o) 4)=(F p).sixes):=by
  refine ⟨fun F a=>FB hn h rfl,fun F a=>FB hn h rfl,fun F a=>FB hn h rfl,fun F a=>FB hn h rfl,fun F a=>FB hn h rfl,fun F a=>FB hn h rfl,fun F a=>FB hn h rfl,fun F a=>FB hn h rfl,fun F=>?_,fun F=>?_,fun F=>?_,fun F=>?_⟩ <;>
  · unfold AB;rw [eR h];rfl
set_option maxHeartbeats 8000000 in
theorem eX {N:Nat} {r1 r2 r3 r4 r5 r6 r7 r9 r10 r11 r12:Int} {r8:Bool} {r0:ByteArray} {r13:Rows} {L:Rows} {k:Int} (hN:2097152<N) (hs:r0.size≤1048576) (h13:r13.length≤1048576) (hL:L.length≤1000000):DT N [.str r0,.int r1,.int r2,.int r3,.int r4,.int r5,.int r6,.int r7,.bool r8,.int r9,.int r10,.int r11,.int r12,.rows r13,.rows L,.int k]=some [.rows (Sb (⟨r0,r1,r2,r3,r4,r5,r6,r7,r8,r9,r10,r11,r12,r13⟩:Rul) L k).1,.int (Sb (⟨r0,r1,r2,r3,r4,r5,r6,r7,r8,r9,r10,r11,r12,r13⟩:Rul) L k).2]:=by
 show G7 (std (BQ N) N) (xOf _)=_;generalize hres:(some [.rows (Sb (⟨r0,r1,r2,r3,r4,r5,r6,r7,r8,r9,r10,r11,r12,r13⟩:Rul) L k).1,.int (Sb (⟨r0,r1,r2,r3,r4,r5,r6,r7,r8,r9,r10,r11,r12,r13⟩:Rul) L k).2]:Option (List PV))=RR;have hl:L.length≤1048576:=by omega
 simp only [G7,PL,Rg,OJ,H7,SG,MG,lq9,std,xOf,PXb,lN hN hs h13 hl,dU hN hl,cn hN hs h13 hl,ji,PXc];subst hres;simp only [Sb,gr];cases hc:Dg (⟨r0,r1,r2,r3,r4,r5,r6,r7,r8,r9,r10,r11,r12,r13⟩:Rul) L==0 with
 | false=>simp only [PXb,Bool.not_false,hc]
 | true =>
  have pl:=mg (⟨r0,r1,r2,r3,r4,r5,r6,r7,r8,r9,r10,r11,r12,r13⟩:Rul) L;have c0:=beq_iff_eq.1 hc;simp only [PXb,Bool.not_true,PXp,X0];cases hb:iLt k 0||iLe (opn L L.length:Int) k with
  | true=>rfl
  | false =>
   simp only [Bool.or_eq_false_iff,iLt,iLe,decide_eq_false_iff_not] at hb;obtain ⟨K,rfl⟩:∃ K:Nat,k=(K:Int):=⟨k.toNat,by omega⟩;have hk:K<opn L L.length:=by omega
   have l4:=(JF c0).2.2.1;have sg:=seg hl hk;have sgl:=sg.lt;have sge:=sg.le;have sl:=gk hl hk;have rk:=El (JF c0).2.1;have rs:2≤r1∧r1≤11:=rk.side;have rg:iRg (CH L K:Int) (CH L (K+1):Int) (L.length:Int)=true:=by simp only [iRg,decide_eq_true_eq];omega
   have om:=fun p=>tY (p:=p) c0 hk (show 0≤r1 by omega)
   have pin:=fun j (hj:j<(Cu (⟨r0,r1,r2,r3,r4,r5,r6,r7,r8,r9,r10,r11,r12,r13⟩:Rul) L).length)=>oZ c0 hj
   have ein:=fun j (hj:j<(D9 L K).length)=>sQ c0 (a:=CH L K+j) (by omega)
   have esub:=fun j (hj:j<(D9 L K).length)=>oy L (a:=CH L K) (b:=CH L (K+1)) j (by omega)
   change ∀ j,j<(D9 L K).length→evR (D9 L K) j=_ at esub;have on:=U7 (Qj (D9 L K) (D9 L K).length) r1.toNat;have ol:=ZU (BX (D9 L K) (D9 L K).length) r1.toNat;have oe:=VR (D9 L K) (D9 L K).length;simp only [PXb,AN hk,sg.x0,sg.x1,rg,Int.toNat_natCast,beq_self_eq_true];have ex:List.drop (CH L K) (List.take (CH L (K+1)) L)=D9 L K:=rfl;rw [ex];have einE:=fun j (hj:j<(D9 L K).length)=>(esub j hj)▸(ein j hj)
   clear ein esub ex rg sg;generalize hE:D9 L K=E at *
   generalize Cu (⟨r0,r1,r2,r3,r4,r5,r6,r7,r8,r9,r10,r11,r12,r13⟩:Rul) L=D at *
   have e1:E.length≤4000:=by omega
   have e2:=dJ (r0:=r0) (r1:=r1) (r2:=r2) (r3:=r3) (r4:=r4) (r5:=r5) (r6:=r6) (r7:=r7) (r8:=r8) (r9:=r9) (r10:=r10) (r11:=r11) (r12:=r12) (r13:=r13) hN e1 (by omega) (by omega);refine Gi e2 ?_;simp only [PXb,eU];generalize hO:Nl (BX E E.length) r1.toNat=o at *
   refine AU (ED (len:=D.length) (fun i=>[.int (i:Int),.rows (AL o (dLn K D (GK fun p=>CN E p E.length) i))]) [.rows (AL o (dLn K D (GK fun p=>CN E p E.length) D.length))] ?_ ?_ N (by omega)) ?_
   ·intro self;simp only [PXb,PXc,PXn,AG,A2]
   ·intro i self hi;have wi:IntKind.i64.wrap ((i:Int)+1)=((i+1:Nat):Int):=Cv (show i≤1099511627776 by omega);obtain ⟨rf,vf⟩:=pin i hi;have st:=rf.striker;have so:pvI (AB D i 5)∈o:=(om _).2 st;have ix:=Ch (o:=o) (F:=dLn K D (GK fun p=>CN E p E.length) i) (p:=pvI (AB D i 5)) (by omega) hN;rw [J9.2 so,cond_true] at ix;generalize hF:dLn (K:Int) D (GK fun p=>CN E p E.length)=G at *
    have nx:G (i+1)=fun p=>cond (pvI (AB D i 1)==(K:Int)) (jt (Aa D i) p (G i p)) (G i p):=by rw [← hF];rfl
    simp only [PXb,Av hi,AN hi,wi];cases hk1:pvI (AB D i 1)==(K:Int) with
    | false =>
     have:G (i+1)=G i:=by rw [nx,hk1];rfl
     rw [this];rfl
    | true =>
     rw [Bool.not_true,cond_false];refine Gi ix ?_;simp only [PXb,Bu,AN (FV so).1,Int.toNat_natCast];have cs:=cd on so;generalize hp:pvI (AB D i 5)=p at *
     generalize hx:Aa D i=x at *
     have xx:∀ c,AB D i c=AA x c:=fun c=>by unfold AB;rw [hx]
     simp only [xx] at hp ⊢;have b46:(pvI (AA x 12)==4)=true→(pvI (AA x 12)==6)=false:=fun h=>by rw [beq_iff_eq.1 h];rfl
     refine Gi (v:=[.rows (AL o (BW (G i) p { G i p with runs:=IntKind.i64.wrap ((G i p).runs+pvI (AA x 20)),balls:=cond (pvB (AA x 27)) (IntKind.i64.wrap ((G i p).balls+1)) (G i p).balls }))]) ?_ ?_
     ·cases pvB (AA x 27)<;>simp only [cond_true,cond_false,cs,HL,OO]
     simp only [PXb];refine Gi (v:=[.rows (AL o (BW (G i) p (RA x (G i p))))]) ?_ ?_
     ·unfold RA qY;cases pvI (AA x 9)==1<;>cases pvI (AA x 10)==0<;>cases h4:pvI (AA x 12)==4<;>cases h6:pvI (AA x 12)==6 <;>
       simp only [Bool.and_true,Bool.and_false,Bool.true_and,Bool.false_and,cond_true,cond_false,cs,HL,OO]
      rw [b46 h4] at h6;cases h6
     simp only [PXb];have vr:EB x=cond (pvI (AA x 14)==0) 0 (cond (pvI (AA x 15)==1) p (cond (pvI (AA x 15)==2) (pvI (AA x 6)) 0)):=by unfold EB;rw [hp]
     refine Gi (v:=[.int (EB x)]) (by rw [vr];exact W9) ?_;simp only [PXb];have fin:∀ F:Int→Ln,(∀ q,1≤q→F q=jt x q (G i q))→AL o F=AL o (G (i+1)):=fun F hF=>oG fun q hq=>by
      rw [nx,hF q ((om q).1 hq).1,hk1];exact rfl
     have two:∀ q,BW (G i) p (RA x (G i p)) q=cond (pvI (AA x 5)==q) (RA x (G i q)) (G i q):=fun q=>by
      unfold BW;rw [hp];cases hq:q==p with
      | true=>rw [beq_iff_eq.1 hq,beq_self_eq_true]
      | false=>rw [show (p==q)=false from beq_eq_false_iff_ne.2 (fun e=>by rw [e,beq_self_eq_true] at hq;cases hq)];rfl
     rcases vf with v0 | v1
     ·have e:iLt 0 (EB x)=false:=by rw [v0];rfl
      rw [e,cond_false,fin _ fun q hq=>by
       rw [two];unfold jt;rw [v0,show ((0:Int)==q)=false from beq_eq_false_iff_ne.2 (by omega),cond_false]]
     ·have e:iLt 0 (EB x)=true:=by simp only [iLt,decide_eq_true_eq];omega
      have vo:EB x∈o:=(om _).2 v1;have cv:=cd on vo;have iv:=Ch (o:=o) (F:=BW (G i) p (RA x (G i p))) (p:=EB x) (by omega) hN;rw [J9.2 vo,cond_true] at iv;rw [e,cond_true];refine Gi iv ?_;simp only [PXb,Bu,AN (FV vo).1,Int.toNat_natCast,cv,HL,OO];have last:∀ (b:Bool) (bw:Int),b=pvB (AA x 28)→bw=cond b (pvI (AA x 4)) (BW (G i) p (RA x (G i p)) (EB x)).bowler→AL o (BW (BW (G i) p (RA x (G i p))) (EB x) { BW (G i) p (RA x (G i p)) (EB x) with out:=true,how:=pvI (AA x 14),fielder:=pvI (AA x 16),bowler:=bw })=AL o (G (i+1)):=fun b bw hb hw=>fin _ fun q hq=>by
       subst hb;subst hw;show BW _ (EB x) (uc x (BW (G i) p (RA x (G i p)) (EB x))) q=_;unfold jt;rw [← two q];unfold BW;cases hq2:q==EB x with
       | true=>rw [beq_iff_eq.1 hq2,beq_self_eq_true]
       | false=>rw [show (EB x==q)=false from beq_eq_false_iff_ne.2 (fun e=>by rw [e,beq_self_eq_true] at hq2;cases hq2)];rfl
      cases hw:pvB (AA x 28) with
      | true =>
       rw [cond_true];exact congrArg (fun R=>self [Leaf.int ((i+1:Nat):Int),Leaf.rows R]) (last true _ hw.symm rfl)
      | false =>
       rw [cond_false];exact congrArg (fun R=>self [Leaf.int ((i+1:Nat):Int),Leaf.rows R]) (last false _ hw.symm rfl)
   ·simp only [PXb];generalize dLn (K:Int) D (GK fun p=>CN E p E.length) D.length=F0 at *
    refine AU (ED (len:=E.length) (fun i=>[.int (i:Int),.rows (AL o (eLn E F0 i))]) [.rows (AL o (eLn E F0 E.length))] ?_ ?_ N (by omega)) rfl
    ·intro self;simp only [PXb,A2]
    ·intro i self hi;have wi:IntKind.i64.wrap ((i:Int)+1)=((i+1:Nat):Int):=Cv (show i≤1099511627776 by omega);have ei:=einE i hi;have kk:(evR E i).kind=pvI (AB E i 0):=rfl;have kp:(evR E i).player=pvI (AB E i 2):=rfl;have ky:(evR E i).yes=pvB (AB E i 4):=rfl;have nx:eLn E F0 (i+1)=fun p=>evL (evR E i) p (eLn E F0 i p):=rfl
     generalize eLn E F0 i=G at *
     simp only [PXb,Av hi,AN hi,wi,← kk,← kp,← ky];rw [nx];have fin:∀ (h:Int),(∀ q,evL (evR E i) q (G q)=cond ((evR E i).player==q) { G q with out:=true,how:=h } (G q))→AL o (BW G (evR E i).player { G (evR E i).player with out:=true,how:=h })=AL o fun p=>evL (evR E i) p (G p):=fun h hq=>by
      congr 1
      funext q
      rw [hq];unfold BW;cases hq2:q==(evR E i).player with
      | true=>rw [beq_iff_eq.1 hq2,beq_self_eq_true]
      | false=>rw [show ((evR E i).player==q)=false from beq_eq_false_iff_ne.2 (fun e=>by rw [e,beq_self_eq_true] at hq2;cases hq2)];rfl
     cases h5:(evR E i).kind==5&&(evR E i).yes with
     | true =>
      simp only [zzj] at h5;have po:(evR E i).player∈o:=(om _).2 (ei.en (beq_iff_eq.1 h5.1));have cs:=cd on po;have ix:=Ch (o:=o) (F:=G) (p:=(evR E i).player) (by omega) hN;rw [J9.2 po,cond_true] at ix;rw [cond_true];refine Gi ix ?_;simp only [PXb,Bu,AN (FV po).1,Int.toNat_natCast,cs,HL,OO];rw [← fin 9 fun q=>by unfold evL;rw [h5.1,h5.2];rfl]
     | false =>
      cases h6:(evR E i).kind==6 && !(evR E i).yes with
      | true =>
       have h6':=h6;simp only [zzj] at h6';have po:(evR E i).player∈o:=(om _).2 (ei.re (beq_iff_eq.1 h6'.1));have cs:=cd on po;have ix:=Ch (o:=o) (F:=G) (p:=(evR E i).player) (by omega) hN;rw [J9.2 po,cond_true] at ix;rw [cond_false,cond_true];refine Gi ix ?_;simp only [PXb,Bu,AN (FV po).1,Int.toNat_natCast,cs,HL,OO];rw [← fin 10 fun q=>by unfold evL;rw [h5,h6];rfl]
      | false =>
       rw [cond_false,cond_false];have:(fun p=>evL (evR E i) p (G p))=G:=funext fun q=>by unfold evL;rw [h5,h6];rfl
       rw [this]
theorem TO {N:Nat} {L:Rows} (hN:2097152<N) (h:L.length≤1048576):Ce N [.rows L,.rows L]=some [.bool true]:=by
 show Da (std (Jl N) N) (xOf _)=_;simp only [Da,lq9,std,xOf,PXb];simp only [PXb,PXc,PXn,AG,beq_self_eq_true,Bool.not_true];refine AU (ED (len:=L.length) (fun i=>[.int (i:Int)]) [.int 1] ?_ ?_ N (by omega)) rfl
 ·intro self;simp only [PXb,PXc,PXn,AG,A2]
 ·intro i self hi;simp only [PXb,PXc,PXn,AG,Cv (show i≤1099511627776 by omega),Av hi,AN hi,beq_self_eq_true,Bool.not_true]
def ge:Rows:=[[.int 1,.int 1,.int 1,.int 0,.int 0,.bool false,.int 0,.int 0,.int 0,.bool true],[.int 2,.int 0,.int 1,.int 0,.int 0,.bool true,.int 1,.int 1,.int 0,.bool true]]
def gY:ByteArray:=⟨#[65,78,78,32,40,99,41,58,32,49,32,40,49,41,32,78,79,84,32,79,85,84,10,66,79,66,32,40,107,41,58,32,48,32,40,49,41,32,66,79,87,76,69,68,32,98,32,67,76,69,79,10]⟩
theorem vA:CJ 4194304 [.rows ge,.str ⟨#[79,65,75,83]⟩,.rows [[.str ⟨#[65,78,78]⟩],[.str ⟨#[66,79,66]⟩]],.int 1,.int 2,.str ⟨#[69,76,77,83]⟩,.rows [[.str ⟨#[67,76,69,79]⟩],[.str ⟨#[68,65,78]⟩]],.int 2,.int 2]=some [.str gY,.int 0]:=by kernel_rfl
theorem ug:Sb Xv Xz 0=(ge,0):=by kernel_rfl
set_option maxHeartbeats 2000000 in
theorem km:Kh 4194304 []=some [.bool true]:=by
 have hs:Xv.name.size≤1048576:=by decide
 have hl:Xz.length≤1000000:=by decide
 have hN:2097152<4194304:=by omega
 have k1:DT 4194304 (Xv.ls++[.rows Xz,.int 0])=some [.rows (Sb Xv Xz 0).1,.int (Sb Xv Xz 0).2]:=eX hN hs (Nat.zero_le _) hl;rw [ug] at k1;have k2:=vA;have k3:=TO (L:=ge) hN (by decide);obtain ⟨C,hC⟩:∃ C,C=ge:=⟨_,rfl⟩;obtain ⟨X,hX⟩:∃ X,X=gY:=⟨_,rfl⟩;have k4:∀ O:ByteArray,O=gY→(X.toList==O.toList)=true:=fun O h=>by rw [h,hX];exact beq_self_eq_true _
 rw [← hC] at k1 k2 k3;rw [← hX] at k2;show Oi (std (EH 4194304) 4194304) (xOf [])=_;simp only [Oi,R6,Li,RL,UY,WS,lq9,std,xOf,PXb,vY,sq];refine Gi k1 ?_;simp only [PXb,PXc,PXn,AG,Nat.reduceAdd];refine Gi k2 ?_;simp only [PXb,PXc,PXn,AG,Nat.reduceAdd,beq_self_eq_true];refine Gi (v:=[.bool true]) (by rw [hC] at k3 ⊢;exact k3) ?_;simp only [PXb,PXc,PXn,AG,Nat.reduceAdd];rw [hX];exact congrArg (fun b=>some [PV.bool b]) (beq_self_eq_true gY.toList)
def Rl (n:Nat):ByteArray:=⟨(Lib.decDigits n).toArray⟩
theorem tH:∀ u:Nat,(Lib.decDigits u).length≤u+1:=by
 intro u
 induction u using Nat.strongRecOn with
 | _ u ih =>
  rw [Lib.decDigits]
  by_cases h:u<10
  ·rw [dif_pos h];simp
  ·rw [dif_neg h,List.length_append];have:=ih (u / 10) (by omega);simp only [List.length_cons,List.length_nil];omega
theorem ek {n:Nat} (h:n≤1000000):(Rl n).size≤1000001:=by
 have:=tH n;show (Lib.decDigits n).toArray.size≤_;rw [List.size_toArray];omega
theorem rF (d:UInt8) (l:List UInt8):(⟨#[d]⟩++⟨l.toArray⟩:ByteArray)=⟨(d::l).toArray⟩:=by
 apply ByteArray.ext;simp
theorem pH {F : (List AR → Option (List PV)) → List PV → Option (List PV)} (h0 : ∀ (l : List UInt8) self, l ≠ [] → F self [.int 0, .str ⟨l.toArray⟩] = some [.str ⟨l.toArray⟩])
    (h1:∀ (u:Nat) (l:List UInt8) self,(0<u∨l=[])→u+l.length≤1000002→F self [.int (u:Int),.str ⟨l.toArray⟩]=self [.int ((u / 10:Nat):Int),.str ⟨(UInt8.ofNat (48+u % 10)::l).toArray⟩]) :
    ∀ (u:Nat) (l:List UInt8) (n:Nat),u+1<n→u+l.length≤1000001→Dt F n [.int (u:Int),.str ⟨l.toArray⟩]=some [.str ⟨(if u=0∧l≠[] then l else Lib.decDigits u++l).toArray⟩]:=by
  intro u
  induction u using Nat.strongRecOn with
  | _ u ih =>
    intro l n hn hl;obtain ⟨n,rfl⟩:∃ m,n=m+1:=⟨n - 1,by omega⟩;show F _ _=_
    by_cases hu:u=0
    · subst hu
      by_cases he:l=[]
      · subst he;rw [h1 0 [] _ (.inr rfl) (by simp)];obtain ⟨n,rfl⟩:∃ m,n=m+1:=⟨n - 1,by omega⟩;show F _ [.int 0,.str ⟨[UInt8.ofNat (48+0 % 10)].toArray⟩]=_;rw [h0 _ _ (by simp),if_neg (by simp),Lib.decDigits,dif_pos (by omega)];rfl
      · rw [show ((0:Nat):Int)=0 from rfl,h0 l _ he,if_pos ⟨rfl,he⟩]
    · rw [h1 u l _ (.inl (by omega)) (by omega)];show Dt F n [.int ((u / 10:Nat):Int),.str ⟨(UInt8.ofNat (48+u % 10)::l).toArray⟩]=_;have rhs:(if u=0∧l≠[] then l else Lib.decDigits u++l)=Lib.decDigits u++l:=if_neg (fun h=>hu h.1);rw [rhs,ih (u / 10) (by omega) _ n (by omega) (by simp only [List.length_cons];omega),Lib.decDigits.eq_def u]
      by_cases h:u<10
      · rw [if_pos ⟨by omega,by simp⟩,dif_pos h,Nat.mod_eq_of_lt h];rfl
      · rw [if_neg (fun hh=>by omega),dif_neg h,List.append_assoc];rfl
theorem qU {k:Nat} (h:k<10):(⟨#[48,49,50,51,52,53,54,55,56,57]⟩:ByteArray).extract k (k+1)=⟨#[UInt8.ofNat (48+k)]⟩:=by
 have:k=0∨k=1∨k=2∨k=3∨k=4∨k=5∨k=6∨k=7∨k=8∨k=9:=by omega
 rcases this with h | h | h | h | h | h | h | h | h | h<;>subst h<;>rfl
theorem ny {n:Int} (h0:0≤n) (h1:n≤1000000000):IntKind.u64.wrap n=n:=by
 have e:IntKind.u64.wrap n=n % 18446744073709551616:=by
  unfold IntKind.wrap;rfl
 rw [e];exact Int.emod_eq_of_lt h0 (by omega)
set_option maxHeartbeats 2000000 in
theorem gE {N n:Nat} (hN:2097152<N) (h:n≤1000000):Fc N [.int (n:Int)]=some [.str (Rl n)]:=by
 have P:JY N [.int (n:Int),.int 1]=some [.str (Rl n)]:=by
  show MP (std (UQ N) N) (xOf _)=_;have z:iLt (n:Int) 0=false:=by simp only [iLt,decide_eq_false_iff_not];omega
  have z1:iLt 20 1=false:=by decide
  have z2:iLt 1 1=false:=by decide
  have z3:iSm 0 1=true:=by decide
  have z4:iSm 1 1=true:=by decide
  simp only [MP,lq9,std,xOf,PXb];simp only [PXb,z,z1,z2,ny (show (0:Int)≤(n:Int) by omega) (show (n:Int)≤1000000000 by omega)];refine AU (r:=[.str (Rl n)]) ((pH ?_ ?_ n [] N (by omega) (by simp;omega)).trans (by rw [if_neg (by simp),List.append_nil];rfl)) ?_
  ·intro l self hl;have:iLt ((⟨l.toArray⟩:ByteArray).size:Int) 1=false:=by
    simp only [iLt,decide_eq_false_iff_not];show ¬ ((l.toArray.size:Nat):Int)<1;rw [List.size_toArray];have:=List.length_pos_iff.2 hl;omega
   have z5:iLt 0 0=false:=by decide
   simp only [PXb,PXc,PXn,AG,this,z5]
  ·intro u l self hu hl;have c:(iLt 0 (u:Int)||iLt ((⟨l.toArray⟩:ByteArray).size:Int) 1)=true:=by
    rcases hu with hu | hu
    ·rw [show iLt 0 (u:Int)=true by simp only [iLt,decide_eq_true_eq];omega];rfl
    ·subst hu;exact Bool.or_true _
   have e1:Int.tmod (u:Int) 10=((u % 10:Nat):Int):=rfl;have e2:IntKind.u64.wrap (((u % 10:Nat):Int)+1)=((u % 10+1:Nat):Int):=by rw [ny (by omega) (by omega)];omega
   have e3:IntKind.u64.wrap (Int.tdiv (u:Int) 10)=((u / 10:Nat):Int):=by
    show IntKind.u64.wrap ((u / 10:Nat):Int)=_;exact ny (by omega) (by omega)
   have ds:=qU (show u % 10<10 by omega);have rg:iRg ((u % 10:Nat):Int) ((u % 10+1:Nat):Int) 10=true:=by simp only [iRg,decide_eq_true_eq];omega
   have s1:iSm ((⟨l.toArray⟩:ByteArray).size:Int) 1=true:=DV (by show l.toArray.size≤_;rw [List.size_toArray];omega) (by omega);have sz:(((⟨#[48,49,50,51,52,53,54,55,56,57]⟩:ByteArray).size:Nat):Int)=10:=rfl;have sz1:(((⟨#[UInt8.ofNat (48+u % 10)]⟩:ByteArray).size:Nat):Int)=1:=rfl;simp only [PXb,PXc,PXn,AG,c,e1,e2,e3,sz,rg,Int.toNat_natCast,ds,sz1,z4,s1,rF]
  ·have s1:iSm ((Rl n).size:Int) 1=true:=DV (by have:=ek h;omega) (by omega);have s0:iSm (((⟨#[]⟩:ByteArray).size:Nat):Int) 1=true:=z3;have e0:(⟨#[]⟩:ByteArray)++Rl n=Rl n:=by apply ByteArray.ext;simp
   simp only [PXb,PXc,PXn,AG,s1,s0,e0]
 show LJ (std (My N) N) (xOf _)=_;simp only [LJ,Rp,lq9,std,xOf,PXb,P]
theorem lI {N n:Nat} (h:n≤1000000):C4 N [.int (n:Int),.int 10]=some [.str (Rl n)]:=by
 show cond ((10:Int)==10) (Z4 (n:Int)) none=_;rw [tT (by omega)];rfl
theorem dz {N n:Nat} (h:n≤1000000):G6 N [.int (n:Int)]=some [.str (Rl n)]:=by
 have F:DJ N [.int (n:Int),.int 10]=some [.str (Rl n)]:=by
  show FE (std (HE N) N) (xOf _)=_;simp only [FE,IX,lq9,std,xOf,PXb,lI h]
 show Jy (std (Lg N) N) (xOf _)=_;simp only [Jy,Lk,lq9,std,xOf,PXb,F]
def rZ (b c:Int):Bool:=((iLe 0 b&&iLe b 1000000)&&iLe 0 c)&&iLe c 1000000
theorem YJ {N:Nat} {a b c d f:Int} {x:Bool} {h v i:Int} {y:Bool}:GT N [.int a,.int b,.int c,.int d,.int f,.bool x,.int h,.int v,.int i,.bool y]=some [.bool (rZ b c)]:=by
 show GW (std (Nj N) N) (xOf _)=_;simp only [GW,lq9,std,xOf,PXb];rfl
theorem kj {N:Nat} {a:Int}:IP N [.int a]=some [.bool (iLe 0 a&&iLe a 1000000)]:=by
 show On (std (Vm N) N) (xOf _)=_;simp only [On,lq9,std,xOf,PXb]
theorem pA {N:Nat} {L:Rows}  : O1 N [.rows L]=some [.rows (cut L 11)]:=by
 show O5 (std (Ke N) N) (xOf _)=_;simp only [O5,lq9,std,xOf,PXb,PXc,PXn,PXm,Nat.reduceAdd,Int.reduceBEq,gX (show (0:Int)≤11 by omega)];rfl
def PW (Q:Rows):Prop:=Q.length≤1048576∧∀ i,(pvS (AB Q i 0)).size≤20
def sEq (a b:ByteArray):Bool:=a.toList==b.toList
def CL:ByteArray:=⟨#[]⟩
theorem rx (a b:ByteArray):sEq a b=sEq b a:=by
 unfold sEq;rw [Bool.eq_iff_iff,beq_iff_eq,beq_iff_eq];exact ⟨Eq.symm,Eq.symm⟩
theorem uK (s:ByteArray):sEq s CL = !iLe 1 (s.size:Int):=Yd s
theorem UW {N:Nat} {L:Rows} {x:ByteArray} (hN:L.length<N) (hl:L.length≤1048576):Cw N [.rows L,.str x]=some [.int (NB (fun j=>sEq x (pvS (AB L j 0))) L.length)]:=by
 show D2 (std (KI N) N) (xOf _)=_;simp only [D2,lq9,std,xOf,PXb];refine AU (Bp (len:=L.length) (Ef fun j=>sEq x (pvS (AB L j 0))) ?_ ?_ L.length 0 N (by omega) (by omega)) ?_
 ·intro self;simp only [PXb,PXc,PXn,AG,A2]
 ·intro i self hi;have e:(x.toList==(pvS (AB L i 0)).toList)=sEq x (pvS (AB L i 0)):=rfl;simp only [PXb,PXc,PXn,AG,Ax (show i≤1099511627776 by omega),Av hi,AN hi,Ef,e];cases sEq x (pvS (AB L i 0))<;>rfl
 ·unfold NB;cases A5 (Ef fun j=>sEq x (pvS (AB L j 0))) L.length 0<;>rfl
theorem SA {N:Nat} {L:Rows} {x:ByteArray} (hN:L.length<N) (hl:L.length≤1048576):Bl N [.rows L,.str x]=some [.bool (BI (fun j=>sEq x (pvS (AB L j 0))) L.length 0)]:=by
 show C2 (std (EF N) N) (xOf _)=_;simp only [C2,GF,lq9,std,xOf,PXb,UW hN hl];rw [Hp]
def eB (p:Nat→Bool):Nat→Nat→Int
 | 0,_=>0
 | k+1,i=>cond (p i) ((i:Int)+1) (eB p k (i+1))
theorem ef (p:Nat→Bool):∀ k i,(match A5 (fun j=>cond (p j) (some [.int ((j:Int)+1)]) none) k i with | some r=>r | none=>[.int 0])=[.int (eB p k i)]
 | 0,_=>rfl
 | k+1,i=>by
  show _=[PV.int (cond (p i) ((i:Int)+1) (eB p k (i+1)))];simp only [A5];cases p i with
  | true=>rfl
  | false=>exact ef p k (i+1)
theorem mH {p:Nat→Bool} {t:Nat} (h:p t=true):∀ k i,i≤t→t<i+k→(eB p k i==(t:Int)+1) = !BI p (t - i) i
 | 0,i,h1,h2=>by omega
 | k+1,i,h1,h2=>by
  show ((cond (p i) ((i:Int)+1) (eB p k (i+1)))==(t:Int)+1)=_
  by_cases e:t=i
  ·subst e;rw [h,Nat.sub_self,cond_true,HJ];exact beq_self_eq_true _
  ·have s:t - i=t - (i+1)+1:=by omega
   rw [s,Bq];cases hp:p i with
   | true =>
    rw [cond_true,Bool.true_or,Bool.not_true];exact beq_eq_false_iff_ne.2 (by omega)
   | false =>
    rw [cond_false,Bool.false_or];exact mH h k (i+1) (by omega) (by omega)
theorem oO {N:Nat} {n x:ByteArray} {L:Rows} {a b:Int} (hN:L.length<N) (hl:L.length≤1048576):Mw N [.str n,.rows L,.int a,.int b,.str x]=some [.int (eB (fun j=>sEq (pvS (AB L j 0)) x) L.length 0)]:=by
 show QS (std (XK N) N) (xOf _)=_;simp only [QS,lq9,std,xOf,PXb];refine AU (Bp (len:=L.length) (fun j=>cond (sEq (pvS (AB L j 0)) x) (some [.int ((j:Int)+1)]) none) ?_ ?_ L.length 0 N (by omega) (by omega)) ?_
 ·intro self;simp only [PXb,PXc,PXn,AG,A2]
 ·intro i self hi;have e:((pvS (AB L i 0)).toList==x.toList)=sEq (pvS (AB L i 0)) x:=rfl;simp only [PXb,PXc,PXn,AG,Ax (show i≤1099511627776 by omega),Av hi,AN hi,e];cases sEq (pvS (AB L i 0)) x<;>rfl
 ·have fd:=ef (fun j=>sEq (pvS (AB L j 0)) x) L.length 0;cases hf:A5 (fun j=>cond (sEq (pvS (AB L j 0)) x) (some [PV.int ((j:Int)+1)]) none) L.length 0 with
  | none =>
   rw [hf] at fd;have fd:[PV.int 0]=[PV.int _]:=fd;rw [← fd];rfl
  | some r =>
   rw [hf] at fd;have fd:r=[PV.int _]:=fd;rw [fd];rfl
def qx:ByteArray:=⟨#[32,40,99,41]⟩
def uf:ByteArray:=⟨#[32,40,107,41]⟩
def DF (Q:Rows) (p:Int):Bool:=iLt p 1||iLt (Q.length:Int) p
def Di (Q:Rows) (c k p:Int):ByteArray :=
 cond (DF Q p) CL (cond (p==k) (cond (p==c) (pvS (AB Q (p - 1).toNat 0)++qx) (pvS (AB Q (p - 1).toNat 0))++uf) (cond (p==c) (pvS (AB Q (p - 1).toNat 0)++qx) (pvS (AB Q (p - 1).toNat 0))))
theorem kV {Q:Rows} {p:Int} (h:DF Q p=false):1≤p∧p≤(Q.length:Int):=by
 simp only [DF,iLt,Bool.or_eq_false_iff,decide_eq_false_iff_not] at h;omega
theorem HY {Q:Rows} (t:PW Q) (c k p:Int):(Di Q c k p).size≤28:=by
 have z:=t.2 (p - 1).toNat;have s4:qx.size=4:=rfl;have s5:uf.size=4:=rfl;unfold Di;cases DF Q p with
 | true=>exact Nat.zero_le _
 | false =>
  cases p==k<;>cases p==c<;>simp only [cond_true,cond_false,ByteArray.size_append]<;>omega
theorem mD {Q:Rows} {c k p:Int} (h:∀ i,i<Q.length→1≤(pvS (AB Q i 0)).size):sEq (Di Q c k p) CL=DF Q p:=by
 rw [uK];unfold Di;cases ho:DF Q p with
 | true=>rfl
 | false =>
  have:=kV ho;have z:=h (p - 1).toNat (by omega);rw [Bool.not_eq_false',cond_false];simp only [iLe,decide_eq_true_eq];cases p==k<;>cases p==c<;>simp only [cond_true,cond_false,ByteArray.size_append]<;>omega
theorem Pp {N:Nat} {n:ByteArray} {Q:Rows} {c k p:Int} (t:PW Q):EG N [.str n,.rows Q,.int c,.int k,.int p]=some [.str (Di Q c k p)]:=by
 show LD (std (S6 N) N) (xOf _)=_;simp only [LD,lq9,std,xOf,PXb];unfold Di;cases ho:DF Q p with
 | true =>
  unfold DF at ho;simp only [ho,cond_true];rfl
 | false =>
  have r:=kV ho;have t1:=t.1;have z:=t.2 (p - 1).toNat;have w:IntKind.i64.wrap (p - 1)=p - 1:=CO (by omega) (by omega);have ii:iIn (p - 1) (Q.length:Int)=true:=by simp [iIn];omega
  have s1:iSm (((pvS (AB Q (p - 1).toNat 0)).size:Nat):Int) 1=true:=DV (by omega) (by omega);have s2:iSm ((((⟨#[32,40,99,41]⟩:ByteArray).size:Nat)):Int) 1=true:=by decide
  have s3:iSm ((((⟨#[32,40,107,41]⟩:ByteArray).size:Nat)):Int) 1=true:=by decide
  have s4:iSm ((((pvS (AB Q (p - 1).toNat 0)++(⟨#[32,40,99,41]⟩:ByteArray)).size:Nat)):Int) 1=true:=DV (by rw [ByteArray.size_append];have:(⟨#[32,40,99,41]⟩:ByteArray).size=4:=rfl;omega) (by omega);unfold DF at ho;simp only [ho,cond_false,w,ii,cond_true,s1,s2,s3];cases p==k<;>cases p==c<;>simp only [PXb,s1,s4]<;>rfl
theorem Yh {N:Nat} {n:ByteArray} {Q:Rows} {c k p:Int} (t:PW Q):Kn N [.str n,.rows Q,.int c,.int k,.int p]=some [.str (Di Q c k p)]:=by
 show Og (std (V8 N) N) (xOf _)=_;simp only [Og,lq9,std,xOf,PXb];unfold Di;cases ho:DF Q p with
 | true =>
  unfold DF at ho;simp only [ho,cond_true];rfl
 | false =>
  have r:=kV ho;have t1:=t.1;have z:=t.2 (p - 1).toNat;have w:IntKind.i64.wrap (p - 1)=p - 1:=CO (by omega) (by omega);have ii:iIn (p - 1) (Q.length:Int)=true:=by simp [iIn];omega
  have s1:iSm (((pvS (AB Q (p - 1).toNat 0)).size:Nat):Int) 1=true:=DV (by omega) (by omega);have s2:iSm ((((⟨#[32,40,99,41]⟩:ByteArray).size:Nat)):Int) 1=true:=by decide
  have s3:iSm ((((⟨#[32,40,107,41]⟩:ByteArray).size:Nat)):Int) 1=true:=by decide
  have s4:iSm ((((pvS (AB Q (p - 1).toNat 0)++(⟨#[32,40,99,41]⟩:ByteArray)).size:Nat)):Int) 1=true:=DV (by rw [ByteArray.size_append];have:(⟨#[32,40,99,41]⟩:ByteArray).size=4:=rfl;omega) (by omega);unfold DF at ho;simp only [ho,cond_false,w,ii,cond_true,s1,s2,s3];cases p==k<;>cases p==c<;>simp only [PXb,s1,s4]<;>rfl
def Tc (Q:Rows) (i:Nat):Option (List PV):=cond (!EK (pvS (AB Q i 0))) (some [.int 5]) (cond (BI (fun j=>sEq (pvS (AB Q i 0)) (pvS (AB Q j 0))) i 0) (some [.int 7]) none)
def IV (n:ByteArray) (Q:Rows) (c k:Int):Int :=
 cond (!EK n) 5 (cond (iLt (Q.length:Int) 2||iLt 11 (Q.length:Int)) 9 (match A5 (Tc Q) Q.length 0 with | some r=>pvI (AA r 0) | none=>cond (DF Q c||DF Q k) 6 0))
theorem aJ {ans:Nat→Option (List PV)}:∀ (k i:Nat),A5 ans k i=none→∀ j,i≤j→j<i+k→ans j=none
 | 0,i,_,j,h1,h2=>by omega
 | k+1,i,h,j,h1,h2=>by
  simp only [A5] at h;cases ha:ans i with
  | some x=>rw [ha] at h;cases h
  | none =>
   rw [ha] at h
   rcases Nat.eq_or_lt_of_le h1 with e | e
   ·rw [← e];exact ha
   ·exact aJ k (i+1) h j e (by omega)
theorem mF {Q:Rows} (h:A5 (Tc Q) Q.length 0=none) (i:Nat) (hi:i<Q.length):1≤(pvS (AB Q i 0)).size:=by
 have a:=aJ _ _ h i (Nat.zero_le _) (by omega);unfold Tc at a;cases hn:EK (pvS (AB Q i 0)) with
 | false=>rw [hn] at a;cases a
 | true =>
  unfold EK at hn;simp only [zzj,iLe,decide_eq_true_eq] at hn;omega
theorem un {Q:Rows} {c k:Int} (h:A5 (Tc Q) Q.length 0=none):(sEq (Di Q c k c) CL||sEq (cond (!sEq (Di Q c k c) CL) (Di Q c k k) CL) CL)=(DF Q c||DF Q k):=by
 rw [mD (mF h)];cases DF Q c with
 | true=>rfl
 | false=>rw [Bool.false_or,Bool.false_or,Bool.not_false,cond_true,mD (mF h)]
set_option maxHeartbeats 2000000 in
theorem Vx {N:Nat} {n:ByteArray} {Q:Rows} {c k:Int} (hN:2097152<N) (hn:n.size≤1048576) (t:PW Q):LG N [.str n,.rows Q,.int c,.int k]=some [.int (IV n Q c k)]:=by
 have t1:=t.1;show K1 (std (F1 N) N) (xOf _)=_;simp only [K1,I2,SC,JL,lq9,std,xOf,PXb,RN N n (by omega) hn];unfold IV;cases EK n with
 | false=>rfl
 | true =>
  cases iLt (Q.length:Int) 2||iLt 11 (Q.length:Int) with
  | true=>rfl
  | false =>
   simp only [PXb];refine AU (Bp (len:=Q.length) (Tc Q) ?_ ?_ Q.length 0 N (by omega) (by omega)) ?_
   ·intro self;simp only [PXb,A2]
   ·intro i self hi;have z:=t.2 i;have tl:(Q.take i).length=i:=by rw [List.length_take];omega
    have cc:=SA (N:=N) (L:=Q.take i) (x:=pvS (AB Q i 0)) (by omega) (by omega);rw [tl] at cc;have ca:BI (fun j=>sEq (pvS (AB Q i 0)) (pvS (AB (Q.take i) j 0))) i 0=BI (fun j=>sEq (pvS (AB Q i 0)) (pvS (AB Q j 0))) i 0:=QZ i 0 fun j _ hj=>by
     unfold AB Aa;simp only [zzk];rw [List.getElem?_take_of_lt (by omega)]
    rw [ca] at cc;have cc:Bl N [.rows (List.drop (Int.toNat 0) (List.take i Q)),.str (pvS (AB Q i 0))]=_:=cc;have rg:iRg 0 (i:Int) (Q.length:Int)=true:=sV (by omega);simp only [PXb,Ax (show i≤1099511627776 by omega),Av hi,AN hi,RN N (pvS (AB Q i 0)) (by omega) (by omega),rg,og,cc,Tc];cases EK (pvS (AB Q i 0)) with
    | false=>rfl
    | true=>cases BI (fun j=>sEq (pvS (AB Q i 0)) (pvS (AB Q j 0))) i 0<;>rfl
   ·cases hf:A5 (Tc Q) Q.length 0 with
    | some r=>rfl
    | none =>
     have o:=un (c:=c) (k:=k) hf;simp only [PXb,QX,I2,Pp t];show (Option.bind (cond (!sEq (Di Q c k c) CL) (some [PV.str (Di Q c k k)]) (some [PV.str CL])) fun c3=>cond (sEq (Di Q c k c) CL||sEq (pvS (AA c3 0)) CL) (some [PV.int 6]) (some [PV.int 0]))=some [PV.int (cond (DF Q c||DF Q k) 6 0)];rw [AG,sN];show cond (sEq (Di Q c k c) CL||sEq (cond (!sEq (Di Q c k c) CL) (Di Q c k k) CL) CL) (some [PV.int 6]) (some [PV.int 0])=_;rw [o];cases DF Q c||DF Q k<;>rfl
set_option maxHeartbeats 2000000 in
theorem ZE {N:Nat} {n:ByteArray} {Q:Rows} {c k:Int} (hN:2097152<N) (hn:n.size≤1048576) (t:PW Q):KX N [.str n,.rows Q,.int c,.int k]=some [.int (IV n Q c k)]:=by
 have t1:=t.1;show Ou (std (LR N) N) (xOf _)=_;simp only [Ou,VT,Un,lq9,std,xOf,PXb,YY N n (by omega) hn];unfold IV;cases EK n with
 | false=>rfl
 | true =>
  cases iLt (Q.length:Int) 2||iLt 11 (Q.length:Int) with
  | true=>rfl
  | false =>
   simp only [PXb];refine AU (Bp (len:=Q.length) (Tc Q) ?_ ?_ Q.length 0 N (by omega) (by omega)) ?_
   ·intro self;simp only [PXb,A2]
   ·intro i self hi;have z:=t.2 i;have ff:=mH (p:=fun j=>sEq (pvS (AB Q j 0)) (pvS (AB Q i 0))) (t:=i) (beq_self_eq_true _) Q.length 0 (Nat.zero_le _) (by omega);have ca:BI (fun j=>sEq (pvS (AB Q j 0)) (pvS (AB Q i 0))) i 0=BI (fun j=>sEq (pvS (AB Q i 0)) (pvS (AB Q j 0))) i 0:=QZ i 0 fun j _ hj=>rx _ _
    rw [Nat.sub_zero,ca] at ff;simp only [PXb,Ax (show i≤1099511627776 by omega),Av hi,AN hi,YY N (pvS (AB Q i 0)) (by omega) (by omega),oO (N:=N) (L:=Q) (by omega) t1,ff,Tc];cases EK (pvS (AB Q i 0)) with
    | false=>rfl
    | true=>cases BI (fun j=>sEq (pvS (AB Q i 0)) (pvS (AB Q j 0))) i 0<;>rfl
   ·cases hf:A5 (Tc Q) Q.length 0 with
    | some r=>rfl
    | none =>
     have e:(((iLt c 1||iLt (Q.length:Int) c)||iLt k 1)||iLt (Q.length:Int) k)=(DF Q c||DF Q k):=by unfold DF;rw [Bool.or_assoc]
     simp only [PXb,QX,e];show cond (DF Q c||DF Q k) (some [PV.int 6]) (some [PV.int 0])=_;cases DF Q c||DF Q k<;>rfl
theorem ej (a b:ByteArray):Ar a++Ar b=Ar (a++b):=by
 unfold Ar;rw [← List.map_append];congr 1
theorem Xb (a:ByteArray):(Ar a).length=a.size:=by
 unfold Ar;rw [List.length_map];rfl
theorem oh (a:ByteArray):OH (Ar a)=true:=by
 unfold OH Ar;rw [List.all_map,List.all_eq_true];intro b _;have:=b.toNat_lt;show decide (0≤(b.toNat:Int)∧(b.toNat:Int)<256)=true;rw [decide_eq_true_eq];omega
theorem pW (a:ByteArray):mu (Ar a)=a:=by
 unfold mu Ar;apply ByteArray.ext;rw [List.map_map];have:(fun r=>(pvI (AA r 0)).toNat.toUInt8) ∘ (fun b:UInt8=>[PV.int (b.toNat:Int)])=id:=by
  funext b
  show ((b.toNat:Int)).toNat.toUInt8=b;rw [Int.toNat_natCast];simp
 rw [this,List.map_id]
theorem sD:([[.int 10]]:Rows)=Ar ⟨#[10]⟩:=rfl
theorem smZ {s:ByteArray} (h:s.size≤1000000000000):iSm (s.size:Int) 1=true:=by
 simp only [iSm,decide_eq_true_eq];omega
theorem aE {F : (List AR → Option (List PV)) → List PV → Option (List PV)} {len : Nat} (enc : Nat → List AR) (ans : Nat → Option (List PV)) (fin : List PV)
    (h0:∀ self,F self ((enc len).map Leaf.pv)=some (.int 1::fin)) (h1:∀ i self,i<len→F self ((enc i).map Leaf.pv)=match ans i with | some r=>some (.int 0::r) | none=>self (enc (i+1))) :
    ∀ (k i n:Nat),i+k=len→k<n→Dt F n ((enc i).map Leaf.pv)=some (match A5 ans k i with | some r=>.int 0::r | none=>.int 1::fin)
  | 0,i,n,hk,hn=>by
    obtain ⟨n,rfl⟩:∃ m,n=m+1:=⟨n - 1,by omega⟩;obtain rfl:i=len:=by omega
    exact h0 _
  | k+1,i,n,hk,hn=>by
    obtain ⟨n,rfl⟩:∃ m,n=m+1:=⟨n - 1,by omega⟩;show F _ _=_;rw [h1 i _ (by omega)];simp only [A5];cases ans i with
    | some r=>rfl
    | none=>exact aE enc ans fin h0 h1 k (i+1) n (by omega) (by omega)
def TH (h:Int):ByteArray:=pvS (AA (QU h) 1)
theorem iZ {h:Int} (hr:¬ (0≤h∧h≤10)):TH h=CL:=by
 have key:∀ j,j<11→atI Bn j 0=j:=by
  intro j hj;have:j=0∨j=1∨j=2∨j=3∨j=4∨j=5∨j=6∨j=7∨j=8∨j=9∨j=10:=by omega
  rcases this with h | h | h | h | h | h | h | h | h | h | h<;>subst h<;>rfl
 unfold TH QU;generalize hf:A5 _ 11 0=o;cases o with
 | none=>rfl
 | some r =>
  obtain ⟨j,_,h2,h3⟩:=Ha _ _ hf;rw [key j (by omega),show ((j:Int)==h)=false from beq_false_of_ne (by omega)] at h3;cases h3
theorem WZ (h:Int):(TH h).size≤16:=by
 by_cases hr:0≤h∧h≤10
 ·obtain ⟨k,rfl⟩:∃ k:Nat,h=k:=⟨h.toNat,by omega⟩;have:k=0∨k=1∨k=2∨k=3∨k=4∨k=5∨k=6∨k=7∨k=8∨k=9∨k=10:=by omega
  rcases this with h | h | h | h | h | h | h | h | h | h | h<;>subst h<;>exact Nat.le_of_ble_eq_true rfl
 ·rw [iZ hr];exact Nat.zero_le _
theorem aD {N:Nat} {h:Int} (hN:2097152<N):Hh N [.int h]=some [.str (TH h)]:=by
 show HX (std (JP N) N) (xOf _)=_;simp only [HX,NT,lq9,std,xOf,PXb,UL hN];rfl
def nmT:Rows:=match IQ 0 [] with
 | some [.rows l]=>l
 | _=>[]
theorem lf {N:Nat}:IQ N []=some [.rows nmT]:=rfl
theorem nO {N:Nat} {h:Int} (h0:0≤h):Mq N [.int h]=some [.str (TH h)]:=by
 show MZ (std (Q6 N) N) (xOf _)=_
 by_cases hr:h≤10
 ·have l:iLt 10 h=false:=by simp only [iLt,decide_eq_false_iff_not];omega
  have r:iIn h (nmT.length:Int)=true:=by
   have:nmT.length=11:=rfl;simp only [iIn,decide_eq_true_eq];omega
  simp only [MZ,M4,lq9,std,xOf,PXb,lf,l,r];obtain ⟨k,rfl⟩:∃ k:Nat,h=k:=⟨h.toNat,by omega⟩;have:k=0∨k=1∨k=2∨k=3∨k=4∨k=5∨k=6∨k=7∨k=8∨k=9∨k=10:=by omega
  rcases this with h | h | h | h | h | h | h | h | h | h | h<;>subst h<;>rfl
 ·have l:iLt 10 h=true:=by simp only [iLt,decide_eq_true_eq];omega
  rw [iZ (h:=h) (by omega)];simp only [MZ,M4,lq9,std,xOf,PXb,l];rfl
def lnT (T d1 d2 H fT bT:ByteArray) (bat out hf hb:Bool):ByteArray :=
  T++(⟨#[58,32]⟩++cond (!bat && !out) ⟨#[68,73,68,32,78,79,84,32,66,65,84,10]⟩ (d1++(⟨#[32,40]⟩++(d2++(⟨#[41]⟩++cond (!out) ⟨#[32,78,79,84,32,79,85,84,10]⟩
    (⟨#[32]⟩++(H++(cond hf (⟨#[32,99,32]⟩++fT) CL++(cond hb (⟨#[32,98,32]⟩++bT) CL++⟨#[10]⟩)))))))))
theorem zz : (⟨#[58, 32]⟩ : ByteArray).size = 2 ∧ (⟨#[68, 73, 68, 32, 78, 79, 84, 32, 66, 65, 84, 10]⟩ : ByteArray).size = 12 ∧ (⟨#[32, 40]⟩ : ByteArray).size = 2 ∧ (⟨#[41]⟩ : ByteArray).size = 1 ∧ (⟨#[32, 78, 79, 84, 32, 79, 85, 84, 10]⟩ : ByteArray).size = 9 ∧
    (⟨#[32]⟩:ByteArray).size=1∧(⟨#[32,99,32]⟩:ByteArray).size=3∧(⟨#[32,98,32]⟩:ByteArray).size=3∧(⟨#[10]⟩:ByteArray).size=1∧(⟨#[]⟩:ByteArray).size=0∧CL.size=0:=by
  repeat' apply And.intro
  all_goals rfl
theorem tL:(⟨#[58,32,68,73,68,32,78,79,84,32,66,65,84,10]⟩:ByteArray)=⟨#[58,32]⟩++⟨#[68,73,68,32,78,79,84,32,66,65,84,10]⟩:=rfl
theorem OB (s:ByteArray):CL++s=s:=by
 apply ByteArray.ext;simp [CL]
theorem Rf (a b c:ByteArray):a++b++c=a++(b++c):=by
 apply ByteArray.ext;simp
theorem rX {T d1 d2 H fT bT:ByteArray} (bat out hf hb:Bool) (h1:T.size≤28) (h2:d1.size≤1000001) (h3:d2.size≤1000001) (h4:H.size≤16) (h5:fT.size≤28) (h6:bT.size≤28):(lnT T d1 d2 H fT bT bat out hf hb).size≤3000000:=by
 unfold lnT;cases bat<;>cases out<;>cases hf<;>cases hb<;>simp only [cond_true,cond_false,Bool.not_true,Bool.not_false,Bool.and_true,Bool.and_false,ByteArray.size_append,zz]<;>omega
def KP (a:Int):Bool:=iLe 0 a&&iLe a 1000000
theorem tq (b c:Int):rZ b c=(KP b&&KP c):=by unfold rZ KP;rw [Bool.and_assoc]
def RX (a:Int):ByteArray:=Rl (min a.toNat 1000000)
theorem L9 (a:Int):(RX a).size≤1000001:=ek (Nat.min_le_right _ _)
theorem fP {N:Nat} {a:Int} (h:KP a=true):G6 N [.int a]=some [.str (RX a)]:=by
 simp only [KP,iLe,zzj,decide_eq_true_eq] at h;obtain ⟨n,rfl⟩:∃ n:Nat,a=n:=⟨a.toNat,by omega⟩;unfold RX;rw [Int.toNat_natCast,Nat.min_eq_left (by omega)];exact dz (by omega)
theorem jF {N:Nat} (hN:2097152<N) {a:Int} (h:KP a=true):Fc N [.int a]=some [.str (RX a)]:=by
 simp only [KP,iLe,zzj,decide_eq_true_eq] at h;obtain ⟨n,rfl⟩:∃ n:Nat,a=n:=⟨a.toNat,by omega⟩;unfold RX;rw [Int.toNat_natCast,Nat.min_eq_left (by omega)];exact gE hN (by omega)
def inS (n lo:Int) (Q:Rows):Bool:=iLe lo n&&iLe n (Q.length:Int)
theorem Zo {N:Nat} {n lo:Int} {s:ByteArray} {Q:Rows} {c k:Int}:Hg N [.int n,.int lo,.str s,.rows Q,.int c,.int k]=some [.bool (inS n lo Q)]:=by
 show Hb (std (O2 N) N) (xOf _)=_;simp only [Hb,lq9,std,xOf,PXb];rfl
theorem kS {N:Nat} {n lo:Int} {s:ByteArray} {Q:Rows} {c k:Int}:JC N [.int n,.int lo,.str s,.rows Q,.int c,.int k]=some [.bool (inS n lo Q)]:=by
 show MM (std (Tw N) N) (xOf _)=_;simp only [MM,lq9,std,xOf,PXb];rfl
def Lp (f:Nat→ByteArray):Nat→ByteArray
 | 0=>CL
 | n+1=>Lp f n++f n
theorem Ux {f:Nat→ByteArray} (h:∀ i,(f i).size≤3000000):∀ n,(Lp f n).size≤n * 3000000
 | 0=>Nat.zero_le _
 | n+1=>by
  have a:=Ux h n;have b:=h n;show (Lp f n++f n).size≤_;rw [ByteArray.size_append];omega
def Am (C:Rows) (i j:Nat):Int:=pvI (AB C i j)
def Iv (C:Rows) (i j:Nat):Bool:=pvB (AB C i j)
theorem jS (C:Rows) (i j:Nat):pvI (AB C i j)=Am C i j:=rfl
theorem fU (C:Rows) (i j:Nat):pvB (AB C i j)=Iv C i j:=rfl
def lnE (C Q F:Rows) (i:Nat):Option (List PV) :=
  cond (inS (Am C i 0) 1 Q&&(inS (Am C i 7) 0 F&&(inS (Am C i 8) 0 F&&(KP (Am C i 1)&&KP (Am C i 2)))))
    (cond (Iv C i 5&&sEq (TH (Am C i 6)) CL) (some [.str CL,.int 3]) none) (some [.str CL,.int 2])
def lnS (C Q F:Rows) (qc qk fc fk:Int) (i:Nat):ByteArray :=
 lnT (Di Q qc qk (Am C i 0)) (RX (Am C i 1)) (RX (Am C i 2)) (TH (Am C i 6)) (Di F fc fk (Am C i 8)) (Di F fc fk (Am C i 7)) (Iv C i 9) (Iv C i 5) (iLt 0 (Am C i 8)) (iLt 0 (Am C i 7))
theorem Zp {C Q F:Rows} {qc qk fc fk:Int} (hQ:PW Q) (hF:PW F) (i:Nat):(lnS C Q F qc qk fc fk i).size≤3000000 :=
 rX _ _ _ _ (HY hQ _ _ _) (L9 _) (L9 _) (WZ _) (HY hF _ _ _) (HY hF _ _ _)
def gP (C:Rows) (n1:ByteArray) (Q:Rows) (qc qk:Int) (n2:ByteArray) (F:Rows) (fc fk:Int):List PV :=
  cond (!(IV n1 Q qc qk==0)) [.str CL,.int (IV n1 Q qc qk)] (cond (!(IV n2 F fc fk==0)) [.str CL,.int (IV n2 F fc fk)]
    (match A5 (lnE C Q F) C.length 0 with | some r=>r | none=>[.str (Lp (lnS C Q F qc qk fc fk) C.length),.int 0]))
theorem mP {C Q F:Rows} {i:Nat} {r:List PV} (h:lnE C Q F i=some r):∃ e,r=[.str CL,.int e]:=by
 unfold lnE at h;cases ha:(inS (Am C i 0) 1 Q&&(inS (Am C i 7) 0 F&&(inS (Am C i 8) 0 F&&(KP (Am C i 1)&&KP (Am C i 2))))) with
 | false=>rw [ha] at h;cases h;exact ⟨_,rfl⟩
 | true =>
  rw [ha] at h;cases hb:(Iv C i 5&&sEq (TH (Am C i 6)) CL) with
  | false=>rw [hb] at h;cases h
  | true=>rw [hb] at h;cases h;exact ⟨_,rfl⟩
theorem lw (a b:ByteArray):(a.toList==b.toList)=sEq a b:=rfl
theorem jG:(⟨#[]⟩:ByteArray)=CL:=rfl
def ng (n1:ByteArray) (Q:Rows) (qc qk:Int) (n2:ByteArray) (F:Rows) (fc fk:Int):Nat→Option (List PV)
 | 0=>cond (!(IV n1 Q qc qk==0)) (some [.str CL,.int (IV n1 Q qc qk)]) none
 | _=>cond (!(IV n2 F fc fk==0)) (some [.str CL,.int (IV n2 F fc fk)]) none
set_option maxHeartbeats 8000000 in
theorem dR {N : Nat} {C Q F : Rows} {n1 n2 : ByteArray} {qc qk fc fk : Int} (hN : 2097152 < N) (h1 : n1.size ≤ 1048576) (h2 : n2.size ≤ 1048576) (tQ : PW Q) (tF : PW F) (hC : C.length ≤ 11) :
    CJ N [.rows C,.str n1,.rows Q,.int qc,.int qk,.str n2,.rows F,.int fc,.int fk]=some (gP C n1 Q qc qk n2 F fc fk):=by
  show HC (std (BR N) N) (xOf _)=_;simp only [HC,Pi,Na,Mi,NY,Pt,PO,lq9,std,xOf,PXb,Zo,YJ,aD hN,Pp tQ,Pp tF];obtain ⟨W,hW⟩:∃ W:Rows,W=[[.str n1,.rows Q,.int qc,.int qk],[.str n2,.rows F,.int fc,.int fk]]:=⟨_,rfl⟩;have wl:W.length=2:=by rw [hW];rfl
  have a0:pvS (AB W 0 0)=n1:=by rw [hW];rfl
  have a1:pvL (AB W 0 1)=Q:=by rw [hW];rfl
  have a2:pvI (AB W 0 2)=qc:=by rw [hW];rfl
  have a3:pvI (AB W 0 3)=qk:=by rw [hW];rfl
  have b0:pvS (AB W 1 0)=n2:=by rw [hW];rfl
  have b1:pvL (AB W 1 1)=F:=by rw [hW];rfl
  have b2:pvI (AB W 1 2)=fc:=by rw [hW];rfl
  have b3:pvI (AB W 1 3)=fk:=by rw [hW];rfl
  simp only [← hW];refine AU (Bp (len:=2) (ng n1 Q qc qk n2 F fc fk) ?_ ?_ 2 0 N rfl (by omega)) ?_
  · intro self;simp only [PXb,wl,A2]
  · intro i self hi;simp only [PXb,wl,Ax (show i≤1099511627776 by omega),Av hi,AN hi]
    rcases (show i=0∨i=1 by omega) with rfl | rfl
    · simp only [a0,a1,a2,a3,Vx hN h1 tQ,ng,PXb];cases IV n1 Q qc qk==0<;>rfl
    · simp only [b0,b1,b2,b3,Vx hN h2 tF,ng,PXb];cases IV n2 F fc fk==0<;>rfl
  unfold gP;simp only [A5,ng];cases IV n1 Q qc qk==0 with
  | false=>rfl
  | true =>
    cases IV n2 F fc fk==0 with
    | false=>rfl
    | true =>
      simp only [PXb,QX];refine AU (aE (len:=C.length) (fun i=>[.int (i:Int),.bool true,.rows (Ar (Lp (lnS C Q F qc qk fc fk) i))]) (lnE C Q F) [.bool true,.rows (Ar (Lp (lnS C Q F qc qk fc fk) C.length))] ?_ ?_ C.length 0 N (by omega) (by omega)) ?_
      · intro self;simp only [PXb,A2]
      · intro i self hi;have sA:(Lp (lnS C Q F qc qk fc fk) i).size≤33000000:=Nat.le_trans (Ux (Zp tQ tF) i) (by omega);have s1:=HY tQ qc qk (Am C i 0);have s2:=L9 (Am C i 1);have s3:=L9 (Am C i 2);have s4:=WZ (Am C i 6);have s5:=HY tF fc fk (Am C i 8);have s6:=HY tF fc fk (Am C i 7);simp only [PXb,Cv (show i≤1099511627776 by omega),Av hi,AN hi,jS,fU,tq,Lp,lnE,lnS,lw,jG];cases inS (Am C i 0) 1 Q with
        | false=>rfl
        | true =>
          cases inS (Am C i 7) 0 F with
          | false=>rfl
          | true =>
            cases inS (Am C i 8) 0 F with
            | false=>rfl
            | true =>
              cases c1:KP (Am C i 1) with
              | false=>rfl
              | true =>
                cases c2:KP (Am C i 2) with
                | false=>rfl
                | true =>
                  simp only [PXb,Bool.not_true,Bool.not_false,fP c1,fP c2];generalize Di Q qc qk (Am C i 0)=T at s1 ⊢;generalize RX (Am C i 1)=d1 at s2 ⊢;generalize RX (Am C i 2)=d2 at s3 ⊢;generalize TH (Am C i 6)=H at s4 ⊢;generalize Di F fc fk (Am C i 8)=fT at s5 ⊢;generalize Di F fc fk (Am C i 7)=bT at s6 ⊢;generalize Lp (lnS C Q F qc qk fc fk) i=A at sA ⊢;have p:∀ b p q:Option (List PV),True:=fun _ _ _=>trivial
                  cases Iv C i 5 with
                  | false =>
                    cases Iv C i 9<;>simp (disch:=((try simp only [ByteArray.size_append,zz]);omega)) only [PXb,Bool.not_true,Bool.not_false,ej,Xb,smZ,lnT,OB,Rf]
                  | true =>
                    simp only [PXb,Bool.not_true,Bool.not_false];cases sEq H CL with
                    | true=>rfl
                    | false =>
                      cases Iv C i 9<;>cases iLt 0 (Am C i 8)<;>cases iLt 0 (Am C i 7)<;>simp (disch:=((try simp only [ByteArray.size_append,zz]);omega)) only [PXb,PXb,PXc,PXn,AG,Bool.not_true,Bool.not_false,sD,ej,Xb,smZ,lnT,OB,Rf]
      · have sA:(Lp (lnS C Q F qc qk fc fk) C.length).size≤33000000:=Nat.le_trans (Ux (Zp tQ tF) C.length) (by omega);cases hf:A5 (lnE C Q F) C.length 0 with
        | some r =>
          obtain ⟨j,_,_,h3⟩:=Ha _ _ hf;obtain ⟨e,rfl⟩:=mP h3;rfl
        | none =>
          simp only [PXb,Xb,smZ (Nat.le_trans sA (by omega)),oh,pW];rfl
set_option maxHeartbeats 8000000 in
theorem mz {N : Nat} {C Q F : Rows} {n1 n2 : ByteArray} {qc qk fc fk : Int} (hN : 2097152 < N) (h1 : n1.size ≤ 1048576) (h2 : n2.size ≤ 1048576) (tQ : PW Q) (tF : PW F) (hC : C.length ≤ 11) (hh : ∀ i, 0 ≤ Am C i 6) :
    Qi N [.rows C,.str n1,.rows Q,.int qc,.int qk,.str n2,.rows F,.int fc,.int fk]=some (gP C n1 Q qc qk n2 F fc fk):=by
  show QO (std (Dc N) N) (xOf _)=_;have sm:∀ a:Int,IP N [.int a]=some [.bool (KP a)]:=fun a=>kj
  simp only [QO,Uw,Tr,U0,Ne,U1,Km,lq9,std,xOf,PXb,ZE hN h1 tQ,ZE hN h2 tF,kS,sm,Yh tQ,Yh tF];unfold gP;cases IV n1 Q qc qk==0 with
  | false=>rfl
  | true =>
    cases IV n2 F fc fk==0 with
    | false=>rfl
    | true =>
      simp only [PXb,Bool.not_true];refine AU (aE (len:=C.length) (fun i=>[.str (Lp (lnS C Q F qc qk fc fk) i),.int (i:Int)]) (lnE C Q F) [.str (Lp (lnS C Q F qc qk fc fk) C.length)] ?_ ?_ C.length 0 N (by omega) (by omega)) ?_
      · intro self;simp only [PXb,A2]
      · intro i self hi;have sA:(Lp (lnS C Q F qc qk fc fk) i).size≤33000000:=Nat.le_trans (Ux (Zp tQ tF) i) (by omega);have s1:=HY tQ qc qk (Am C i 0);have s2:=L9 (Am C i 1);have s3:=L9 (Am C i 2);have s4:=WZ (Am C i 6);have s5:=HY tF fc fk (Am C i 8);have s6:=HY tF fc fk (Am C i 7);have ih:=hh i;simp only [PXb,Cv (show i≤1099511627776 by omega),Av hi,AN hi,jS,fU,Lp,lnE,lnS,lw,jG,Ne,nO ih];have p8:(!(Am C i 8==0))=true→inS (Am C i 8) 0 F=true→iLt 0 (Am C i 8)=true:=fun h g=>by
          simp only [inS,iLe,iLt,zzj,decide_eq_true_eq,Bool.not_eq_true',beq_eq_false_iff_ne] at h g ⊢;omega
        have p7:(!(Am C i 7==0))=true→inS (Am C i 7) 0 F=true→iLt 0 (Am C i 7)=true:=fun h g=>by
          simp only [inS,iLe,iLt,zzj,decide_eq_true_eq,Bool.not_eq_true',beq_eq_false_iff_ne] at h g ⊢;omega
        have q8:(!(Am C i 8==0))=false→iLt 0 (Am C i 8)=false:=fun h=>by
          simp only [iLt,decide_eq_false_iff_not,Bool.not_eq_false',beq_iff_eq] at h ⊢;omega
        have q7:(!(Am C i 7==0))=false→iLt 0 (Am C i 7)=false:=fun h=>by
          simp only [iLt,decide_eq_false_iff_not,Bool.not_eq_false',beq_iff_eq] at h ⊢;omega
        cases inS (Am C i 0) 1 Q with
        | false=>rfl
        | true =>
          cases i7:inS (Am C i 7) 0 F with
          | false=>rfl
          | true =>
            cases i8:inS (Am C i 8) 0 F with
            | false=>rfl
            | true =>
              cases c1:KP (Am C i 1) with
              | false=>rfl
              | true =>
                cases c2:KP (Am C i 2) with
                | false=>rfl
                | true =>
                  simp only [PXb,Bool.not_true,Bool.not_false,Km,jF hN c1,jF hN c2];generalize Di Q qc qk (Am C i 0)=T at s1 ⊢;generalize RX (Am C i 1)=d1 at s2 ⊢;generalize RX (Am C i 2)=d2 at s3 ⊢;generalize TH (Am C i 6)=H at s4 ⊢;generalize Di F fc fk (Am C i 8)=fT at s5 ⊢;generalize Di F fc fk (Am C i 7)=bT at s6 ⊢;generalize Lp (lnS C Q F qc qk fc fk) i=A at sA ⊢;cases Iv C i 5 with
                  | false =>
                    cases Iv C i 9<;>simp (disch:=((try simp only [ByteArray.size_append,zz]);omega)) only [PXb,Bool.not_true,Bool.not_false,smZ,lnT,OB,Rf,tL]
                  | true =>
                    simp only [PXb,Bool.not_true,Bool.not_false];cases sEq H CL with
                    | true=>rfl
                    | false =>
                      cases e8:(!(Am C i 8==0)) with
                      | false =>
                        cases e7:(!(Am C i 7==0)) with
                        | false =>
                          cases Iv C i 9<;>simp (disch:=((try simp only [ByteArray.size_append,zz]);omega)) only [PXb,q8 e8,q7 e7,Bool.not_true,Bool.not_false,smZ,lnT,OB,Rf]
                        | true =>
                          cases Iv C i 9<;>simp (disch:=((try simp only [ByteArray.size_append,zz]);omega)) only [PXb,q8 e8,p7 e7 i7,Bool.not_true,Bool.not_false,smZ,lnT,OB,Rf]
                      | true =>
                        cases e7:(!(Am C i 7==0)) with
                        | false =>
                          cases Iv C i 9<;>simp (disch:=((try simp only [ByteArray.size_append,zz]);omega)) only [PXb,p8 e8 i8,q7 e7,Bool.not_true,Bool.not_false,smZ,lnT,OB,Rf]
                        | true =>
                          cases Iv C i 9<;>simp (disch:=((try simp only [ByteArray.size_append,zz]);omega)) only [PXb,p8 e8 i8,p7 e7 i7,Bool.not_true,Bool.not_false,smZ,lnT,OB,Rf]
      · cases hf:A5 (lnE C Q F) C.length 0 with
        | some r =>
          obtain ⟨j,_,_,h3⟩:=Ha _ _ hf;obtain ⟨e,rfl⟩:=mP h3;rfl
        | none=>rfl
def Iw (L:Rows):Nat→Rows
 | 0=>[]
 | n+1=>Iw L n++[[.str (OW (pvS (AB (cut L 12) n 0)) 20)]]
theorem Uu (L:Rows):∀ n,(Iw L n).length=n
 | 0=>rfl
 | n+1=>by
  show (Iw L n++_).length=_;rw [List.length_append,Uu L n];rfl
theorem eH (s:ByteArray):(OW s 20).size≤20:=by
 unfold OW;rw [ByteArray.size_extract];cases h:iLt 20 (s.size:Int) with
 | true=>simp only [cond_true];omega
 | false =>
  simp only [iLt,decide_eq_false_iff_not] at h;simp only [cond_false];omega
theorem eM (L:Rows):∀ n,n≤1048576→PW (Iw L n)
 | 0,_=>⟨Nat.zero_le _,fun i=>Nat.zero_le _⟩
 | n+1,h=>by
  have ih:=eM L n (by omega);refine ⟨by rw [Uu];exact h,fun i=>?_⟩;have hl:=Uu L n;show (pvS (AB (Iw L n++[[.str (OW (pvS (AB (cut L 12) n 0)) 20)]]) i 0)).size≤20
  by_cases e:i<n
  ·have:AB (Iw L n++[[.str (OW (pvS (AB (cut L 12) n 0)) 20)]]) i 0=AB (Iw L n) i 0:=by
    unfold AB Aa;simp only [zzk];rw [List.getElem?_append_left (by omega)]
   rw [this];exact ih.2 i
  ·by_cases e2:i=n
   ·have:AB (Iw L n++[[.str (OW (pvS (AB (cut L 12) n 0)) 20)]]) i 0=.str (OW (pvS (AB (cut L 12) n 0)) 20):=by
     unfold AB Aa;simp only [zzk];rw [List.getElem?_append_right (by omega),hl,e2,Nat.sub_self];rfl
    rw [this];exact eH _
   ·have:AB (Iw L n++[[.str (OW (pvS (AB (cut L 12) n 0)) 20)]]) i 0=.int 0:=by
     unfold AB Aa;simp only [zzk];rw [List.getElem?_eq_none (by rw [List.length_append,hl];simp;omega)];rfl
    rw [this];exact Nat.zero_le _
theorem nW (L:Rows):(cut L 12).length≤12:=pC L 12
set_option maxHeartbeats 2000000 in
theorem kl {N:Nat} {n:ByteArray} {L:Rows} {c k:Int} (hN:2097152<N):Od N [.str n,.rows L,.int c,.int k]=some [.str (OW n 20),.rows (Iw L (cut L 12).length),.int c,.int k]:=by
 show Oc (std (WD N) N) (xOf _)=_;have cc:(L.take (cond (iLt 12 (L.length:Int)) 12 (L.length:Int)).toNat).drop (0:Int).toNat=cut L 12:=rfl;have cs:∀ s:ByteArray,s.extract (0:Int).toNat (cond (iLt 20 (s.size:Int)) 20 (s.size:Int)).toNat=OW s 20:=fun _=>rfl
 simp only [Oc,lq9,std,xOf,PXb,gX (show (0:Int)≤12 by omega),gX (show (0:Int)≤20 by omega),cc,cs];have c12:=nW L;refine AU (ED (len:=(cut L 12).length) (fun i=>[.rows (Iw L i),.int (i:Int)]) [.rows (Iw L (cut L 12).length)] ?_ ?_ N (by omega)) rfl
 ·intro self;simp only [PXb,A2]
 ·intro i self hi;have s16:iSm (((Iw L i++[[PV.str (OW (pvS (AB (cut L 12) i 0)) 20)]]).length:Nat):Int) 16=true:=DV (by rw [List.length_append,Uu];simp;omega) (by omega);simp only [PXb,Cv (show i≤1099511627776 by omega),Av hi,AN hi,gX (show (0:Int)≤20 by omega),cs,s16,Iw]
theorem rD (L:Rows) (n:Int) (hh:∀ i,0≤pvI (AB L i 6)) (i:Nat):0≤Am (cut L n) i 6:=by
 unfold Am cut;rw [show (0:Int).toNat=0 from rfl,List.drop_zero];generalize (cond (iLt n (L.length:Int)) n (L.length:Int)).toNat=k
 by_cases h:i<k
 ·have:=hh i;unfold AB Aa at *
  simp only [zzk] at *
  rw [List.getElem?_take_of_lt h];exact this
 ·unfold AB Aa;simp only [zzk];rw [List.getElem?_eq_none (by rw [List.length_take];omega)];exact Int.le_refl 0
set_option maxHeartbeats 4000000 in
theorem Wp {N : Nat} {C Q F : Rows} {n1 n2 : ByteArray} {qc qk fc fk : Int} (ha : Kh N [] = some [.bool true]) (hN : 2097152 < N) (hh : ∀ i, 0 ≤ pvI (AB C i 6)) :
    Dk N [.rows C,.str n1,.rows Q,.int qc,.int qk,.str n2,.rows F,.int fc,.int fk]=some [.bool true]:=by
  show Dm (std (BC N) N) (xOf _)=_;have tQ:=eM Q (cut Q 12).length (by have:=nW Q;omega);have tF:=eM F (cut F 12).length (by have:=nW F;omega);have z1:(OW n1 20).size≤1048576:=Nat.le_trans (eH n1) (by omega);have z2:(OW n2 20).size≤1048576:=Nat.le_trans (eH n2) (by omega);have l:(cut C 11).length≤11:=pC C 11;simp only [Dm,OY,PY,MK,N9,O9,lq9,std,xOf,PXb,ha,pA,kl hN,dR hN z1 z2 tQ tF l,mz hN z1 z2 tQ tF l (rD C 11 hh)];simp only [PXb,Bool.not_true,beq_self_eq_true]
end Go.Px
end
section
namespace Go.Proofs
open Go.Shelf
def Tryz.laysM246_ren:Go.Shelf.Ren:=⟨fun | 246=>101 | 283=>123 | 284=>124 | 285=>125 | 286=>126 | 129=>155 | 317=>154 | 318=>156 | 319=>157 | 320=>158 | 337=>182 | 338=>183 | n=>n,fun | 2=>2 | 3=>3 | 9=>9 | 4=>4 | 171=>181 | 0=>0 | 53=>166 | 37=>109 | 5=>5 | 173=>184 | 212=>202 | 51=>203 | 20=>20 | 213=>204 | 46=>205 | 232=>229 | 233=>230 | n=>n,fun | 17=>0 | 18=>1 | 19=>2 | n=>n⟩
theorem Tryz.laysM246:Go.Proofs.LaysM.n246 Tryz.prog Tryz.laysM246_ren:={
  mixed:=by kernel_rfl
  f129:=Tryz.func155.trans (congrArg some (by kernel_rfl))
  f246:=Tryz.func101.trans (congrArg some (by kernel_rfl))
  f283:=Tryz.func123.trans (congrArg some (by kernel_rfl))
  f284:=Tryz.func124.trans (congrArg some (by kernel_rfl))
  f285:=Tryz.func125.trans (congrArg some (by kernel_rfl))
  f286:=Tryz.func126.trans (congrArg some (by kernel_rfl))
  f317:=Tryz.func154.trans (congrArg some (by kernel_rfl))
  f318:=Tryz.func156.trans (congrArg some (by kernel_rfl))
  f319:=Tryz.func157.trans (congrArg some (by kernel_rfl))
  f320:=Tryz.func158.trans (congrArg some (by kernel_rfl))
  f337:=Tryz.func182.trans (congrArg some (by kernel_rfl))
  f338:=Tryz.func183.trans (congrArg some (by kernel_rfl))
  t0:=Tryz.underlying0
  a0:=Tryz.isAgg0
  z0:=Tryz.sizeOf0
  v0:=Tryz.zeroValue0
  t2:=Tryz.underlying2
  a2:=Tryz.isAgg2
  z2:=Tryz.sizeOf2
  v2:=Tryz.zeroValue2
  t3:=Tryz.underlying3
  a3:=Tryz.isAgg3
  z3:=Tryz.sizeOf3
  v3:=Tryz.zeroValue3
  t4:=Tryz.underlying4
  a4:=Tryz.isAgg4
  z4:=Tryz.sizeOf4
  v4:=Tryz.zeroValue4
  t5:=Tryz.underlying5
  a5:=Tryz.isAgg5
  z5:=Tryz.sizeOf5
  v5:=Tryz.zeroValue5
  t9:=Tryz.underlying9
  a9:=Tryz.isAgg9
  z9:=Tryz.sizeOf9
  v9:=Tryz.zeroValue9
  t20:=Tryz.underlying20
  a20:=Tryz.isAgg20
  z20:=Tryz.sizeOf20
  v20:=Tryz.zeroValue20
  t37:=Tryz.underlying109
  a37:=Tryz.isAgg109
  z37:=Tryz.sizeOf109
  v37:=Tryz.zeroValue109
  t46:=Tryz.underlying205
  a46:=Tryz.isAgg205
  z46:=Tryz.sizeOf205
  v46:=Tryz.zeroValue205
  t51:=Tryz.underlying203
  a51:=Tryz.isAgg203
  z51:=Tryz.sizeOf203
  v51:=Tryz.zeroValue203
  t53:=Tryz.underlying166
  a53:=Tryz.isAgg166
  z53:=Tryz.sizeOf166
  v53:=Tryz.zeroValue166
  t171:=Tryz.underlying181
  a171:=Tryz.isAgg181
  z171:=Tryz.sizeOf181
  v171:=Tryz.zeroValue181
  t173:=Tryz.underlying184
  a173:=Tryz.isAgg184
  z173:=Tryz.sizeOf184
  v173:=Tryz.zeroValue184
  t212:=Tryz.underlying202
  a212:=Tryz.isAgg202
  z212:=Tryz.sizeOf202
  v212:=Tryz.zeroValue202
  t213:=Tryz.underlying204
  a213:=Tryz.isAgg204
  z213:=Tryz.sizeOf204
  t232:=Tryz.underlying229
  a232:=Tryz.isAgg229
  z232:=Tryz.sizeOf229
  v232:=Tryz.zeroValue229
  t233:=Tryz.underlying230
  a233:=Tryz.isAgg230
  z233:=Tryz.sizeOf230
  v233:=Tryz.zeroValue230
  g17:=by kernel_rfl
  g18:=by kernel_rfl
  g19:=by kernel_rfl
  i0:=by kernel_rfl
  i2:=by kernel_rfl
  i3:=by kernel_rfl
  i4:=by kernel_rfl
  i5:=by kernel_rfl
  i9:=by kernel_rfl
  i20:=by kernel_rfl
  i37:=by kernel_rfl
  i46:=by kernel_rfl
  i51:=by kernel_rfl
  i53:=by kernel_rfl
  i171:=by kernel_rfl
  i173:=by kernel_rfl
  i212:=by kernel_rfl
  i232:=by kernel_rfl
  i233:=by kernel_rfl
  m17:=by kernel_rfl
  m18:=by kernel_rfl
  m19:=by kernel_rfl }
open Go.RowKit Go.Sort Go.Lib in
theorem Tryz.internal_strconv_FormatInt_10 (n : Int) (h0 : -9223372036854775808 ≤ n) (h1 : n ≤ 9223372036854775807) (w : World) (htab : Lib.TabIs Tryz.prog w "internal/strconv.uint64pow10" .u64 Lib.pow10Tab) :
    Calls Tryz.prog 101 #[.int .i64 n,.int .i64 10] w fun e w'=>e=.returned (.string ⟨(Lib.itoa n).toArray⟩)∧∃ k os,w'=grow (w.drewN k) os:=Any.internal_strconv_FormatInt_10 Tryz.laysM246 n h0 h1 w htab
end Go.Proofs
end
section
namespace Go.Px
open Go.Lib Go.RowKit
section
variable {P:Program} {w:World}
theorem BufAt.kept {w':World} {e:TypeId} {v:Value} {bs:List Value} (h:BufAt w e v bs) (hw:∀ g,v.ownBlock=some g→w'.heap[g]?=w.heap[g]?):BufAt w' e v bs:=by
 rcases h with h | ⟨g,cap,cur,h1,h2,h3⟩
 ·exact .inl h
 ·exact .inr ⟨g,cap,cur,h1,(hw g (by rw [h1];rfl)).trans h2,h3⟩
theorem SS (e : TypeId) (xs : List Value) (hx : 0 < xs.length) (old : Nat) (row : Option Nat) :
    BufAt (w.drew.alloc (.cells (xs.toArray++Builtin.zeroCells (Value.int .u8 0).cells (grownCap w xs.length old e - xs.length)) e)) e (.slice (some ⟨w.heap.size,0,none⟩) xs.length (grownCap w xs.length old e)) xs ∧
      w.grownBy (w.drew.alloc (.cells (xs.toArray++Builtin.zeroCells (Value.int .u8 0).cells (grownCap w xs.length old e - xs.length)) e)) row:=by
  have hge:=grownCap_ge w xs.length old e;refine ⟨.inr ⟨w.heap.size,_,_,rfl,heap_alloc_new w.drew _,by omega,hge,?_,?_⟩,⟨rfl,rfl,rfl,by simp,fun k hk _=>Lib.alloc_old w.drew _ k hk⟩⟩
  · have hz1:(Value.int IntKind.u8 0).cells.size=1:=rfl;simp only [Array.size_append,List.size_toArray,size_zeroCells,hz1];omega
  · simp only [Array.toList_append];exact List.take_left
theorem dW (t u ty e : TypeId) (i : TypeInfo) (ht : P.underlying t = some (.slice e)) (hu : P.underlying u = some .string) (hi : P.info? e = some i) (hz : i.zero = some (.int .u8 0))
    (hsize:i.size=1) (hby:i.bytes=1) (v:Value) (xs:List Value) (h:BufAt w e v xs) (s:ByteArray) (hb:xs.length+s.size≤140737488355328) :
    ∃ v' w',(Builtin.append_ #[t,u] ty #[v,.string s]).run P w=.ok v' w'∧BufAt w' e v' (xs++strCells s)∧w.grownBy w' v.ownBlock∧Qv w v v':=by
  have hlen:(xs++strCells s).length=xs.length+s.size:=by rw [List.length_append,strCells_length]
  rcases h with ⟨rfl,rfl⟩ | ⟨g,cap,cur,rfl,hg,hc0,hnc,hcs,htake⟩
  · by_cases hm:s.size=0
    · have hn:strCells s=[]:=List.eq_nil_of_length_eq_zero (by rw [strCells_length];exact hm);refine ⟨.slice none 0 0,w,?_,by rw [hn];exact .inl ⟨rfl,rfl⟩,⟨rfl,rfl,rfl,Nat.le_refl _,fun _ _ _=>rfl⟩,.inl rfl⟩;have hf:=run_firstCells_string (P:=P) w 1 s;rw [hm] at hf;simp [Builtin.append_,run_underlying ht,run_underlying hu,sizeOf,typeInfo,hi,hsize,Builtin.lenOf,hm,hf]
    · have hr:=run_append_nil_string (P:=P) w t u ty e i (.int .u8 0) ht hu hi hz s (by omega) (by simp at hb;omega) (by rw [hby];simp at hb;omega);have e1:(s.data.map fun b=>Value.int .u8 b.toNat)=(strCells s).toArray:=by
        apply Array.ext';simp [strCells]
      rw [e1] at hr;have hgr:=SS (w:=w) e (strCells s) (by rw [strCells_length];omega) 0 (Value.ownBlock (.slice none 0 0));rw [strCells_length] at hgr;simp only [List.nil_append] at hgr ⊢;exact ⟨_,_,hr,hgr.1,hgr.2,.inr ⟨_,rfl,Nat.le_refl _⟩⟩
  · by_cases hroom:xs.length+s.size≤cap
    · have hr:=run_append_room_string (P:=P) w t u ty e i ht hu hi hsize g xs.length cap cur hg s hroom (by omega);refine ⟨_,_,hr,.inr ⟨g,cap,_,by rw [hlen],setRow_heap w g cur _ e _ hg,hc0,by rw [hlen];exact hroom,?_,?_⟩,⟨rfl,rfl,rfl,by simp,fun k _ hk=>setRow_other w g k _ (fun e=>hk (by simp [Value.ownBlock,e]))⟩,.inl rfl⟩
      · simp only [List.size_toArray,List.length_append,List.length_take,List.length_drop,Array.length_toList,strCells_length];omega
      · simp only [];rw [htake,List.take_left]
    · have holds : ∀ j u, xs[j]? = some u → w.cell? ((⟨g, 0, none⟩ : Addr).add j) = some u := fun j u hj => by
        have hjl:j<xs.length:=(List.getElem?_eq_some_iff.1 hj).1;rw [← htake,List.getElem?_take] at hj;rw [if_pos hjl] at hj;rw [Hm];simpa [World.cell?,hg] using hj
      have hr:=run_append_grow_string (P:=P) w t u ty e i (.int .u8 0) ht hu hi hz ⟨g,0,none⟩ xs.length cap xs (by rw [hsize];simp) holds s (by omega) (by omega) (by rw [hby];exact growslice_fits (by omega) (by omega));have hgr:=SS (w:=w) e (xs++strCells s) (by rw [hlen];omega) cap (Value.ownBlock (.slice (some ⟨g,0,none⟩) xs.length cap));rw [hlen] at hgr;rw [← List.append_toArray] at hgr;exact ⟨_,_,hr,hgr.1,hgr.2,.inr ⟨_,rfl,Nat.le_refl _⟩⟩
theorem Z6 (t ty e : TypeId) (i : TypeInfo) (ht : P.underlying t = some (.slice e)) (hi : P.info? e = some i) (hz : i.zero = some (.int .u8 0))
    (hsize:i.size=1) (hby:i.bytes=1) (v:Value) (xs:List Value) (h:BufAt w e v xs) (a:Addr) (c:Nat) (news:List Value) (hn0:0<news.length) (hnews:∀ j u,news[j]?=some u→w.cell? (a.add j)=some u) (h1:∀ u∈news,u.oneCell'=true) (hb:xs.length+news.length≤140737488355328) :
    ∃ v' w',(Builtin.append_ #[t,t] ty #[v,.slice (some a) news.length c]).run P w=.ok v' w'∧BufAt w' e v' (xs++news)∧w.grownBy w' v.ownBlock∧Qv w v v':=by
  have hlen:(xs++news).length=xs.length+news.length:=List.length_append;have hl:news.length=news.length * i.size:=by rw [hsize,Nat.mul_one]
  rcases h with ⟨rfl,rfl⟩ | ⟨g,cap,cur,rfl,hg,hc0,hnc,hcs,htake⟩
  · have hr:=run_append_nil (P:=P) w t ty e i (.int .u8 0) ht hi hz a news.length c news hl hnews hn0 (by simp at hb;omega) (by rw [hby];simp at hb;omega);have hgr:=SS (w:=w) e news hn0 0 (Value.ownBlock (.slice none 0 0));simp only [List.nil_append] at hgr ⊢;exact ⟨_,_,hr,hgr.1,hgr.2,.inr ⟨_,rfl,Nat.le_refl _⟩⟩
  · by_cases hroom:xs.length+news.length≤cap
    · have hr:=run_append_room (P:=P) w t ty e i ht hi g xs.length cap cur hg a news.length c news hl hnews h1 hroom (by rw [hsize];omega);rw [hsize,Nat.mul_one] at hr;refine ⟨_,_,hr,.inr ⟨g,cap,_,by rw [hlen],setRow_heap w g cur _ e _ hg,hc0,by rw [hlen];exact hroom,?_,?_⟩,⟨rfl,rfl,rfl,by simp,fun k _ hk=>setRow_other w g k _ (fun e=>hk (by simp [Value.ownBlock,e]))⟩,.inl rfl⟩
      · simp only [List.size_toArray,List.length_append,List.length_take,List.length_drop,Array.length_toList];omega
      · simp only [];rw [htake,List.take_left]
    · have holds : ∀ j u, xs[j]? = some u → w.cell? ((⟨g, 0, none⟩ : Addr).add j) = some u := fun j u hj => by
        have hjl:j<xs.length:=(List.getElem?_eq_some_iff.1 hj).1;rw [← htake,List.getElem?_take] at hj;rw [if_pos hjl] at hj;rw [Hm];simpa [World.cell?,hg] using hj
      have hr:=run_append_grow (P:=P) w t ty e i (.int .u8 0) ht hi hz ⟨g,0,none⟩ xs.length cap xs (by rw [hsize];simp) holds a news.length c news hl hnews (by omega) (by omega) (by rw [hby];exact growslice_fits (by omega) (by omega));have hgr:=SS (w:=w) e (xs++news) (by rw [hlen];omega) cap (Value.ownBlock (.slice (some ⟨g,0,none⟩) xs.length cap));rw [hlen] at hgr;rw [← List.append_toArray] at hgr;exact ⟨_,_,hr,hgr.1,hgr.2,.inr ⟨_,rfl,Nat.le_refl _⟩⟩
theorem YN {ops : Array Oper} {rest : List Oper} {o : Oper} {a : Act} {Q : Exit → Act → World → Prop} (hgd : o.guard = none) (sl x : Operand) (t u : TypeId)
    (ho:o.op=.call { callee:=.builtin .append,args:=#[sl,x],argTypes:=#[t,u] })
    (e:TypeId) (i:TypeInfo) (ht:P.underlying t=some (.slice e)) (hu:P.underlying u=some .string) (hi:P.info? e=some i) (hz:i.zero=some (.int .u8 0))
    (hsize:i.size=1) (hby:i.bytes=1) (v:Value) (xs:List Value) (hs:a.eval sl=v) (hown:BufAt w e v xs) (s:ByteArray) (hx:a.eval x=.string s) (hb:xs.length+s.size≤140737488355328)
    (h:∀ v' w',BufAt w' e v' (xs++strCells s)→w.grownBy w' v.ownBlock→Qv w v v'→wpList P ops Q rest (a.put o.dst v') w'):wpList P ops Q (o::rest) a w:=by
  refine wpList_plain hgd fun K hK=>?_
  obtain ⟨v',w',hr,h2,h3,h4⟩:=dW (P:=P) (w:=w) t u o.type e i ht hu hi hz hsize hby v xs hown s hb;unfold Oper.wp execOp;simp only [ho,resolve,invoke,builtin,Sem.run_bind,Sem.run_pure,Result.andThen_ok,List.map_toArray,List.map_cons,List.map_nil,hs,hx,hr];exact hK _ _ (h v' w' h2 h3 h4)
theorem WO {ops : Array Oper} {rest : List Oper} {o : Oper} {a : Act} {Q : Exit → Act → World → Prop} (hgd : o.guard = none) (sl x : Operand) (t : TypeId)
    (ho:o.op=.call { callee:=.builtin .append,args:=#[sl,x],argTypes:=#[t,t] })
    (e:TypeId) (i:TypeInfo) (ht:P.underlying t=some (.slice e)) (hi:P.info? e=some i) (hz:i.zero=some (.int .u8 0))
    (hsize:i.size=1) (hby:i.bytes=1) (v:Value) (xs:List Value) (hs:a.eval sl=v) (hown:BufAt w e v xs) (ad:Addr) (m c:Nat) (news:List Value) (hx:a.eval x=.slice (some ad) m c) (hm:news.length=m) (hn0:0<m)
    (hnews:∀ j u,news[j]?=some u→w.cell? (ad.add j)=some u) (h1:∀ u∈news,u.oneCell'=true) (hb:xs.length+news.length≤140737488355328)
    (h:∀ v' w',BufAt w' e v' (xs++news)→w.grownBy w' v.ownBlock→Qv w v v'→wpList P ops Q rest (a.put o.dst v') w'):wpList P ops Q (o::rest) a w:=by
  subst hm;refine wpList_plain hgd fun K hK=>?_
  obtain ⟨v',w',hr,h2,h3,h4⟩:=Z6 (P:=P) (w:=w) t o.type e i ht hi hz hsize hby v xs hown ad c news hn0 hnews h1 hb;unfold Oper.wp execOp;simp only [ho,resolve,invoke,builtin,Sem.run_bind,Sem.run_pure,Result.andThen_ok,List.map_toArray,List.map_cons,List.map_nil,hs,hx,hr];exact hK _ _ (h v' w' h2 h3 h4)
theorem bQ {e T:TypeId} {b:Nat} {v p x:Value} {bs:List Value} (h:BufAt w e v bs) (hb:w.heap[b]?=some (.cells #[p,x] T (0,0))) (hT:T≠e):v.ownBlock≠some b:=by
 rcases h with ⟨rfl,_⟩ | ⟨g,cap,cur,rfl,hg,_⟩
 ·simp [Value.ownBlock]
 ·intro h;simp only [Value.ownBlock,Option.some.injEq] at h;subst h;rw [hg] at hb;simp only [Option.some.injEq,Obj.cells.injEq] at hb;exact hT hb.2.1.symm
def lm (w:World) (T e:TypeId) (b:Nat) (v:Value) (bs:List Value) (w':World):Prop :=
 w'.heap[b]?=some (.cells #[.pointer (some ⟨b,0,none⟩),v] T (0,0))∧BufAt w' e v bs∧Rest w w' b none∧w'.heap.size=w.heap.size
theorem lk (T e : TypeId) (hT : T ≠ e) {b : Nat} {v v' : Value} {bs bs' : List Value} {w w1 w2 w3 : World} (h1 : lm w T e b v bs w1) (hal : w2 = w1 ∨ ∃ o, w2 = w1.alloc o) (hg : w2.grownBy w3 v.ownBlock) (hs : Qv w2 v v') (hb : BufAt w3 e v' bs') (hv : v.ownBlock ≠ some b) :
    Qw w T e b v bs' (w3.setCell ⟨b,1,none⟩ v'):=by
  obtain ⟨hbk,hbuf,hr,hsz⟩:=h1;have hlt:b<w1.heap.size:=A9 hbk;have h12:w1.heap.size≤w2.heap.size∧(∀ k,k<w1.heap.size→w2.heap[k]?=w1.heap[k]?)∧w2.os=w1.os∧w2.tape=w1.tape∧w2.output=w1.output:=by
    rcases hal with rfl | ⟨o,rfl⟩
    · exact ⟨Nat.le_refl _,fun _ _=>rfl,rfl,rfl,rfl⟩
    · exact ⟨by simp,fun k hk=>Lib.alloc_old w1 _ k hk,rfl,rfl,rfl⟩
  obtain ⟨s12,b12,o1,o2,o3⟩:=h12;have hb3:w3.heap[b]?=some (.cells #[.pointer (some ⟨b,0,none⟩),v] T (0,0)):=by rw [hg.block b (by omega) (fun e=>hv e.symm),b12 b hlt];exact hbk
  have hne:=bQ hb hb3 hT;have hset:(w3.setCell ⟨b,1,none⟩ v').heap.size=w3.heap.size:=by simp [World.setCell]
  refine ⟨v',by simp [World.setCell,Array.getElem?_modify,hb3],hb.kept (fun g hgg=>?_),⟨?_,?_,?_,?_,fun k hk hkb hkg=>?_⟩,?_⟩
  · exact Below.heap_setCell _ _ _ _ (fun e=>hne (by rw [hgg];simp at e;rw [e]))
  · exact (hg.os.trans o1).trans hr.os
  · exact (hg.tape.trans o2).trans hr.tape
  · exact (hg.output.trans o3).trans hr.output
  · have:=hg.size;rw [hset];omega
  · rw [Below.heap_setCell _ _ _ _ (fun e=>hkb (by simpa using e)),hg.block k (by omega) (fun e=>hkg e.symm),b12 k (by omega),hr.block k hk hkb (by simp)]
  · rcases hs with hs | ⟨g,h1,h2⟩
    · exact .inl hs
    · exact .inr ⟨g,h1,by omega⟩
theorem kq (w:World) (g n:Nat) (v:Value) (hv:v.ownBlock=some g):ri w v (w.drew.freeze ⟨g,0,none⟩ n):=by
 unfold World.freeze
 split
 ·exact ⟨rfl,rfl,rfl,Nat.le_refl _,fun _ _ _=>rfl⟩
 ·refine ⟨rfl,rfl,rfl,by simp,fun k hk hkv=>?_⟩;simp only [Array.getElem?_modify];rw [if_neg (fun e=>hkv (by rw [hv,e]))];rfl
end
end Go.Px
end
section
namespace Go.Px
open Go.Lib Go.Proofs Go.RowKit
theorem sT:(Tryz.prog.info? 5).map (fun i=>(i.zero,i.size,i.bytes))=some (some (.int .u8 0),1,1):=by kernel_rfl
set_option maxHeartbeats 1000000 in
set_option maxRecDepth 100000 in
theorem tE (b : Nat) (w : World) (h0 : w.cell? ⟨b, 0, none⟩ = some (.pointer (some ⟨b, 0, none⟩))) :
    Calls Tryz.prog 76 #[.pointer (some ⟨b,0,none⟩)] w fun e w'=>e=.returned (.tuple #[])∧w'=w:=by
  obtain ⟨j,hj,_⟩:=zzo.1 (show (Tryz.prog.info? 111).map (·.size)=some 2 by kernel_rfl)
  go_enter Tryz.func76,Tryz.ntmps76
  go_wp2
  rw [Lib.run_neq_ptr_same w _ Tryz.underlying108 hj]
  go_wp2
  go_end0
  exact ⟨rfl,rfl⟩
set_option maxHeartbeats 1000000 in
set_option maxRecDepth 100000 in
theorem rz (b : Nat) (w : World) (h0 : w.cell? ⟨b, 0, none⟩ = some (.pointer none)) (hsh : w.shape? b = some (111, 2)) (hfz : w.frozen? ⟨b, 0, none⟩ = false) :
    Calls Tryz.prog 76 #[.pointer (some ⟨b,0,none⟩)] w fun e w'=>e=.returned (.tuple #[])∧w'=w.setCell ⟨b,0,none⟩ (.pointer (some ⟨b,0,none⟩)):=by
  obtain ⟨j,hj,hjs⟩:=zzo.1 (show (Tryz.prog.info? 111).map (·.size)=some 2 by kernel_rfl)
  go_enter Tryz.func76,Tryz.ntmps76
  go_wp2
  rw [Lib.run_to_unsafe w ⟨b,0,none⟩ Tryz.underlying108 Tryz.underlying164 hj (by rw [hjs];decide) hsh (Nat.zero_lt_succ 1)];simp only [Result.andThen];rw [Oper.upon_value]
  go_wp2
  rw [run_callFunc_extern Tryz.func100 (by kernel_rfl) (by kernel_rfl) (by kernel_rfl) (e:=Extern.AbiNoEscape.same) (by kernel_rfl)];rw [Lib.run_noEscape];simp only [Result.andThen];rw [Oper.upon_value]
  go_wp2
  rw [Lib.run_from_unsafe w ⟨b,0,none⟩ Tryz.underlying164 Tryz.underlying108 hj hsh (by kernel_rfl)];simp only [Result.andThen];rw [Oper.upon_value]
  go_wp2
  go_end0
  exact ⟨rfl,rfl⟩
theorem bE (b : Nat) (v : Value) (bs : List Value) (w : World) (h : QK w 111 5 b v bs) :
    Calls Tryz.prog 76 #[.pointer (some ⟨b,0,none⟩)] w fun e w'=>e=.returned (.tuple #[])∧lm w 111 5 b v bs w':=by
  obtain ⟨⟨p,hb,hp⟩,hbuf⟩:=h;have hne:=bQ hbuf hb (by decide);have c0:w.cell? ⟨b,0,none⟩=some p:=by rw [Lib.cell_of_heap hb];rfl
  rcases hp with rfl | rfl
  · refine (rz b w c0 (by simp [World.shape?,hb]) (Lib.frozen_of_heap hb 0)).mono ?_
    rintro e w' ⟨rfl,rfl⟩
    refine ⟨rfl,by simp [World.setCell,Array.getElem?_modify,hb],hbuf.kept (fun g hg=>?_),⟨rfl,rfl,rfl,by simp [World.setCell],fun k _ hk _=>?_⟩,by simp [World.setCell]⟩
    · exact Below.heap_setCell _ _ _ _ (fun e=>hne (by rw [hg];simp at e;rw [e]))
    · exact Below.heap_setCell _ _ _ _ (fun e=>hk (by simpa using e))
  · refine (tE b w c0).mono ?_
    rintro e w' ⟨rfl,rfl⟩
    exact ⟨rfl,hb,hbuf,⟨rfl,rfl,rfl,Nat.le_refl _,fun _ _ _ _=>rfl⟩,rfl⟩
set_option maxHeartbeats 2000000 in
set_option maxRecDepth 100000 in
theorem j9 (b : Nat) (v : Value) (bs : List Value) (s : ByteArray) (w : World) (h : QK w 111 5 b v bs) (hlen : bs.length + s.size ≤ 140737488355328) :
    Calls Tryz.prog 41 #[.pointer (some ⟨b,0,none⟩),.string s] w fun e w'=>e=.returned (.tuple #[.int .i64 s.size,.nilIface])∧Qw w 111 5 b v (bs++strCells s) w':=by
  obtain ⟨i0,hi,hz0,hz1,hz2⟩:=info_parts sT;have hne0:v.ownBlock≠some b:=by
    obtain ⟨⟨p,hb,hp⟩,hbuf⟩:=h;exact bQ hbuf hb (by decide)
  go_enter Tryz.func41,Tryz.ntmps41
  go_wp2_with (go_at_call 76;refine (bE b v bs _ h).mono ?_)
  rintro e w1 ⟨rfl,hck⟩
  have hbk:=hck.1;have hbuf:=hck.2.1;have c0:w1.cell? ⟨b,0,none⟩=some (.pointer (some ⟨b,0,none⟩)):=by rw [Lib.cell_of_heap hbk];rfl
  have c1:w1.cell? ⟨b,1,none⟩=some v:=by rw [Lib.cell_of_heap hbk];rfl
  go_wp2_with (at_builtin;refine YN rfl _ _ 109 9 rfl 5 i0 Tryz.underlying109 Tryz.underlying9 hi hz0 hz1 hz2 v bs rfl hbuf s rfl hlen ?_)
  intro v' w2 hown' hgrow hsame;have hlt:b<w1.heap.size:=A9 hbk;have hb2:w2.heap[b]?=some (.cells #[.pointer (some ⟨b,0,none⟩),v] 111 (0,0)):=by
    rw [hgrow.block b hlt (fun e=>hne0 e.symm)];exact hbk
  have d0:w2.cell? ⟨b,0,none⟩=some (.pointer (some ⟨b,0,none⟩)):=by rw [Lib.cell_of_heap hb2];rfl
  have d1:w2.cell? ⟨b,1,none⟩=some v:=by rw [Lib.cell_of_heap hb2];rfl
  have f1:w2.frozen? ⟨b,1,none⟩=false:=Lib.frozen_of_heap hb2 1;have hw:=lk 111 5 (by decide) hck (.inl rfl) hgrow hsame hown' hne0;obtain ⟨ao,n',cap,rfl⟩:∃ ao n' cap,v'=.slice ao n' cap:=by
    rcases hown' with ⟨hv,_⟩ | ⟨g,cap,cur,hv,_⟩
    · exact ⟨_,_,_,hv⟩
    · exact ⟨_,_,_,hv⟩
  go_wp2
  go_ret2
  exact ⟨rfl,hw⟩
set_option maxHeartbeats 2000000 in
set_option maxRecDepth 100000 in
theorem nP (b : Nat) (v : Value) (bs : List Value) (c : Int) (w : World) (h : QK w 111 5 b v bs) (hlen : bs.length + 1 ≤ 140737488355328) :
    Calls Tryz.prog 44 #[.pointer (some ⟨b,0,none⟩),.int .u8 c] w fun e w'=>e=.returned .nilIface∧Qw w 111 5 b v (bs++[.int .u8 c]) w':=by
  obtain ⟨i0,hi,hz0,hz1,hz2⟩:=info_parts sT;have hne0:v.ownBlock≠some b:=by
    obtain ⟨⟨p,hb,hp⟩,hbuf⟩:=h;exact bQ hbuf hb (by decide)
  go_enter Tryz.func44,Tryz.ntmps44
  go_wp2_with (go_at_call 76;refine (bE b v bs _ h).mono ?_)
  rintro e w1 ⟨rfl,hck⟩
  have hbk:=hck.1;have hbuf:=hck.2.1;have hlt:b<w1.heap.size:=A9 hbk;have c0:w1.cell? ⟨b,0,none⟩=some (.pointer (some ⟨b,0,none⟩)):=by rw [Lib.cell_of_heap hbk];rfl
  have c1:w1.cell? ⟨b,1,none⟩=some v:=by rw [Lib.cell_of_heap hbk];rfl
  go_wp2_with (at_builtin;refine WO rfl _ _ 109 rfl 5 i0 Tryz.underlying109 hi hz0 hz1 hz2 v bs rfl ?c0 ⟨w1.heap.size,0,none⟩ 1 1 [.int .u8 c] rfl rfl Nat.one_pos ?c1 ?c2 hlen ?_)
  case c0 =>
    refine hbuf.kept fun g hg=>?_
    refine Lib.alloc_old w1 _ g ?_
    rcases hbuf with ⟨rfl,_⟩ | ⟨g',cap,cur,rfl,hgg,_⟩
    · simp [Value.ownBlock] at hg
    · simp only [Value.ownBlock,Option.some.injEq] at hg;subst hg;exact A9 hgg
  case c1 =>
    intro j u hj
    match j,hj with
    | 0,hj=>simp at hj;subst hj;simp [Addr.add]
  case c2=>intro u hu;simp at hu;subst hu;rfl
  intro v' w2 hown' hgrow hsame;have hb2:w2.heap[b]?=some (.cells #[.pointer (some ⟨b,0,none⟩),v] 111 (0,0)):=by
    rw [hgrow.block b (by simp;omega) (fun e=>hne0 e.symm),Lib.alloc_old w1 _ b hlt];exact hbk
  have d0:w2.cell? ⟨b,0,none⟩=some (.pointer (some ⟨b,0,none⟩)):=by rw [Lib.cell_of_heap hb2];rfl
  have d1:w2.cell? ⟨b,1,none⟩=some v:=by rw [Lib.cell_of_heap hb2];rfl
  have f1:w2.frozen? ⟨b,1,none⟩=false:=Lib.frozen_of_heap hb2 1;have hw:=lk 111 5 (by decide) hck (.inr ⟨_,rfl⟩) hgrow hsame hown' hne0;obtain ⟨ao,n',cap,rfl⟩:∃ ao n' cap,v'=.slice ao n' cap:=by
    rcases hown' with ⟨hv,_⟩ | ⟨g,cap,cur,hv,_⟩
    · exact ⟨_,_,_,hv⟩
    · exact ⟨_,_,_,hv⟩
  go_wp2
  go_ret
  exact ⟨rfl,hw⟩
set_option maxHeartbeats 1000000 in
set_option maxRecDepth 100000 in
theorem lP (b : Nat) (v : Value) (l : List UInt8) (w : World) (h : QK w 111 5 b v (Lib.byteCells l)) (hl63 : l.length ≤ 9223372036854775807) :
    Calls Tryz.prog 45 #[.pointer (some ⟨b,0,none⟩)] w fun e w'=>e=.returned (.string ⟨l.toArray⟩)∧ri w v w':=by
  obtain ⟨⟨p,hbk,hp⟩,hbuf⟩:=h;have c1:w.drew.cell? ⟨b,1,none⟩=some v:=by
    have:w.drew.heap[b]?=some (.cells #[p,v] 111 (0,0)):=hbk;rw [Lib.cell_of_heap this];rfl
  have mixed:Tryz.prog.follows .mixedOrders=true:=by kernel_rfl
  rcases hbuf with ⟨rfl,hl⟩ | ⟨g,cap,cur,rfl,hg,hc0,hnc,hcs,htake⟩
  · have hl:l=[]:=by simpa [Lib.byteCells] using hl
    subst hl;have hUS:∀ (W:World) (q:Option Addr),(Builtin.unsafeString_ #[146,3] 9 #[.pointer q,.int .i64 0]).run Tryz.prog W=.ok (.string .empty) W:=fun W q=>Lib.run_unsafeString_none W _ _ _ q
    have hSD:(Builtin.unsafeSliceData_ #[109] 146 #[.slice none 0 0]).run Tryz.prog w.drew=.ok (.pointer none) w.drew:=rfl
    go_enter Tryz.func45,Tryz.ntmps45
    go_wp2
    go_region_o
    all_goals (go_wp2;go_ret;exact ⟨rfl,rfl,rfl,rfl,Nat.le_refl _,fun _ _ _=>rfl⟩)
  · rw [Lib.byteCells_length] at hnc c1;have hSD:(Builtin.unsafeSliceData_ #[109] 146 #[.slice (some ⟨g,0,none⟩) l.length cap]).run Tryz.prog w.drew=.ok (.pointer (some ⟨g,0,none⟩)) w.drew :=
      Lib.run_unsafeSliceData_row _ _ _ _ _ _ (by omega)
    by_cases h0:l=[]
    · subst h0;have hUS:∀ (W:World) (q:Option Addr),(Builtin.unsafeString_ #[146,3] 9 #[.pointer q,.int .i64 0]).run Tryz.prog W=.ok (.string .empty) W:=fun W q=>Lib.run_unsafeString_none W _ _ _ q
      simp only [List.length_nil] at c1 hSD;clear hc0
      go_enter Tryz.func45,Tryz.ntmps45
      go_wp2
      go_region_o
      all_goals (go_wp2;go_ret;exact ⟨rfl,rfl,rfl,rfl,Nat.le_refl _,fun _ _ _=>rfl⟩)
    · have hUS : (Builtin.unsafeString_ #[146, 3] 9 #[.pointer (some ⟨g, 0, none⟩), .int .i64 l.length]).run Tryz.prog w.drew = .ok (.string ⟨l.toArray⟩) (w.drew.freeze ⟨g, 0, none⟩ l.length) := by
        refine Lib.run_unsafeString_row w.drew 146 3 9 5 Tryz.underlying146 (by kernel_rfl) g cur.size (by have hg':w.drew.heap[g]?=some (.cells cur 5 (0,0)):=hg;simp [World.shape?,hg']) l h0 (by omega) hl63 ?_;intro j x hx;have hj:j<l.length:=(List.getElem?_eq_some_iff.1 hx).1;have h1:(Lib.byteCells l)[j]?=some (.int .u8 x.toNat):=by simp [Lib.byteCells,hx]
        rw [← htake,List.getElem?_take,if_pos (by rw [Lib.byteCells_length];exact hj)] at h1;have hg':w.drew.heap[g]?=some (.cells cur 5 (0,0)):=hg;rw [Hm];simpa [World.cell?,hg'] using h1
      have hrd:=fun n=>kq w g n (.slice (some ⟨g,0,none⟩) (Lib.byteCells l).length cap) rfl
      go_enter Tryz.func45,Tryz.ntmps45
      go_wp2
      go_region_o
      all_goals (go_wp2;go_ret;exact ⟨rfl,hrd _⟩)
def qS:List Bld:=[⟨41,0,111,5⟩,⟨44,1,111,5⟩,⟨45,2,111,5⟩]
theorem ua:∀ b∈qS,Qm Tryz.prog b:=fun b h=>by
 simp only [qS,List.mem_cons,List.not_mem_nil,or_false] at h
 rcases h with rfl | rfl | rfl
 ·exact fun n v bs s w h hl=>j9 n v bs s w h hl
 ·exact fun n v bs c w h hl=>nP n v bs c w h hl
 ·exact fun n v l w h hl=>lP n v l w h hl
end Go.Px
end
