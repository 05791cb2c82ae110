/- Part 17. -/
import Derived.Test.YtejjoflbpnjohaaGreatDoorPart16
import Derived.Shelf.Strconv.Itoa3
import Derived.Shelf.LaysM
import Derived.Shelf.Strconv.Itoa4
import Derived.Test.YtejjoflbpnjohaaGreatDoorProg
import Derived.Test.YtejjoflbpnjohaaGreatDoorPart04
import Derived.Lib.Builder
import Derived.Lib.AppendStr
import Derived.WalkKit
import Derived.Shelf.RegionOpenPlain
import Derived.Lib.Walk
import Derived.Lib.UnsafeStr
import Derived.Laws.Externs
import Derived.KernelRfl
set_option linter.unusedVariables false
set_option linter.unusedSimpArgs false
variable {r1 r2 r3 r4 r5 r6 r7 r9 r10 r11 r12:Int}
section
namespace Go.Px
set_option maxRecDepth 100000
theorem zR {r:Rul} {L:Rows} {k:Nat} (hc:B6 r L=0) (hk:k<opn L L.length):∀ n,n≤(Ce L k).length→∀ p,p∈A8 (Ce L k) n→1≤p∧p≤r.side
 | 0,_,p,hp=>absurd hp List.not_mem_nil
 | n+1,hn,p,hp=>by
  have l4:=(DT hc).2.2.1;have ih:=zR hc hk n (by omega);have sl:=mU (L:=L) (by omega) hk;have sg:=seg (L:=L) (by omega) hk;have ei:evR (Ce L k) n=evR L (CX L k+n):=ACk L n (by omega);have hi:=AEV hc (a:=CX L k+n) (by have:=sg.le;omega);unfold A8 at hp;rw [ei] at hp;cases h2:(evR L (CX L k+n)).kind==2 with
  | true =>
   rw [h2,cond_true] at hp;have o:=hi.op (beq_iff_eq.1 h2)
   rcases L1.1 hp with hp | rfl
   ·rcases L1.1 hp with hp | rfl
    ·exact ih p hp
    ·exact o.1
   ·exact o.2
  | false =>
   rw [h2,cond_false] at hp;cases h5:(evR L (CX L k+n)).kind==5 with
   | true =>
    rw [h5,cond_true] at hp
    rcases L1.1 hp with hp | rfl
    ·exact ih p hp
    ·exact hi.en (beq_iff_eq.1 h5)
   | false =>
    rw [h5,cond_false] at hp;exact ih p hp
theorem AEw {r:Rul} {L:Rows} {k:Nat} (hc:B6 r L=0) (hk:k<opn L L.length) (h0:0≤r.side) {p:Int}:p∈Iz (A8 (Ce L k) (Ce L k).length) r.side.toNat↔1≤p∧p≤r.side:=by
 rw [lY];constructor
 ·rintro (h | h)
  ·exact zR hc hk _ (Nat.le_refl _) p h
  ·omega
 ·intro h;exact .inr (by omega)
theorem oz {o : List Int} {p : Int} (hn : o.Nodup) (h : p ∈ o) :
    (∀ (F:Int→Ln) (a:Int),(AQ o F).set (Al p o) (BE (AO (AQ o F) (Al p o)) 1 [.int a])=AQ o (Bk F p { F p with runs:=a })) ∧
    (∀ (F:Int→Ln) (a:Int),(AQ o F).set (Al p o) (BE (AO (AQ o F) (Al p o)) 2 [.int a])=AQ o (Bk F p { F p with balls:=a })) ∧
    (∀ (F:Int→Ln) (a:Int),(AQ o F).set (Al p o) (BE (AO (AQ o F) (Al p o)) 3 [.int a])=AQ o (Bk F p { F p with fours:=a })) ∧
    (∀ (F:Int→Ln) (a:Int),(AQ o F).set (Al p o) (BE (AO (AQ o F) (Al p o)) 4 [.int a])=AQ o (Bk F p { F p with sixes:=a })) ∧
    (∀ (F:Int→Ln) (a:Bool),(AQ o F).set (Al p o) (BE (AO (AQ o F) (Al p o)) 5 [.bool a])=AQ o (Bk F p { F p with out:=a })) ∧
    (∀ (F:Int→Ln) (a:Int),(AQ o F).set (Al p o) (BE (AO (AQ o F) (Al p o)) 6 [.int a])=AQ o (Bk F p { F p with how:=a })) ∧
    (∀ (F:Int→Ln) (a:Int),(AQ o F).set (Al p o) (BE (AO (AQ o F) (Al p o)) 7 [.int a])=AQ o (Bk F p { F p with bowler:=a })) ∧
    (∀ (F:Int→Ln) (a:Int),(AQ o F).set (Al p o) (BE (AO (AQ o F) (Al p o)) 8 [.int a])=AQ o (Bk F p { F p with fielder:=a })) ∧
    (∀ (F:Int→Ln),pvI (AJ (AQ o F) (Al p o) 1)=(F p).runs)∧(∀ (F:Int→Ln),pvI (AJ (AQ o F) (Al p o) 2)=(F p).balls) ∧
    (∀ (F:Int→Ln),pvI (AJ (AQ o F) (Al p o) 3)=(F p).fours)∧(∀ (F:Int→Ln),pvI (AJ (AQ o F) (Al p o) 4)=(F p).sixes):=by
  refine ⟨fun F a=>Fo hn h rfl,fun F a=>Fo hn h rfl,fun F a=>Fo hn h rfl,fun F a=>Fo hn h rfl,fun F a=>Fo hn h rfl,fun F a=>Fo hn h rfl,fun F a=>Fo hn h rfl,fun F a=>Fo hn h rfl,fun F=>?_,fun F=>?_,fun F=>?_,fun F=>?_⟩ <;>
  · unfold AJ;rw [ra h];rfl
set_option maxHeartbeats 8000000 in
theorem ZN {N:Nat} {r8:Bool} {r0:ByteArray} {r13:Rows} {L:Rows} {k:Int} (hN:2097152<N) (hs:r0.size≤1048576) (h13:r13.length≤1048576) (hL:L.length≤1000000):Cw N [.str r0,.int r1,.int r2,.int r3,.int r4,.int r5,.int r6,.int r7,.bool r8,.int r9,.int r10,.int r11,.int r12,.rows r13,.rows L,.int k]=some [.rows (I6 (⟨r0,r1,r2,r3,r4,r5,r6,r7,r8,r9,r10,r11,r12,r13⟩:Rul) L k).1,.int (I6 (⟨r0,r1,r2,r3,r4,r5,r6,r7,r8,r9,r10,r11,r12,r13⟩:Rul) L k).2]:=by
 show IK (std (Bb N) N) (xOf _)=_;generalize hres:(some [.rows (I6 (⟨r0,r1,r2,r3,r4,r5,r6,r7,r8,r9,r10,r11,r12,r13⟩:Rul) L k).1,.int (I6 (⟨r0,r1,r2,r3,r4,r5,r6,r7,r8,r9,r10,r11,r12,r13⟩:Rul) L k).2]:Option (List PV))=RR;have hl:L.length≤1048576:=by omega
 simp only [IK,TB,VZ,Ra,JR,Wu,Ot,lq9,std,xOf,PXb,yF hN hs h13 hl,qt hN hl,o9 hN hs h13 hl,Zo,PXc];subst hres;simp only [I6,Cs];cases hc:B6 (⟨r0,r1,r2,r3,r4,r5,r6,r7,r8,r9,r10,r11,r12,r13⟩:Rul) L==0 with
 | false=>simp only [PXb,Bool.not_false,hc]
 | true =>
  have pl:=pH (⟨r0,r1,r2,r3,r4,r5,r6,r7,r8,r9,r10,r11,r12,r13⟩:Rul) L;have c0:=beq_iff_eq.1 hc;simp only [PXb,Bool.not_true,PXp,Z1];cases hb:iLt k 0||iLe (opn L L.length:Int) k with
  | true=>rfl
  | false =>
   simp only [Bool.or_eq_false_iff,iLt,iLe,decide_eq_false_iff_not] at hb;obtain ⟨K,rfl⟩:∃ K:Nat,k=(K:Int):=⟨k.toNat,by omega⟩;have hk:K<opn L L.length:=by omega
   have l4:=(DT c0).2.2.1;have sg:=seg hl hk;have sgl:=sg.lt;have sge:=sg.le;have sl:=mU hl hk;have rk:=C9 (DT c0).2.1;have rs:2≤r1∧r1≤11:=rk.side;have rg:iRg (CX L K:Int) (CX L (K+1):Int) (L.length:Int)=true:=by simp only [iRg,decide_eq_true_eq];omega
   have om:=fun p=>AEw (p:=p) c0 hk (show 0≤r1 by omega)
   have pin:=fun j (hj:j<(BC (⟨r0,r1,r2,r3,r4,r5,r6,r7,r8,r9,r10,r11,r12,r13⟩:Rul) L).length)=>ACE c0 hj
   have ein:=fun j (hj:j<(Ce L K).length)=>AEV c0 (a:=CX L K+j) (by omega)
   have esub:=fun j (hj:j<(Ce L K).length)=>ACk L (a:=CX L K) (b:=CX L (K+1)) j (by omega)
   change ∀ j,j<(Ce L K).length→evR (Ce L K) j=_ at esub;have on:=bE (Uy (Ce L K) (Ce L K).length) r1.toNat;have ol:=WW (A8 (Ce L K) (Ce L K).length) r1.toNat;have oe:=OD (Ce L K) (Ce L K).length;simp only [PXb,AM hk,sg.x0,sg.x1,rg,Int.toNat_natCast,beq_self_eq_true];have ex:List.drop (CX L K) (List.take (CX L (K+1)) L)=Ce L K:=rfl;rw [ex];have einE:=fun j (hj:j<(Ce L K).length)=>(esub j hj)▸(ein j hj)
   clear ein esub ex rg sg;generalize hE:Ce L K=E at *
   generalize BC (⟨r0,r1,r2,r3,r4,r5,r6,r7,r8,r9,r10,r11,r12,r13⟩:Rul) L=D at *
   have e1:E.length≤4000:=by omega
   have e2:=nY (r0:=r0) (r1:=r1) (r2:=r2) (r3:=r3) (r4:=r4) (r5:=r5) (r6:=r6) (r7:=r7) (r8:=r8) (r9:=r9) (r10:=r10) (r11:=r11) (r12:=r12) (r13:=r13) hN e1 (by omega) (by omega);refine Cg e2 ?_;simp only [PXb,qQ];generalize hO:Iz (A8 E E.length) r1.toNat=o at *
   refine AN (BV (len:=D.length) (fun i=>[.int (i:Int),.rows (AQ o (dLn K D (Er fun p=>CA E p E.length) i))]) [.rows (AQ o (dLn K D (Er fun p=>CA E p E.length) D.length))] ?_ ?_ N (by omega)) ?_
   ·intro self;simp only [PXb,PXc,PXn,AD,Aj]
   ·intro i self hi;have wi:IntKind.i64.wrap ((i:Int)+1)=((i+1:Nat):Int):=Bt (show i≤1099511627776 by omega);obtain ⟨rf,vf⟩:=pin i hi;have st:=rf.striker;have so:pvI (AJ D i 5)∈o:=(om _).2 st;have ix:=DN (o:=o) (F:=dLn K D (Er fun p=>CA E p E.length) i) (p:=pvI (AJ D i 5)) (by omega) hN;rw [Jp.2 so,cond_true] at ix;generalize hF:dLn (K:Int) D (Er fun p=>CA E p E.length)=G at *
    have nx:G (i+1)=fun p=>cond (pvI (AJ D i 1)==(K:Int)) (J9 (AO D i) p (G i p)) (G i p):=by rw [← hF];rfl
    simp only [PXb,Ad hi,AM hi,wi];cases hk1:pvI (AJ D i 1)==(K:Int) with
    | false =>
     have:G (i+1)=G i:=by rw [nx,hk1];rfl
     rw [this];rfl
    | true =>
     rw [Bool.not_true,cond_false];refine Cg ix ?_;simp only [PXb,Bv,AM (GN so).1,Int.toNat_natCast];have cs:=oz on so;generalize hp:pvI (AJ D i 5)=p at *
     generalize hx:AO D i=x at *
     have xx:∀ c,AJ D i c=AA x c:=fun c=>by unfold AJ;rw [hx]
     simp only [xx] at hp ⊢;have b46:(pvI (AA x 12)==4)=true→(pvI (AA x 12)==6)=false:=fun h=>by rw [beq_iff_eq.1 h];rfl
     refine Cg (v:=[.rows (AQ o (Bk (G i) p { G i p with runs:=IntKind.i64.wrap ((G i p).runs+pvI (AA x 20)),balls:=cond (pvB (AA x 27)) (IntKind.i64.wrap ((G i p).balls+1)) (G i p).balls }))]) ?_ ?_
     ·cases pvB (AA x 27)<;>simp only [cond_true,cond_false,cs,Il,RX]
     simp only [PXb];refine Cg (v:=[.rows (AQ o (Bk (G i) p (P0 x (G i p))))]) ?_ ?_
     ·unfold P0 AAa;cases pvI (AA x 9)==1<;>cases pvI (AA x 10)==0<;>cases h4:pvI (AA x 12)==4<;>cases h6:pvI (AA x 12)==6 <;>
       simp only [Bool.and_true,Bool.and_false,Bool.true_and,Bool.false_and,cond_true,cond_false,cs,Il,RX]
      rw [b46 h4] at h6;cases h6
     simp only [PXb];have vr:Da x=cond (pvI (AA x 14)==0) 0 (cond (pvI (AA x 15)==1) p (cond (pvI (AA x 15)==2) (pvI (AA x 6)) 0)):=by unfold Da;rw [hp]
     refine Cg (v:=[.int (Da x)]) (by rw [vr];exact iG) ?_;simp only [PXb];have fin:∀ F:Int→Ln,(∀ q,1≤q→F q=J9 x q (G i q))→AQ o F=AQ o (G (i+1)):=fun F hF=>oT fun q hq=>by
      rw [nx,hF q ((om q).1 hq).1,hk1];exact rfl
     have two:∀ q,Bk (G i) p (P0 x (G i p)) q=cond (pvI (AA x 5)==q) (P0 x (G i q)) (G i q):=fun q=>by
      unfold Bk;rw [hp];cases hq:q==p with
      | true=>rw [beq_iff_eq.1 hq,beq_self_eq_true]
      | false=>rw [show (p==q)=false from beq_eq_false_iff_ne.2 (fun e=>by rw [e,beq_self_eq_true] at hq;cases hq)];rfl
     rcases vf with v0 | v1
     ·have e:iLt 0 (Da x)=false:=by rw [v0];rfl
      rw [e,cond_false,fin _ fun q hq=>by
       rw [two];unfold J9;rw [v0,show ((0:Int)==q)=false from beq_eq_false_iff_ne.2 (by omega),cond_false]]
     ·have e:iLt 0 (Da x)=true:=by simp only [iLt,decide_eq_true_eq];omega
      have vo:Da x∈o:=(om _).2 v1;have cv:=oz on vo;have iv:=DN (o:=o) (F:=Bk (G i) p (P0 x (G i p))) (p:=Da x) (by omega) hN;rw [Jp.2 vo,cond_true] at iv;rw [e,cond_true];refine Cg iv ?_;simp only [PXb,Bv,AM (GN vo).1,Int.toNat_natCast,cv,Il,RX];have last:∀ (b:Bool) (bw:Int),b=pvB (AA x 28)→bw=cond b (pvI (AA x 4)) (Bk (G i) p (P0 x (G i p)) (Da x)).bowler→AQ o (Bk (Bk (G i) p (P0 x (G i p))) (Da x) { Bk (G i) p (P0 x (G i p)) (Da x) with out:=true,how:=pvI (AA x 14),fielder:=pvI (AA x 16),bowler:=bw })=AQ o (G (i+1)):=fun b bw hb hw=>fin _ fun q hq=>by
       subst hb;subst hw;show Bk _ (Da x) (AAy x (Bk (G i) p (P0 x (G i p)) (Da x))) q=_;unfold J9;rw [← two q];unfold Bk;cases hq2:q==Da x with
       | true=>rw [beq_iff_eq.1 hq2,beq_self_eq_true]
       | false=>rw [show (Da x==q)=false from beq_eq_false_iff_ne.2 (fun e=>by rw [e,beq_self_eq_true] at hq2;cases hq2)];rfl
      cases hw:pvB (AA x 28) with
      | true =>
       rw [cond_true];exact congrArg (fun R=>self [Leaf.int ((i+1:Nat):Int),Leaf.rows R]) (last true _ hw.symm rfl)
      | false =>
       rw [cond_false];exact congrArg (fun R=>self [Leaf.int ((i+1:Nat):Int),Leaf.rows R]) (last false _ hw.symm rfl)
   ·simp only [PXb];generalize dLn (K:Int) D (Er fun p=>CA E p E.length) D.length=F0 at *
    refine AN (BV (len:=E.length) (fun i=>[.int (i:Int),.rows (AQ o (eLn E F0 i))]) [.rows (AQ o (eLn E F0 E.length))] ?_ ?_ N (by omega)) rfl
    ·intro self;simp only [PXb,Aj]
    ·intro i self hi;have wi:IntKind.i64.wrap ((i:Int)+1)=((i+1:Nat):Int):=Bt (show i≤1099511627776 by omega);have ei:=einE i hi;have kk:(evR E i).kind=pvI (AJ E i 0):=rfl;have kp:(evR E i).player=pvI (AJ E i 2):=rfl;have ky:(evR E i).yes=pvB (AJ E i 4):=rfl;have nx:eLn E F0 (i+1)=fun p=>evL (evR E i) p (eLn E F0 i p):=rfl
     generalize eLn E F0 i=G at *
     simp only [PXb,Ad hi,AM hi,wi,← kk,← kp,← ky];rw [nx];have fin:∀ (h:Int),(∀ q,evL (evR E i) q (G q)=cond ((evR E i).player==q) { G q with out:=true,how:=h } (G q))→AQ o (Bk G (evR E i).player { G (evR E i).player with out:=true,how:=h })=AQ o fun p=>evL (evR E i) p (G p):=fun h hq=>by
      congr 1
      funext q
      rw [hq];unfold Bk;cases hq2:q==(evR E i).player with
      | true=>rw [beq_iff_eq.1 hq2,beq_self_eq_true]
      | false=>rw [show ((evR E i).player==q)=false from beq_eq_false_iff_ne.2 (fun e=>by rw [e,beq_self_eq_true] at hq2;cases hq2)];rfl
     cases h5:(evR E i).kind==5&&(evR E i).yes with
     | true =>
      simp only [zzj] at h5;have po:(evR E i).player∈o:=(om _).2 (ei.en (beq_iff_eq.1 h5.1));have cs:=oz on po;have ix:=DN (o:=o) (F:=G) (p:=(evR E i).player) (by omega) hN;rw [Jp.2 po,cond_true] at ix;rw [cond_true];refine Cg ix ?_;simp only [PXb,Bv,AM (GN po).1,Int.toNat_natCast,cs,Il,RX];rw [← fin 9 fun q=>by unfold evL;rw [h5.1,h5.2];rfl]
     | false =>
      cases h6:(evR E i).kind==6 && !(evR E i).yes with
      | true =>
       have h6':=h6;simp only [zzj] at h6';have po:(evR E i).player∈o:=(om _).2 (ei.re (beq_iff_eq.1 h6'.1));have cs:=oz on po;have ix:=DN (o:=o) (F:=G) (p:=(evR E i).player) (by omega) hN;rw [Jp.2 po,cond_true] at ix;rw [cond_false,cond_true];refine Cg ix ?_;simp only [PXb,Bv,AM (GN po).1,Int.toNat_natCast,cs,Il,RX];rw [← fin 10 fun q=>by unfold evL;rw [h5,h6];rfl]
      | false =>
       rw [cond_false,cond_false];have:(fun p=>evL (evR E i) p (G p))=G:=funext fun q=>by unfold evL;rw [h5,h6];rfl
       rw [this]
def rV (p:Int) (o:List Int):Nat→Bool
 | 0=>false
 | j+1=>rV p o j||(p==o.getD j 0)
theorem zk (p:Int) (o:List Int):∀ j,j≤o.length→(rV p o j=true↔p∈o.take j)
 | 0,_=>by
  show false=true↔_;simp
 | j+1,h=>by
  have e:o.take (j+1)=o.take j++[o.getD j 0]:=by
   rw [List.take_add_one,zzk,zzn (by omega)];rfl
  rw [e,List.mem_append,List.mem_singleton,← zk p o j (by omega)];show (rV p o j||_)=true↔_;rw [Bool.or_eq_true,beq_iff_eq]
theorem AEf (p:Int) (o:List Int):rV p o o.length=Nat.blt (Al p o) o.length:=by
 rw [Bool.eq_iff_iff,zk p o _ (Nat.le_refl _),List.take_length,Jp]
theorem wJ {N : Nat} {o : List Int} {p : Int} (hN : o.length < N) {F : (List Ac → Option (List PV)) → List PV → Option (List PV)}
    (h0:∀ b self,F self [.bool b,.int (o.length:Int)]=some [.bool b,.int (o.length:Int)])
    (h1:∀ j b self,j<o.length→F self [.bool b,.int (j:Int)]=self [.bool (b||(p==o.getD j 0)),.int ((j+1:Nat):Int)]) :
    ES F N [.bool false,.int 0]=some [.bool (Nat.blt (Al p o) o.length),.int (o.length:Int)]:=by
  have:=BV (F:=F) (len:=o.length) (fun j=>[.bool (rV p o j),.int (j:Int)]) [.bool (rV p o o.length),.int (o.length:Int)] (fun self=>h0 _ self) (fun j self hj=>h1 j _ self hj) N (by omega);rw [AEf] at this;exact this
theorem zX (o:List Int) (p:Int):cond (!Nat.blt (Al p o) o.length) (FD o++[[.int p]]) (FD o)=FD (BP o p):=by
 unfold BP;cases Nat.blt (Al p o) o.length with
 | true=>rfl
 | false =>
  show FD o++[[.int p]]=FD (o++[p]);unfold FD;rw [List.map_append];rfl
set_option maxHeartbeats 8000000 in
theorem tw {N:Nat} {E:Rows} (hN:2097152<N) (hL:E.length≤4000):NV N [.rows E]=some [.rows (FD (A8 E E.length))]:=by
 show Nc (std (XS N) N) (xOf _)=_;simp only [Nc,lq9,std,xOf,PXb];refine AN (BV (len:=E.length) (fun i=>[.rows (FD (A8 E i)),.int (i:Int)]) [.rows (FD (A8 E E.length))] ?_ ?_ N (by omega)) rfl
 ·intro self;simp only [PXb,Aj]
 ·intro i self hi;have ol:=OD E i;have wi:IntKind.i64.wrap ((i:Int)+1)=((i+1:Nat):Int):=Bt (show i≤1099511627776 by omega);have kk:(evR E i).kind=pvI (AJ E i 0):=rfl;have kp:(evR E i).player=pvI (AJ E i 2):=rfl;have ko:(evR E i).other=pvI (AJ E i 3):=rfl;have eo:A8 E (i+1)=cond ((evR E i).kind==2) (BP (BP (A8 E i) (evR E i).player) (evR E i).other) (cond ((evR E i).kind==5) (BP (A8 E i) (evR E i).player) (A8 E i)):=rfl;rw [eo];generalize A8 E i=o at *
  simp only [PXb,Ad hi,AM hi,wi,← kk,← kp,← ko];generalize (evR E i).player=p;generalize (evR E i).other=q;refine Cg (v:=[.rows (FD (cond ((evR E i).kind==2) [p,q] []))]) (by cases (evR E i).kind==2<;>rfl) ?_;simp only [PXb];refine Cg (v:=[.rows (FD (cond ((evR E i).kind==5) [p] (cond ((evR E i).kind==2) [p,q] [])))]) (by cases (evR E i).kind==5<;>rfl) ?_;have lst:cond ((evR E i).kind==2) (BP (BP o p) q) (cond ((evR E i).kind==5) (BP o p) o)=(cond ((evR E i).kind==5) [p] (cond ((evR E i).kind==2) [p,q] [])).foldl BP o:=by
   cases h2:(evR E i).kind==2 with
   | true=>rw [beq_iff_eq.1 h2];rfl
   | false=>cases (evR E i).kind==5<;>rfl
  have l2:(cond ((evR E i).kind==5) [p] (cond ((evR E i).kind==2) [p,q] [])).length≤2:=by
   cases (evR E i).kind==5<;>cases (evR E i).kind==2<;>exact Nat.le_of_ble_eq_true rfl
  rw [lst];generalize cond ((evR E i).kind==5) [p] (cond ((evR E i).kind==2) [p,q] [])=ps at *
  simp only [PXb];have fl:∀ j,((ps.take j).foldl BP o).length≤o.length+j:=fun j=>by
   have go:∀ (l o:List Int),(l.foldl BP o).length≤o.length+l.length:=fun l=>by
    induction l with
    | nil=>intro o;exact Nat.le_refl _
    | cons a l ih =>
     intro o;have h1:=ih (BP o a);have h2:=U2 o a;show ((l.foldl BP (BP o a)).length)≤o.length+(l.length+1);omega
   have:=go (ps.take j) o;have h2:=List.length_take_le j ps;omega
  refine Cg (v:=[.rows (FD (ps.foldl BP o)),.int (ps.length:Int)]) (BV (len:=ps.length) (fun j=>[.rows (FD ((ps.take j).foldl BP o)),.int (j:Int)]) [.rows (FD (ps.foldl BP o)),.int (ps.length:Int)] ?_ ?_ N (by omega)) rfl
  ·intro self;simp only [PXb,HH,Aj,List.take_length]
  ·intro j self hj;have e:(ps.take (j+1)).foldl BP o=BP ((ps.take j).foldl BP o) (ps.getD j 0):=by
    rw [List.take_add_one,zzk,zzn hj,List.foldl_append];rfl
   have wj:IntKind.i64.wrap ((j:Int)+1)=((j+1:Nat):Int):=Bt (show j≤1099511627776 by omega);have pj:pvI (AJ (FD ps) j 0)=ps.getD j 0:=AAv ps j;have flj:=fl j;rw [e];generalize (ps.take j).foldl BP o=o' at *
   simp only [PXb,HH,Ad hj,AM hj,wj,pj];generalize ps.getD j 0=a;refine Cg (wJ (o:=o') (p:=a) (by omega) ?_ ?_) ?_
   ·intro b self;simp only [PXb,HH,Aj]
   ·intro k b self hk;have wk:IntKind.i64.wrap ((k:Int)+1)=((k+1:Nat):Int):=Bt (show k≤1099511627776 by omega);have pk:pvI (AJ (FD o') k 0)=o'.getD k 0:=AAv o' k;simp only [PXb,HH,Ad hk,AM hk,wk,pk]
   ·have sm:iSm ((o'.length+1:Nat):Int) 8=true:=DJ (by omega) (by omega);have ae:=zX o' a;simp only [PXb,List.length_append,List.length_cons,List.length_nil,HH,Nat.zero_add,sm];rw [← ae];cases Nat.blt (Al a o') o'.length<;>rfl
def Df (X:Rows) (p:Int):Nat→Ln
 | 0=>ln0
 | n+1=>J9 (AO X n) p (Df X p n)
def evX (e:Ev) (p:Int) (l:Ln):Ln:=cond (e.kind==2&&(e.player==p||e.other==p)) { l with batted:=true } (cond ((e.kind==5&&e.player==p) && !e.yes) { l with batted:=true } (cond (e.kind==5&&e.player==p) { l with out:=true,how:=9 } (cond ((e.kind==6&&e.player==p) && !e.yes) { l with out:=true,how:=10 } l)))
def I3 (E:Rows) (p:Int) (l:Ln):Nat→Ln
 | 0=>l
 | n+1=>evX (evR E n) p (I3 E p l n)
def qm (p:Int) (l:Ln):List Ac:=[.int p,.int l.runs,.int l.balls,.int l.fours,.int l.sixes,.bool l.out,.int l.how,.int l.bowler,.int l.fielder,.bool l.batted]
set_option maxHeartbeats 8000000 in
theorem ABF {N:Nat} {E:Rows} {X:Rows} {p:Int} (hN:2097152<N) (hE:E.length≤4000) (hX:X.length≤4000):Ua N [.rows E,.rows X,.int p]=some (lnR p (I3 E p (Df X p X.length) E.length)):=by
 show Uq (std (Ve N) N) (xOf _)=_;simp only [Uq,Zn,lq9,std,xOf,PXb];refine AN (BV (len:=X.length) (fun i=>.int (i:Int)::qm p (Df X p i)) (lnR p (Df X p X.length)) ?_ ?_ N (by omega)) ?_
 ·intro self;simp only [PXb,qm,Aj];rfl
 ·intro i self hi;have wi:IntKind.i64.wrap ((i:Int)+1)=((i+1:Nat):Int):=Bt (show i≤1099511627776 by omega);have e:Df X p (i+1)=J9 (AO X i) p (Df X p i):=rfl;rw [e];generalize Df X p i=l;have xx:∀ c,AJ X i c=AA (AO X i) c:=fun c=>rfl
  simp only [PXb,qm,Ad hi,AM hi,wi,xx];generalize AO X i=x;refine Cg (v:=lnR p (cond (pvI (AA x 5)==p) (P0 x l) l)) ?_ ?_
  ·unfold P0 AAa;cases pvI (AA x 5)==p
   ·rfl
   ·cases pvB (AA x 27)<;>cases pvI (AA x 9)==1<;>cases pvI (AA x 10)==0<;>cases pvI (AA x 12)==4<;>cases pvI (AA x 12)==6<;>rfl
  refine Cg (v:=[.int (Da x)]) vG ?_;unfold J9;generalize cond (pvI (AA x 5)==p) (P0 x l) l=l';simp only [PXb];cases Da x==p
  ·rfl
  ·cases hw:pvB (AA x 28)
   ·unfold AAy;rw [hw];rfl
   ·unfold AAy;rw [hw];rfl
 ·generalize Df X p X.length=l0;refine AN (BV (len:=E.length) (fun i=>.int (i:Int)::qm p (I3 E p l0 i)) (lnR p (I3 E p l0 E.length)) ?_ ?_ N (by omega)) ?_
  ·intro self;simp only [PXb,qm,Aj];rfl
  ·intro i self hi;have wi:IntKind.i64.wrap ((i:Int)+1)=((i+1:Nat):Int):=Bt (show i≤1099511627776 by omega);have e:I3 E p l0 (i+1)=evX (evR E i) p (I3 E p l0 i):=rfl;rw [e];generalize I3 E p l0 i=l;have kk:(evR E i).kind=pvI (AJ E i 0):=rfl;have kp:(evR E i).player=pvI (AJ E i 2):=rfl;have ko:(evR E i).other=pvI (AJ E i 3):=rfl;have ky:(evR E i).yes=pvB (AJ E i 4):=rfl;simp only [PXb,qm,Ad hi,AM hi,wi,← kk,← kp,← ko,← ky];unfold evX;cases (evR E i).kind==2&&((evR E i).player==p||(evR E i).other==p) with
   | true=>rfl
   | false =>
    cases ((evR E i).kind==5&&(evR E i).player==p) && !(evR E i).yes with
    | true=>rfl
    | false =>
     cases (evR E i).kind==5&&(evR E i).player==p with
     | true=>rfl
     | false =>
      cases ((evR E i).kind==6&&(evR E i).player==p) && !(evR E i).yes<;>rfl
  ·rfl
theorem zr (E:Rows) (p:Int) (F:Int→Ln):∀ n,I3 E p (F p) n={ eLn E F n p with batted:=(F p).batted||CA E p n }
 | 0=>by
  show F p={ F p with batted:=(F p).batted||false };rw [Bool.or_false]
 | n+1=>by
  show evX (evR E n) p (I3 E p (F p) n)={ evL (evR E n) p (eLn E F n p) with batted:=(F p).batted||(CA E p n||cond ((evR E n).kind==2) (p==(evR E n).player||p==(evR E n).other) (cond ((evR E n).kind==5) (p==(evR E n).player && !(evR E n).yes) false)) };rw [zr E p F n];generalize eLn E F n p=l;generalize (F p).batted=b;generalize CA E p n=c;have c1:((evR E n).player==p)=(p==(evR E n).player):=by rw [Bool.eq_iff_iff,beq_iff_eq,beq_iff_eq];exact eq_comm
  have c2:((evR E n).other==p)=(p==(evR E n).other):=by rw [Bool.eq_iff_iff,beq_iff_eq,beq_iff_eq];exact eq_comm
  unfold evX evL;rw [c1,c2];cases h2:(evR E n).kind==2 with
  | true =>
   rw [beq_iff_eq.1 h2];cases p==(evR E n).player<;>cases p==(evR E n).other<;>cases (evR E n).yes<;>cases b<;>cases c<;>rfl
  | false =>
   cases h5:(evR E n).kind==5 with
   | true =>
    rw [beq_iff_eq.1 h5];cases p==(evR E n).player<;>cases p==(evR E n).other<;>cases (evR E n).yes<;>cases b<;>cases c<;>rfl
   | false =>
    cases (evR E n).kind==6<;>cases p==(evR E n).player<;>cases p==(evR E n).other<;>cases (evR E n).yes<;>cases b<;>cases c<;>rfl
theorem AFc (x:List PV) (p:Int) (l:Ln) (b:Bool):J9 x p { l with batted:=b }={ J9 x p l with batted:=b }:=by
 unfold J9;cases Da x==p<;>cases pvI (AA x 5)==p<;>rfl
theorem AGG (e:Ev) (p:Int) (l:Ln) (b:Bool):evL e p { l with batted:=b }={ evL e p l with batted:=b }:=by
 unfold evL;cases e.kind==5&&e.yes<;>cases e.kind==6 && !e.yes<;>cases e.player==p<;>rfl
theorem ADV (x:List PV) (p:Int) (l:Ln):(J9 x p l).batted=l.batted:=by
 unfold J9;cases Da x==p<;>cases pvI (AA x 5)==p<;>rfl
theorem sL (X:Rows) (p:Int):∀ n,(Df X p n).batted=false
 | 0=>rfl
 | n+1=>(ADV _ _ _).trans (sL X p n)
theorem kg {X Y:Rows} {p:Int}:∀ n,(∀ i,i<n→AO X i=AO Y i)→Df X p n=Df Y p n
 | 0,_=>rfl
 | n+1,h=>by
  show J9 (AO X n) p _=J9 (AO Y n) p _;rw [h n (Nat.lt_succ_self n),kg n (fun i hi=>h i (Nat.lt_succ_of_lt hi))]
theorem AB7 (A:Rows) (y:List PV) (p:Int):Df (A++[y]) p (A++[y]).length=J9 y p (Df A p A.length):=by
 rw [List.length_append];show J9 (AO (A++[y]) A.length) p (Df (A++[y]) p A.length)=_;have e:AO (A++[y]) A.length=y:=by
  unfold AO;rw [zzk,List.getElem?_append_right (Nat.le_refl _),Nat.sub_self];rfl
 rw [e,kg (Y:=A) A.length (fun i hi=>by
  unfold AO;rw [zzk,zzk,List.getElem?_append_left hi])]
theorem wa (k:Int) (D:Rows) (B:Int→Bool) (p:Int):∀ n,n≤D.length→dLn k D (Er B) n p={ Df (fil k (D.take n)) p (fil k (D.take n)).length with batted:=B p }
 | 0,_=>rfl
 | n+1,h=>by
  show cond (pvI (AJ D n 1)==k) (J9 (AO D n) p (dLn k D (Er B) n p)) (dLn k D (Er B) n p)=_;rw [wn (by omega),wa k D B p n (by omega)];cases pvI (AJ D n 1)==k with
  | true =>
   rw [cond_true,cond_true,AB7,AFc];rfl
  | false=>rfl
theorem AEK (E:Rows) {F G:Int→Ln} {B:Int→Bool} {p:Int} (h:F p={ G p with batted:=B p }):∀ n,eLn E F n p={ eLn E G n p with batted:=B p }
 | 0=>h
 | n+1=>by
  show evL (evR E n) p (eLn E F n p)=_;rw [AEK E h n,AGG];rfl
theorem AEv (k:Int) (D E:Rows) (p:Int):I3 E p (Df (fil k D) p (fil k D).length) E.length=eLn E (dLn k D (Er fun p=>CA E p E.length) D.length) E.length p:=by
 have h1:=zr E p (fun p=>Df (fil k D) p (fil k D).length) E.length;have h2:=wa k D (fun p=>CA E p E.length) p D.length (Nat.le_refl _);rw [List.take_length] at h2;rw [AEK E (G:=fun p=>Df (fil k D) p (fil k D).length) (B:=fun p=>CA E p E.length) h2 E.length];refine h1.trans ?_;rw [sL,Bool.false_or]
theorem AEe {r:Rul} {L:Rows} {k:Int} (h:((Cs r L k).2==0)=true):(Ce L k.toNat).length≤4000:=by
 obtain ⟨c0,h1,h2,h3⟩:=lj h;have l4:=(DT c0).2.2.1;have:=mU (L:=L) (k:=k.toNat) (by omega) (by omega);have sg:=seg (L:=L) (k:=k.toNat) (by omega) (by omega);have:=sg.le;omega
set_option maxHeartbeats 8000000 in
theorem AAN {N:Nat} {r8:Bool} {r0:ByteArray} {r13:Rows} {L:Rows} {k:Int} (hN:2097152<N) (hs:r0.size≤1048576) (h13:r13.length≤1048576) (hL:L.length≤1000000):Pz N [.str r0,.int r1,.int r2,.int r3,.int r4,.int r5,.int r6,.int r7,.bool r8,.int r9,.int r10,.int r11,.int r12,.rows r13,.rows L,.int k]=some [.rows (I6 (⟨r0,r1,r2,r3,r4,r5,r6,r7,r8,r9,r10,r11,r12,r13⟩:Rul) L k).1,.int (I6 (⟨r0,r1,r2,r3,r4,r5,r6,r7,r8,r9,r10,r11,r12,r13⟩:Rul) L k).2]:=by
 show Pm (std (Ea N) N) (xOf _)=_;generalize hres:(some [.rows (I6 (⟨r0,r1,r2,r3,r4,r5,r6,r7,r8,r9,r10,r11,r12,r13⟩:Rul) L k).1,.int (I6 (⟨r0,r1,r2,r3,r4,r5,r6,r7,r8,r9,r10,r11,r12,r13⟩:Rul) L k).2]:Option (List PV))=RR;have hl:L.length≤1048576:=by omega
 simp only [Pm,jW,YB,em,lq9,std,xOf,PXb,AEH hN hs h13 hL];subst hres;simp only [I6];cases hb:(Cs (⟨r0,r1,r2,r3,r4,r5,r6,r7,r8,r9,r10,r11,r12,r13⟩:Rul) L k).2==0 with
 | false=>rfl
 | true =>
  obtain ⟨c0,k0,k1,b4,b5,b6,b7⟩:=lj hb;have se:=AEe hb;have rk:=C9 (DT c0).2.1;have rs:2≤r1∧r1≤11:=rk.side;have bX:(Cs (⟨r0,r1,r2,r3,r4,r5,r6,r7,r8,r9,r10,r11,r12,r13⟩:Rul) L k).1=fil k (BC (⟨r0,r1,r2,r3,r4,r5,r6,r7,r8,r9,r10,r11,r12,r13⟩:Rul) L):=by
   unfold Cs;rw [beq_iff_eq.2 c0,show (iLt k 0||iLe (opn L L.length:Int) k)=false by simp only [Bool.or_eq_false_iff,iLt,iLe,decide_eq_false_iff_not];omega];rfl
  have le:=fun p=>AEv k (BC (⟨r0,r1,r2,r3,r4,r5,r6,r7,r8,r9,r10,r11,r12,r13⟩:Rul) L) (Ce L k.toNat) p
  rw [← bX] at le;simp only [PXb,Bool.not_true,cond_true,cond_false];generalize (Cs (⟨r0,r1,r2,r3,r4,r5,r6,r7,r8,r9,r10,r11,r12,r13⟩:Rul) L k).1=X at *
  generalize Ce L k.toNat=E at *
  have oe:=OD E E.length;refine Cg (tw hN se) ?_;obtain ⟨n,hn⟩:∃ n:Nat,r1=(n:Int):=⟨r1.toNat,by omega⟩;subst hn;simp only [PXb,Int.toNat_natCast];have ol:=WW (A8 E E.length);refine AN (BV (len:=n) (fun j=>[.rows (FD (Iz (A8 E E.length) j)),.int ((j:Int)+1)]) [.rows (FD (Iz (A8 E E.length) n))] ?_ ?_ N (by omega)) ?_
  ·intro self;have e:iLe ((n:Int)+1) (n:Int)=false:=by simp only [iLe,decide_eq_false_iff_not];omega
   simp only [PXb,e]
  ·intro j self hj;have e:iLe ((j:Int)+1) (n:Int)=true:=by simp only [iLe,decide_eq_true_eq];omega
   have wj:IntKind.i64.wrap ((j:Int)+1+1)=((j+1:Nat):Int)+1:=by rw [CK (by omega) (by omega)];omega
   have eo:Iz (A8 E E.length) (j+1)=BP (Iz (A8 E E.length) j) ((j:Int)+1):=rfl;have olj:=ol j;rw [eo];generalize Iz (A8 E E.length) j=o at *
   simp only [PXb,e,wj];refine Cg (wJ (o:=o) (p:=(j:Int)+1) (by omega) ?_ ?_) ?_
   ·intro b self;simp only [PXb,HH,Aj]
   ·intro i b self hi;have wi:IntKind.i64.wrap ((i:Int)+1)=((i+1:Nat):Int):=Bt (show i≤1099511627776 by omega);have pi:pvI (AJ (FD o) i 0)=o.getD i 0:=AAv o i;simp only [PXb,HH,Ad hi,AM hi,wi,pi]
   ·have sm:iSm ((o.length+1:Nat):Int) 8=true:=DJ (by omega) (by omega);have ae:=zX o ((j:Int)+1);simp only [PXb,List.length_append,List.length_cons,List.length_nil,HH,Nat.zero_add,sm];rw [← ae];cases Nat.blt (Al ((j:Int)+1) o) o.length<;>rfl
  ·have oln:=ol n;simp only [PXb];generalize Iz (A8 E E.length) n=o at *
   refine AN (BV (len:=o.length) (fun j=>[.rows (AQ (o.take j) fun p=>I3 E p (Df X p X.length) E.length),.int (j:Int)]) [.rows (AQ o fun p=>I3 E p (Df X p X.length) E.length)] ?_ ?_ N (by omega)) ?_
   ·intro self;simp only [PXb,HH,Aj,List.take_length]
   ·intro j self hj;have wj:IntKind.i64.wrap ((j:Int)+1)=((j+1:Nat):Int):=Bt (show j≤1099511627776 by omega);have pj:pvI (AJ (FD o) j 0)=o.getD j 0:=AAv o j;have tk:AQ (o.take (j+1)) (fun p=>I3 E p (Df X p X.length) E.length)=AQ (o.take j) (fun p=>I3 E p (Df X p X.length) E.length)++[lnR (o.getD j 0) (I3 E (o.getD j 0) (Df X (o.getD j 0) X.length) E.length)]:=by
     unfold AQ;rw [List.take_add_one,List.map_append,zzk,zzn hj];rfl
    have tl:(o.take j).length≤o.length:=by rw [List.length_take];omega
    simp only [PXb,HH,Ad hj,AM hj,wj,pj];refine Cg (ABF hN se (by omega)) ?_;rw [tk];have sm:iSm (((o.take j).length+1:Nat):Int) 72=true:=DJ (by omega) (by omega);simp only [PXb,List.length_append,List.length_cons,List.length_nil,Bv,Nat.zero_add,lnR,sm]
   ·rw [oT (o:=o) (fun p _=>le p)];rfl
theorem M6 {N:Nat} {L:Rows} (hN:2097152<N) (h:L.length≤1048576):Bw N [.rows L,.rows L]=some [.bool true]:=by
 show EB (std (Ki N) N) (xOf _)=_;simp only [EB,lq9,std,xOf,PXb];simp only [PXb,PXc,PXn,AD,beq_self_eq_true,Bool.not_true];refine AN (BV (len:=L.length) (fun i=>[.int (i:Int)]) [.int 1] ?_ ?_ N (by omega)) rfl
 ·intro self;simp only [PXb,PXc,PXn,AD,Aj]
 ·intro i self hi;simp only [PXb,PXc,PXn,AD,Bt (show i≤1099511627776 by omega),Ad hi,AM hi,beq_self_eq_true,Bool.not_true]
def ug:Rows:=[[.int 1,.int 1,.int 1,.int 0,.int 0,.bool false,.int 0,.int 0,.int 0,.bool true],[.int 2,.int 0,.int 1,.int 0,.int 0,.bool true,.int 1,.int 1,.int 0,.bool true]]
def ua:ByteArray:=⟨#[65,78,78,32,40,99,41,58,32,49,32,40,49,41,32,78,79,84,32,79,85,84,10,66,79,66,32,40,107,41,58,32,48,32,40,49,41,32,66,79,87,76,69,68,32,98,32,67,76,69,79,10]⟩
theorem AFt:Fb 4194304 [.rows ug,.str ⟨#[79,65,75,83]⟩,.rows [[.str ⟨#[65,78,78]⟩],[.str ⟨#[66,79,66]⟩]],.int 1,.int 2,.str ⟨#[69,76,77,83]⟩,.rows [[.str ⟨#[67,76,69,79]⟩],[.str ⟨#[68,65,78]⟩]],.int 2,.int 2]=some [.str ua,.int 0]:=by kernel_rfl
theorem AFl:I6 iy jJ 0=(ug,0):=by kernel_rfl
set_option maxHeartbeats 2000000 in
theorem zF:Mq 4194304 []=some [.bool true]:=by
 have hs:iy.name.size≤1048576:=by decide
 have hl:jJ.length≤1000000:=by decide
 have hN:2097152<4194304:=by omega
 have k1:Cw 4194304 (iy.ls++[.rows jJ,.int 0])=some [.rows (I6 iy jJ 0).1,.int (I6 iy jJ 0).2]:=ZN hN hs (Nat.zero_le _) hl;rw [AFl] at k1;have k2:=AFt;have k3:=M6 (L:=ug) hN (by decide);obtain ⟨C,hC⟩:∃ C,C=ug:=⟨_,rfl⟩;obtain ⟨X,hX⟩:∃ X,X=ua:=⟨_,rfl⟩;have k4:∀ O:ByteArray,O=ua→(X.toList==O.toList)=true:=fun O h=>by rw [h,hX];exact beq_self_eq_true _
 rw [← hC] at k1 k2 k3;rw [← hX] at k2;show Ro (std (Eu 4194304) 4194304) (xOf [])=_;simp only [Ro,V1,N1,WX,ZM,fI,lq9,std,xOf,PXb,AGS,AEl];refine Cg k1 ?_;simp only [PXb,PXc,PXn,AD,Nat.reduceAdd];refine Cg k2 ?_;simp only [PXb,PXc,PXn,AD,Nat.reduceAdd,beq_self_eq_true];refine Cg (v:=[.bool true]) (by rw [hC] at k3 ⊢;exact k3) ?_;simp only [PXb,PXc,PXn,AD,Nat.reduceAdd];rw [hX];exact congrArg (fun b=>some [PV.bool b]) (beq_self_eq_true ua.toList)
theorem AB9 (r:Rul) (L:Rows) (k:Int):(I6 r L k).1.length≤1048576:=by
 unfold I6;cases hb:(Cs r L k).2==0 with
 | false=>exact Nat.zero_le _
 | true =>
  obtain ⟨c0,h0,h1,_⟩:=lj hb;have l4:=(DT c0).2.2.1;have rs:=(C9 (DT c0).2.1).side;show (AQ _ _).length≤_;rw [Bv];have a:=WW (A8 (Ce L k.toNat) (Ce L k.toNat).length) r.side.toNat;have b:=OD (Ce L k.toNat) (Ce L k.toNat).length;have c:(Ce L k.toNat).length≤L.length:=by
   unfold Ce;rw [List.length_drop,List.length_take];omega
  omega
set_option maxHeartbeats 4000000 in
theorem fW {N:Nat} {r8:Bool} {r0:ByteArray} {r13:Rows} {L:Rows} {k:Int} (ha:Mq N []=some [.bool true]) (hN:2097152<N) (hs:r0.size≤1048576) (h13:r13.length≤1048576):EW N [.str r0,.int r1,.int r2,.int r3,.int r4,.int r5,.int r6,.int r7,.bool r8,.int r9,.int r10,.int r11,.int r12,.rows r13,.rows L,.int k]=some [.bool true]:=by
 show EI (std (BM N) N) (xOf _)=_;have l:(cut L 60).length≤1000000:=Nat.le_trans (AFr L 60) (show 60≤1000000 by omega);simp only [EI,RU,Tj,Ou,Sa,Jb,lq9,std,xOf,PXb,ha,ABy,ZN hN hs h13 l,AAN hN hs h13 l];have fl:=AB9 (⟨r0,r1,r2,r3,r4,r5,r6,r7,r8,r9,r10,r11,r12,r13⟩:Rul) (cut L 60) k;simp only [M6 hN fl,PXb,PXc,PXn,PXm,Nat.reduceAdd,Int.reduceBEq,beq_self_eq_true]
end Go.Px
end
section
namespace Go.Proofs
open Go.Shelf
def Tryz.laysM246_ren:Go.Shelf.Ren:=⟨fun | 246=>101 | 283=>123 | 284=>124 | 285=>125 | 286=>126 | 129=>155 | 317=>154 | 318=>156 | 319=>157 | 320=>158 | 337=>182 | 338=>183 | n=>n,fun | 2=>2 | 3=>3 | 9=>9 | 4=>4 | 171=>181 | 0=>0 | 53=>166 | 37=>109 | 5=>5 | 173=>184 | 212=>202 | 51=>203 | 20=>20 | 213=>204 | 46=>205 | 232=>229 | 233=>230 | n=>n,fun | 17=>0 | 18=>1 | 19=>2 | n=>n⟩
theorem Tryz.laysM246:Go.Proofs.LaysM.n246 Tryz.prog Tryz.laysM246_ren:={
  mixed:=by kernel_rfl
  f129:=Tryz.func155.trans (congrArg some (by kernel_rfl))
  f246:=Tryz.func101.trans (congrArg some (by kernel_rfl))
  f283:=Tryz.func123.trans (congrArg some (by kernel_rfl))
  f284:=Tryz.func124.trans (congrArg some (by kernel_rfl))
  f285:=Tryz.func125.trans (congrArg some (by kernel_rfl))
  f286:=Tryz.func126.trans (congrArg some (by kernel_rfl))
  f317:=Tryz.func154.trans (congrArg some (by kernel_rfl))
  f318:=Tryz.func156.trans (congrArg some (by kernel_rfl))
  f319:=Tryz.func157.trans (congrArg some (by kernel_rfl))
  f320:=Tryz.func158.trans (congrArg some (by kernel_rfl))
  f337:=Tryz.func182.trans (congrArg some (by kernel_rfl))
  f338:=Tryz.func183.trans (congrArg some (by kernel_rfl))
  t0:=Tryz.underlying0
  a0:=Tryz.isAgg0
  z0:=Tryz.sizeOf0
  v0:=Tryz.zeroValue0
  t2:=Tryz.underlying2
  a2:=Tryz.isAgg2
  z2:=Tryz.sizeOf2
  v2:=Tryz.zeroValue2
  t3:=Tryz.underlying3
  a3:=Tryz.isAgg3
  z3:=Tryz.sizeOf3
  v3:=Tryz.zeroValue3
  t4:=Tryz.underlying4
  a4:=Tryz.isAgg4
  z4:=Tryz.sizeOf4
  v4:=Tryz.zeroValue4
  t5:=Tryz.underlying5
  a5:=Tryz.isAgg5
  z5:=Tryz.sizeOf5
  v5:=Tryz.zeroValue5
  t9:=Tryz.underlying9
  a9:=Tryz.isAgg9
  z9:=Tryz.sizeOf9
  v9:=Tryz.zeroValue9
  t20:=Tryz.underlying20
  a20:=Tryz.isAgg20
  z20:=Tryz.sizeOf20
  v20:=Tryz.zeroValue20
  t37:=Tryz.underlying109
  a37:=Tryz.isAgg109
  z37:=Tryz.sizeOf109
  v37:=Tryz.zeroValue109
  t46:=Tryz.underlying205
  a46:=Tryz.isAgg205
  z46:=Tryz.sizeOf205
  v46:=Tryz.zeroValue205
  t51:=Tryz.underlying203
  a51:=Tryz.isAgg203
  z51:=Tryz.sizeOf203
  v51:=Tryz.zeroValue203
  t53:=Tryz.underlying166
  a53:=Tryz.isAgg166
  z53:=Tryz.sizeOf166
  v53:=Tryz.zeroValue166
  t171:=Tryz.underlying181
  a171:=Tryz.isAgg181
  z171:=Tryz.sizeOf181
  v171:=Tryz.zeroValue181
  t173:=Tryz.underlying184
  a173:=Tryz.isAgg184
  z173:=Tryz.sizeOf184
  v173:=Tryz.zeroValue184
  t212:=Tryz.underlying202
  a212:=Tryz.isAgg202
  z212:=Tryz.sizeOf202
  v212:=Tryz.zeroValue202
  t213:=Tryz.underlying204
  a213:=Tryz.isAgg204
  z213:=Tryz.sizeOf204
  t232:=Tryz.underlying229
  a232:=Tryz.isAgg229
  z232:=Tryz.sizeOf229
  v232:=Tryz.zeroValue229
  t233:=Tryz.underlying230
  a233:=Tryz.isAgg230
  z233:=Tryz.sizeOf230
  v233:=Tryz.zeroValue230
  g17:=by kernel_rfl
  g18:=by kernel_rfl
  g19:=by kernel_rfl
  i0:=by kernel_rfl
  i2:=by kernel_rfl
  i3:=by kernel_rfl
  i4:=by kernel_rfl
  i5:=by kernel_rfl
  i9:=by kernel_rfl
  i20:=by kernel_rfl
  i37:=by kernel_rfl
  i46:=by kernel_rfl
  i51:=by kernel_rfl
  i53:=by kernel_rfl
  i171:=by kernel_rfl
  i173:=by kernel_rfl
  i212:=by kernel_rfl
  i232:=by kernel_rfl
  i233:=by kernel_rfl
  m17:=by kernel_rfl
  m18:=by kernel_rfl
  m19:=by kernel_rfl }
open Go.RowKit Go.Sort Go.Lib in
theorem Tryz.internal_strconv_FormatInt_10 (n : Int) (h0 : -9223372036854775808 ≤ n) (h1 : n ≤ 9223372036854775807) (w : World) (htab : Lib.TabIs Tryz.prog w "internal/strconv.uint64pow10" .u64 Lib.pow10Tab) :
    Calls Tryz.prog 101 #[.int .i64 n,.int .i64 10] w fun e w'=>e=.returned (.string ⟨(Lib.itoa n).toArray⟩)∧∃ k os,w'=grow (w.drewN k) os:=Any.internal_strconv_FormatInt_10 Tryz.laysM246 n h0 h1 w htab
end Go.Proofs
end
section
namespace Go.Px
open Go.Lib Go.RowKit
section
variable {P:Program} {w:World}
theorem BufAt.kept {w':World} {e:TypeId} {v:Value} {bs:List Value} (h:BufAt w e v bs) (hw:∀ g,v.ownBlock=some g→w'.heap[g]?=w.heap[g]?):BufAt w' e v bs:=by
 rcases h with h | ⟨g,cap,cur,h1,h2,h3⟩
 ·exact .inl h
 ·exact .inr ⟨g,cap,cur,h1,(hw g (by rw [h1];rfl)).trans h2,h3⟩
theorem XR (e : TypeId) (xs : List Value) (hx : 0 < xs.length) (old : Nat) (row : Option Nat) :
    BufAt (w.drew.alloc (.cells (xs.toArray++Builtin.zeroCells (Value.int .u8 0).cells (grownCap w xs.length old e - xs.length)) e)) e (.slice (some ⟨w.heap.size,0,none⟩) xs.length (grownCap w xs.length old e)) xs ∧
      w.grownBy (w.drew.alloc (.cells (xs.toArray++Builtin.zeroCells (Value.int .u8 0).cells (grownCap w xs.length old e - xs.length)) e)) row:=by
  have hge:=grownCap_ge w xs.length old e;refine ⟨.inr ⟨w.heap.size,_,_,rfl,heap_alloc_new w.drew _,by omega,hge,?_,?_⟩,⟨rfl,rfl,rfl,by simp,fun k hk _=>Lib.alloc_old w.drew _ k hk⟩⟩
  · have hz1:(Value.int IntKind.u8 0).cells.size=1:=rfl;simp only [Array.size_append,List.size_toArray,size_zeroCells,hz1];omega
  · simp only [Array.toList_append];exact List.take_left
theorem rm (t u ty e : TypeId) (i : TypeInfo) (ht : P.underlying t = some (.slice e)) (hu : P.underlying u = some .string) (hi : P.info? e = some i) (hz : i.zero = some (.int .u8 0))
    (hsize:i.size=1) (hby:i.bytes=1) (v:Value) (xs:List Value) (h:BufAt w e v xs) (s:ByteArray) (hb:xs.length+s.size≤140737488355328) :
    ∃ v' w',(Builtin.append_ #[t,u] ty #[v,.string s]).run P w=.ok v' w'∧BufAt w' e v' (xs++strCells s)∧w.grownBy w' v.ownBlock∧U4 w v v':=by
  have hlen:(xs++strCells s).length=xs.length+s.size:=by rw [List.length_append,strCells_length]
  rcases h with ⟨rfl,rfl⟩ | ⟨g,cap,cur,rfl,hg,hc0,hnc,hcs,htake⟩
  · by_cases hm:s.size=0
    · have hn:strCells s=[]:=List.eq_nil_of_length_eq_zero (by rw [strCells_length];exact hm);refine ⟨.slice none 0 0,w,?_,by rw [hn];exact .inl ⟨rfl,rfl⟩,⟨rfl,rfl,rfl,Nat.le_refl _,fun _ _ _=>rfl⟩,.inl rfl⟩;have hf:=run_firstCells_string (P:=P) w 1 s;rw [hm] at hf;simp [Builtin.append_,run_underlying ht,run_underlying hu,sizeOf,typeInfo,hi,hsize,Builtin.lenOf,hm,hf]
    · have hr:=run_append_nil_string (P:=P) w t u ty e i (.int .u8 0) ht hu hi hz s (by omega) (by simp at hb;omega) (by rw [hby];simp at hb;omega);have e1:(s.data.map fun b=>Value.int .u8 b.toNat)=(strCells s).toArray:=by
        apply Array.ext';simp [strCells]
      rw [e1] at hr;have hgr:=XR (w:=w) e (strCells s) (by rw [strCells_length];omega) 0 (Value.ownBlock (.slice none 0 0));rw [strCells_length] at hgr;simp only [List.nil_append] at hgr ⊢;exact ⟨_,_,hr,hgr.1,hgr.2,.inr ⟨_,rfl,Nat.le_refl _⟩⟩
  · by_cases hroom:xs.length+s.size≤cap
    · have hr:=run_append_room_string (P:=P) w t u ty e i ht hu hi hsize g xs.length cap cur hg s hroom (by omega);refine ⟨_,_,hr,.inr ⟨g,cap,_,by rw [hlen],setRow_heap w g cur _ e _ hg,hc0,by rw [hlen];exact hroom,?_,?_⟩,⟨rfl,rfl,rfl,by simp,fun k _ hk=>setRow_other w g k _ (fun e=>hk (by simp [Value.ownBlock,e]))⟩,.inl rfl⟩
      · simp only [List.size_toArray,List.length_append,List.length_take,List.length_drop,Array.length_toList,strCells_length];omega
      · simp only [];rw [htake,List.take_left]
    · have holds : ∀ j u, xs[j]? = some u → w.cell? ((⟨g, 0, none⟩ : Addr).add j) = some u := fun j u hj => by
        have hjl:j<xs.length:=(List.getElem?_eq_some_iff.1 hj).1;rw [← htake,List.getElem?_take] at hj;rw [if_pos hjl] at hj;rw [JF];simpa [World.cell?,hg] using hj
      have hr:=run_append_grow_string (P:=P) w t u ty e i (.int .u8 0) ht hu hi hz ⟨g,0,none⟩ xs.length cap xs (by rw [hsize];simp) holds s (by omega) (by omega) (by rw [hby];exact growslice_fits (by omega) (by omega));have hgr:=XR (w:=w) e (xs++strCells s) (by rw [hlen];omega) cap (Value.ownBlock (.slice (some ⟨g,0,none⟩) xs.length cap));rw [hlen] at hgr;rw [← List.append_toArray] at hgr;exact ⟨_,_,hr,hgr.1,hgr.2,.inr ⟨_,rfl,Nat.le_refl _⟩⟩
theorem mR (t ty e : TypeId) (i : TypeInfo) (ht : P.underlying t = some (.slice e)) (hi : P.info? e = some i) (hz : i.zero = some (.int .u8 0))
    (hsize:i.size=1) (hby:i.bytes=1) (v:Value) (xs:List Value) (h:BufAt w e v xs) (a:Addr) (c:Nat) (news:List Value) (hn0:0<news.length) (hnews:∀ j u,news[j]?=some u→w.cell? (a.add j)=some u) (h1:∀ u∈news,u.oneCell'=true) (hb:xs.length+news.length≤140737488355328) :
    ∃ v' w',(Builtin.append_ #[t,t] ty #[v,.slice (some a) news.length c]).run P w=.ok v' w'∧BufAt w' e v' (xs++news)∧w.grownBy w' v.ownBlock∧U4 w v v':=by
  have hlen:(xs++news).length=xs.length+news.length:=List.length_append;have hl:news.length=news.length * i.size:=by rw [hsize,Nat.mul_one]
  rcases h with ⟨rfl,rfl⟩ | ⟨g,cap,cur,rfl,hg,hc0,hnc,hcs,htake⟩
  · have hr:=run_append_nil (P:=P) w t ty e i (.int .u8 0) ht hi hz a news.length c news hl hnews hn0 (by simp at hb;omega) (by rw [hby];simp at hb;omega);have hgr:=XR (w:=w) e news hn0 0 (Value.ownBlock (.slice none 0 0));simp only [List.nil_append] at hgr ⊢;exact ⟨_,_,hr,hgr.1,hgr.2,.inr ⟨_,rfl,Nat.le_refl _⟩⟩
  · by_cases hroom:xs.length+news.length≤cap
    · have hr:=run_append_room (P:=P) w t ty e i ht hi g xs.length cap cur hg a news.length c news hl hnews h1 hroom (by rw [hsize];omega);rw [hsize,Nat.mul_one] at hr;refine ⟨_,_,hr,.inr ⟨g,cap,_,by rw [hlen],setRow_heap w g cur _ e _ hg,hc0,by rw [hlen];exact hroom,?_,?_⟩,⟨rfl,rfl,rfl,by simp,fun k _ hk=>setRow_other w g k _ (fun e=>hk (by simp [Value.ownBlock,e]))⟩,.inl rfl⟩
      · simp only [List.size_toArray,List.length_append,List.length_take,List.length_drop,Array.length_toList];omega
      · simp only [];rw [htake,List.take_left]
    · have holds : ∀ j u, xs[j]? = some u → w.cell? ((⟨g, 0, none⟩ : Addr).add j) = some u := fun j u hj => by
        have hjl:j<xs.length:=(List.getElem?_eq_some_iff.1 hj).1;rw [← htake,List.getElem?_take] at hj;rw [if_pos hjl] at hj;rw [JF];simpa [World.cell?,hg] using hj
      have hr:=run_append_grow (P:=P) w t ty e i (.int .u8 0) ht hi hz ⟨g,0,none⟩ xs.length cap xs (by rw [hsize];simp) holds a news.length c news hl hnews (by omega) (by omega) (by rw [hby];exact growslice_fits (by omega) (by omega));have hgr:=XR (w:=w) e (xs++news) (by rw [hlen];omega) cap (Value.ownBlock (.slice (some ⟨g,0,none⟩) xs.length cap));rw [hlen] at hgr;rw [← List.append_toArray] at hgr;exact ⟨_,_,hr,hgr.1,hgr.2,.inr ⟨_,rfl,Nat.le_refl _⟩⟩
theorem ja {ops : Array Oper} {rest : List Oper} {o : Oper} {a : Act} {Q : Exit → Act → World → Prop} (hgd : o.guard = none) (sl x : Operand) (t u : TypeId)
    (ho:o.op=.call { callee:=.builtin .append,args:=#[sl,x],argTypes:=#[t,u] })
    (e:TypeId) (i:TypeInfo) (ht:P.underlying t=some (.slice e)) (hu:P.underlying u=some .string) (hi:P.info? e=some i) (hz:i.zero=some (.int .u8 0))
    (hsize:i.size=1) (hby:i.bytes=1) (v:Value) (xs:List Value) (hs:a.eval sl=v) (hown:BufAt w e v xs) (s:ByteArray) (hx:a.eval x=.string s) (hb:xs.length+s.size≤140737488355328)
    (h:∀ v' w',BufAt w' e v' (xs++strCells s)→w.grownBy w' v.ownBlock→U4 w v v'→wpList P ops Q rest (a.put o.dst v') w'):wpList P ops Q (o::rest) a w:=by
  refine wpList_plain hgd fun K hK=>?_
  obtain ⟨v',w',hr,h2,h3,h4⟩:=rm (P:=P) (w:=w) t u o.type e i ht hu hi hz hsize hby v xs hown s hb;unfold Oper.wp execOp;simp only [ho,resolve,invoke,builtin,Sem.run_bind,Sem.run_pure,Result.andThen_ok,List.map_toArray,List.map_cons,List.map_nil,hs,hx,hr];exact hK _ _ (h v' w' h2 h3 h4)
theorem eg {ops : Array Oper} {rest : List Oper} {o : Oper} {a : Act} {Q : Exit → Act → World → Prop} (hgd : o.guard = none) (sl x : Operand) (t : TypeId)
    (ho:o.op=.call { callee:=.builtin .append,args:=#[sl,x],argTypes:=#[t,t] })
    (e:TypeId) (i:TypeInfo) (ht:P.underlying t=some (.slice e)) (hi:P.info? e=some i) (hz:i.zero=some (.int .u8 0))
    (hsize:i.size=1) (hby:i.bytes=1) (v:Value) (xs:List Value) (hs:a.eval sl=v) (hown:BufAt w e v xs) (ad:Addr) (m c:Nat) (news:List Value) (hx:a.eval x=.slice (some ad) m c) (hm:news.length=m) (hn0:0<m)
    (hnews:∀ j u,news[j]?=some u→w.cell? (ad.add j)=some u) (h1:∀ u∈news,u.oneCell'=true) (hb:xs.length+news.length≤140737488355328)
    (h:∀ v' w',BufAt w' e v' (xs++news)→w.grownBy w' v.ownBlock→U4 w v v'→wpList P ops Q rest (a.put o.dst v') w'):wpList P ops Q (o::rest) a w:=by
  subst hm;refine wpList_plain hgd fun K hK=>?_
  obtain ⟨v',w',hr,h2,h3,h4⟩:=mR (P:=P) (w:=w) t o.type e i ht hi hz hsize hby v xs hown ad c news hn0 hnews h1 hb;unfold Oper.wp execOp;simp only [ho,resolve,invoke,builtin,Sem.run_bind,Sem.run_pure,Result.andThen_ok,List.map_toArray,List.map_cons,List.map_nil,hs,hx,hr];exact hK _ _ (h v' w' h2 h3 h4)
theorem pC {e T:TypeId} {b:Nat} {v p x:Value} {bs:List Value} (h:BufAt w e v bs) (hb:w.heap[b]?=some (.cells #[p,x] T (0,0))) (hT:T≠e):v.ownBlock≠some b:=by
 rcases h with ⟨rfl,_⟩ | ⟨g,cap,cur,rfl,hg,_⟩
 ·simp [Value.ownBlock]
 ·intro h;simp only [Value.ownBlock,Option.some.injEq] at h;subst h;rw [hg] at hb;simp only [Option.some.injEq,Obj.cells.injEq] at hb;exact hT hb.2.1.symm
def zl (w:World) (T e:TypeId) (b:Nat) (v:Value) (bs:List Value) (w':World):Prop :=
 w'.heap[b]?=some (.cells #[.pointer (some ⟨b,0,none⟩),v] T (0,0))∧BufAt w' e v bs∧Rest w w' b none∧w'.heap.size=w.heap.size
theorem zi (T e : TypeId) (hT : T ≠ e) {b : Nat} {v v' : Value} {bs bs' : List Value} {w w1 w2 w3 : World} (h1 : zl w T e b v bs w1) (hal : w2 = w1 ∨ ∃ o, w2 = w1.alloc o) (hg : w2.grownBy w3 v.ownBlock) (hs : U4 w2 v v') (hb : BufAt w3 e v' bs') (hv : v.ownBlock ≠ some b) :
    U7 w T e b v bs' (w3.setCell ⟨b,1,none⟩ v'):=by
  obtain ⟨hbk,hbuf,hr,hsz⟩:=h1;have hlt:b<w1.heap.size:=BI hbk;have h12:w1.heap.size≤w2.heap.size∧(∀ k,k<w1.heap.size→w2.heap[k]?=w1.heap[k]?)∧w2.os=w1.os∧w2.tape=w1.tape∧w2.output=w1.output:=by
    rcases hal with rfl | ⟨o,rfl⟩
    · exact ⟨Nat.le_refl _,fun _ _=>rfl,rfl,rfl,rfl⟩
    · exact ⟨by simp,fun k hk=>Lib.alloc_old w1 _ k hk,rfl,rfl,rfl⟩
  obtain ⟨s12,b12,o1,o2,o3⟩:=h12;have hb3:w3.heap[b]?=some (.cells #[.pointer (some ⟨b,0,none⟩),v] T (0,0)):=by rw [hg.block b (by omega) (fun e=>hv e.symm),b12 b hlt];exact hbk
  have hne:=pC hb hb3 hT;have hset:(w3.setCell ⟨b,1,none⟩ v').heap.size=w3.heap.size:=by simp [World.setCell]
  refine ⟨v',by simp [World.setCell,Array.getElem?_modify,hb3],hb.kept (fun g hgg=>?_),⟨?_,?_,?_,?_,fun k hk hkb hkg=>?_⟩,?_⟩
  · exact Below.heap_setCell _ _ _ _ (fun e=>hne (by rw [hgg];simp at e;rw [e]))
  · exact (hg.os.trans o1).trans hr.os
  · exact (hg.tape.trans o2).trans hr.tape
  · exact (hg.output.trans o3).trans hr.output
  · have:=hg.size;rw [hset];omega
  · rw [Below.heap_setCell _ _ _ _ (fun e=>hkb (by simpa using e)),hg.block k (by omega) (fun e=>hkg e.symm),b12 k (by omega),hr.block k hk hkb (by simp)]
  · rcases hs with hs | ⟨g,h1,h2⟩
    · exact .inl hs
    · exact .inr ⟨g,h1,by omega⟩
theorem y9 (w:World) (g n:Nat) (v:Value) (hv:v.ownBlock=some g):ADI w v (w.drew.freeze ⟨g,0,none⟩ n):=by
 unfold World.freeze
 split
 ·exact ⟨rfl,rfl,rfl,Nat.le_refl _,fun _ _ _=>rfl⟩
 ·refine ⟨rfl,rfl,rfl,by simp,fun k hk hkv=>?_⟩;simp only [Array.getElem?_modify];rw [if_neg (fun e=>hkv (by rw [hv,e]))];rfl
end
end Go.Px
end
section
namespace Go.Px
open Go.Lib Go.Proofs Go.RowKit
theorem AEY:(Tryz.prog.info? 5).map (fun i=>(i.zero,i.size,i.bytes))=some (some (.int .u8 0),1,1):=by kernel_rfl
set_option maxHeartbeats 1000000 in
set_option maxRecDepth 100000 in
theorem AEp (b : Nat) (w : World) (h0 : w.cell? ⟨b, 0, none⟩ = some (.pointer (some ⟨b, 0, none⟩))) :
    Calls Tryz.prog 76 #[.pointer (some ⟨b,0,none⟩)] w fun e w'=>e=.returned (.tuple #[])∧w'=w:=by
  obtain ⟨j,hj,_⟩:=zzo.1 (show (Tryz.prog.info? 111).map (·.size)=some 2 by kernel_rfl)
  go_enter Tryz.func76,Tryz.ntmps76
  go_wp2
  rw [Lib.run_neq_ptr_same w _ Tryz.underlying108 hj]
  go_wp2
  go_end0
  exact ⟨rfl,rfl⟩
set_option maxHeartbeats 1000000 in
set_option maxRecDepth 100000 in
theorem AC1 (b : Nat) (w : World) (h0 : w.cell? ⟨b, 0, none⟩ = some (.pointer none)) (hsh : w.shape? b = some (111, 2)) (hfz : w.frozen? ⟨b, 0, none⟩ = false) :
    Calls Tryz.prog 76 #[.pointer (some ⟨b,0,none⟩)] w fun e w'=>e=.returned (.tuple #[])∧w'=w.setCell ⟨b,0,none⟩ (.pointer (some ⟨b,0,none⟩)):=by
  obtain ⟨j,hj,hjs⟩:=zzo.1 (show (Tryz.prog.info? 111).map (·.size)=some 2 by kernel_rfl)
  go_enter Tryz.func76,Tryz.ntmps76
  go_wp2
  rw [Lib.run_to_unsafe w ⟨b,0,none⟩ Tryz.underlying108 Tryz.underlying164 hj (by rw [hjs];decide) hsh (Nat.zero_lt_succ 1)];simp only [Result.andThen];rw [Oper.upon_value]
  go_wp2
  rw [run_callFunc_extern Tryz.func100 (by kernel_rfl) (by kernel_rfl) (by kernel_rfl) (e:=Extern.AbiNoEscape.same) (by kernel_rfl)];rw [Lib.run_noEscape];simp only [Result.andThen];rw [Oper.upon_value]
  go_wp2
  rw [Lib.run_from_unsafe w ⟨b,0,none⟩ Tryz.underlying164 Tryz.underlying108 hj hsh (by kernel_rfl)];simp only [Result.andThen];rw [Oper.upon_value]
  go_wp2
  go_end0
  exact ⟨rfl,rfl⟩
theorem og (b : Nat) (v : Value) (bs : List Value) (w : World) (h : Uh w 111 5 b v bs) :
    Calls Tryz.prog 76 #[.pointer (some ⟨b,0,none⟩)] w fun e w'=>e=.returned (.tuple #[])∧zl w 111 5 b v bs w':=by
  obtain ⟨⟨p,hb,hp⟩,hbuf⟩:=h;have hne:=pC hbuf hb (by decide);have c0:w.cell? ⟨b,0,none⟩=some p:=by rw [Lib.cell_of_heap hb];rfl
  rcases hp with rfl | rfl
  · refine (AC1 b w c0 (by simp [World.shape?,hb]) (Lib.frozen_of_heap hb 0)).mono ?_
    rintro e w' ⟨rfl,rfl⟩
    refine ⟨rfl,by simp [World.setCell,Array.getElem?_modify,hb],hbuf.kept (fun g hg=>?_),⟨rfl,rfl,rfl,by simp [World.setCell],fun k _ hk _=>?_⟩,by simp [World.setCell]⟩
    · exact Below.heap_setCell _ _ _ _ (fun e=>hne (by rw [hg];simp at e;rw [e]))
    · exact Below.heap_setCell _ _ _ _ (fun e=>hk (by simpa using e))
  · refine (AEp b w c0).mono ?_
    rintro e w' ⟨rfl,rfl⟩
    exact ⟨rfl,hb,hbuf,⟨rfl,rfl,rfl,Nat.le_refl _,fun _ _ _ _=>rfl⟩,rfl⟩
set_option maxHeartbeats 2000000 in
set_option maxRecDepth 100000 in
theorem vH (b : Nat) (v : Value) (bs : List Value) (s : ByteArray) (w : World) (h : Uh w 111 5 b v bs) (hlen : bs.length + s.size ≤ 140737488355328) :
    Calls Tryz.prog 41 #[.pointer (some ⟨b,0,none⟩),.string s] w fun e w'=>e=.returned (.tuple #[.int .i64 s.size,.nilIface])∧U7 w 111 5 b v (bs++strCells s) w':=by
  obtain ⟨i0,hi,hz0,hz1,hz2⟩:=info_parts AEY;have hne0:v.ownBlock≠some b:=by
    obtain ⟨⟨p,hb,hp⟩,hbuf⟩:=h;exact pC hbuf hb (by decide)
  go_enter Tryz.func41,Tryz.ntmps41
  go_wp2_with (go_at_call 76;refine (og b v bs _ h).mono ?_)
  rintro e w1 ⟨rfl,hck⟩
  have hbk:=hck.1;have hbuf:=hck.2.1;have c0:w1.cell? ⟨b,0,none⟩=some (.pointer (some ⟨b,0,none⟩)):=by rw [Lib.cell_of_heap hbk];rfl
  have c1:w1.cell? ⟨b,1,none⟩=some v:=by rw [Lib.cell_of_heap hbk];rfl
  go_wp2_with (at_builtin;refine ja rfl _ _ 109 9 rfl 5 i0 Tryz.underlying109 Tryz.underlying9 hi hz0 hz1 hz2 v bs rfl hbuf s rfl hlen ?_)
  intro v' w2 hown' hgrow hsame;have hlt:b<w1.heap.size:=BI hbk;have hb2:w2.heap[b]?=some (.cells #[.pointer (some ⟨b,0,none⟩),v] 111 (0,0)):=by
    rw [hgrow.block b hlt (fun e=>hne0 e.symm)];exact hbk
  have d0:w2.cell? ⟨b,0,none⟩=some (.pointer (some ⟨b,0,none⟩)):=by rw [Lib.cell_of_heap hb2];rfl
  have d1:w2.cell? ⟨b,1,none⟩=some v:=by rw [Lib.cell_of_heap hb2];rfl
  have f1:w2.frozen? ⟨b,1,none⟩=false:=Lib.frozen_of_heap hb2 1;have hw:=zi 111 5 (by decide) hck (.inl rfl) hgrow hsame hown' hne0;obtain ⟨ao,n',cap,rfl⟩:∃ ao n' cap,v'=.slice ao n' cap:=by
    rcases hown' with ⟨hv,_⟩ | ⟨g,cap,cur,hv,_⟩
    · exact ⟨_,_,_,hv⟩
    · exact ⟨_,_,_,hv⟩
  go_wp2
  go_ret2
  exact ⟨rfl,hw⟩
set_option maxHeartbeats 2000000 in
set_option maxRecDepth 100000 in
theorem AAW (b : Nat) (v : Value) (bs : List Value) (c : Int) (w : World) (h : Uh w 111 5 b v bs) (hlen : bs.length + 1 ≤ 140737488355328) :
    Calls Tryz.prog 44 #[.pointer (some ⟨b,0,none⟩),.int .u8 c] w fun e w'=>e=.returned .nilIface∧U7 w 111 5 b v (bs++[.int .u8 c]) w':=by
  obtain ⟨i0,hi,hz0,hz1,hz2⟩:=info_parts AEY;have hne0:v.ownBlock≠some b:=by
    obtain ⟨⟨p,hb,hp⟩,hbuf⟩:=h;exact pC hbuf hb (by decide)
  go_enter Tryz.func44,Tryz.ntmps44
  go_wp2_with (go_at_call 76;refine (og b v bs _ h).mono ?_)
  rintro e w1 ⟨rfl,hck⟩
  have hbk:=hck.1;have hbuf:=hck.2.1;have hlt:b<w1.heap.size:=BI hbk;have c0:w1.cell? ⟨b,0,none⟩=some (.pointer (some ⟨b,0,none⟩)):=by rw [Lib.cell_of_heap hbk];rfl
  have c1:w1.cell? ⟨b,1,none⟩=some v:=by rw [Lib.cell_of_heap hbk];rfl
  go_wp2_with (at_builtin;refine eg rfl _ _ 109 rfl 5 i0 Tryz.underlying109 hi hz0 hz1 hz2 v bs rfl ?c0 ⟨w1.heap.size,0,none⟩ 1 1 [.int .u8 c] rfl rfl Nat.one_pos ?c1 ?c2 hlen ?_)
  case c0 =>
    refine hbuf.kept fun g hg=>?_
    refine Lib.alloc_old w1 _ g ?_
    rcases hbuf with ⟨rfl,_⟩ | ⟨g',cap,cur,rfl,hgg,_⟩
    · simp [Value.ownBlock] at hg
    · simp only [Value.ownBlock,Option.some.injEq] at hg;subst hg;exact BI hgg
  case c1 =>
    intro j u hj
    match j,hj with
    | 0,hj=>simp at hj;subst hj;simp [Addr.add]
  case c2=>intro u hu;simp at hu;subst hu;rfl
  intro v' w2 hown' hgrow hsame;have hb2:w2.heap[b]?=some (.cells #[.pointer (some ⟨b,0,none⟩),v] 111 (0,0)):=by
    rw [hgrow.block b (by simp;omega) (fun e=>hne0 e.symm),Lib.alloc_old w1 _ b hlt];exact hbk
  have d0:w2.cell? ⟨b,0,none⟩=some (.pointer (some ⟨b,0,none⟩)):=by rw [Lib.cell_of_heap hb2];rfl
  have d1:w2.cell? ⟨b,1,none⟩=some v:=by rw [Lib.cell_of_heap hb2];rfl
  have f1:w2.frozen? ⟨b,1,none⟩=false:=Lib.frozen_of_heap hb2 1;have hw:=zi 111 5 (by decide) hck (.inr ⟨_,rfl⟩) hgrow hsame hown' hne0;obtain ⟨ao,n',cap,rfl⟩:∃ ao n' cap,v'=.slice ao n' cap:=by
    rcases hown' with ⟨hv,_⟩ | ⟨g,cap,cur,hv,_⟩
    · exact ⟨_,_,_,hv⟩
    · exact ⟨_,_,_,hv⟩
  go_wp2
  go_ret
  exact ⟨rfl,hw⟩
set_option maxHeartbeats 1000000 in
set_option maxRecDepth 100000 in
theorem yI (b : Nat) (v : Value) (l : List UInt8) (w : World) (h : Uh w 111 5 b v (Lib.byteCells l)) (hl63 : l.length ≤ 9223372036854775807) :
    Calls Tryz.prog 45 #[.pointer (some ⟨b,0,none⟩)] w fun e w'=>e=.returned (.string ⟨l.toArray⟩)∧ADI w v w':=by
  obtain ⟨⟨p,hbk,hp⟩,hbuf⟩:=h;have c1:w.drew.cell? ⟨b,1,none⟩=some v:=by
    have:w.drew.heap[b]?=some (.cells #[p,v] 111 (0,0)):=hbk;rw [Lib.cell_of_heap this];rfl
  have mixed:Tryz.prog.follows .mixedOrders=true:=by kernel_rfl
  rcases hbuf with ⟨rfl,hl⟩ | ⟨g,cap,cur,rfl,hg,hc0,hnc,hcs,htake⟩
  · have hl:l=[]:=by simpa [Lib.byteCells] using hl
    subst hl;have hUS:∀ (W:World) (q:Option Addr),(Builtin.unsafeString_ #[146,3] 9 #[.pointer q,.int .i64 0]).run Tryz.prog W=.ok (.string .empty) W:=fun W q=>Lib.run_unsafeString_none W _ _ _ q
    have hSD:(Builtin.unsafeSliceData_ #[109] 146 #[.slice none 0 0]).run Tryz.prog w.drew=.ok (.pointer none) w.drew:=rfl
    go_enter Tryz.func45,Tryz.ntmps45
    go_wp2
    go_region_o
    all_goals (go_wp2;go_ret;exact ⟨rfl,rfl,rfl,rfl,Nat.le_refl _,fun _ _ _=>rfl⟩)
  · rw [Lib.byteCells_length] at hnc c1;have hSD:(Builtin.unsafeSliceData_ #[109] 146 #[.slice (some ⟨g,0,none⟩) l.length cap]).run Tryz.prog w.drew=.ok (.pointer (some ⟨g,0,none⟩)) w.drew :=
      Lib.run_unsafeSliceData_row _ _ _ _ _ _ (by omega)
    by_cases h0:l=[]
    · subst h0;have hUS:∀ (W:World) (q:Option Addr),(Builtin.unsafeString_ #[146,3] 9 #[.pointer q,.int .i64 0]).run Tryz.prog W=.ok (.string .empty) W:=fun W q=>Lib.run_unsafeString_none W _ _ _ q
      simp only [List.length_nil] at c1 hSD;clear hc0
      go_enter Tryz.func45,Tryz.ntmps45
      go_wp2
      go_region_o
      all_goals (go_wp2;go_ret;exact ⟨rfl,rfl,rfl,rfl,Nat.le_refl _,fun _ _ _=>rfl⟩)
    · have hUS : (Builtin.unsafeString_ #[146, 3] 9 #[.pointer (some ⟨g, 0, none⟩), .int .i64 l.length]).run Tryz.prog w.drew = .ok (.string ⟨l.toArray⟩) (w.drew.freeze ⟨g, 0, none⟩ l.length) := by
        refine Lib.run_unsafeString_row w.drew 146 3 9 5 Tryz.underlying146 (by kernel_rfl) g cur.size (by have hg':w.drew.heap[g]?=some (.cells cur 5 (0,0)):=hg;simp [World.shape?,hg']) l h0 (by omega) hl63 ?_;intro j x hx;have hj:j<l.length:=(List.getElem?_eq_some_iff.1 hx).1;have h1:(Lib.byteCells l)[j]?=some (.int .u8 x.toNat):=by simp [Lib.byteCells,hx]
        rw [← htake,List.getElem?_take,if_pos (by rw [Lib.byteCells_length];exact hj)] at h1;have hg':w.drew.heap[g]?=some (.cells cur 5 (0,0)):=hg;rw [JF];simpa [World.cell?,hg'] using h1
      have hrd:=fun n=>y9 w g n (.slice (some ⟨g,0,none⟩) (Lib.byteCells l).length cap) rfl
      go_enter Tryz.func45,Tryz.ntmps45
      go_wp2
      go_region_o
      all_goals (go_wp2;go_ret;exact ⟨rfl,hrd _⟩)
def AC2:List Bld:=[⟨41,0,111,5⟩,⟨44,1,111,5⟩,⟨45,2,111,5⟩]
theorem AFj:∀ b∈AC2,UI Tryz.prog b:=fun b h=>by
 simp only [AC2,List.mem_cons,List.not_mem_nil,or_false] at h
 rcases h with rfl | rfl | rfl
 ·exact fun n v bs s w h hl=>vH n v bs s w h hl
 ·exact fun n v bs c w h hl=>AAW n v bs c w h hl
 ·exact fun n v l w h hl=>yI n v l w h hl
end Go.Px
end
