/- Part 14. -/
import Derived.Test.YtkeljoongnpppaaGreatDoorPart13
set_option linter.unusedVariables false
set_option linter.unusedSimpArgs false
variable {r1 r2 r3 r4 r5 r6 r7 r9 r10 r11 r12:Int}
section
namespace Go.Px
set_option maxRecDepth 100000
def SH (L:Rows) (i:Nat) (s:Rows×Mat):List PV ⊕ Rows×Mat:=cond (!((BJ i s.2 (evR L i)).2==0)) (.inl (.int 0::.rows s.1::.int i::.int (BJ i s.2 (evR L i)).2::s.2.ls)) (.inr (cond ((evR L i).kind==4) (s.1++[eP i s.2 (BJ i s.2 (evR L i)).1 (evR L i).ball]) s.1,(BJ i s.2 (evR L i)).1))
def pi (out:Rows) (f:Mat×Int×Int):List PV:=cond (f.2.1 == -1) (.int 1::.rows out::f.1.ls) (.int 0::.rows out::.int f.2.1::.int f.2.2::f.1.ls)
theorem iE (L:Rows):∀ k i s,eF (SH L) (fun s=>.int 1::.rows s.1::s.2.ls) k i s=pi (Ss L k i s.2 s.1) (CM L k i s.2)
 | 0,_,_=>rfl
 | k+1,i,s=>by
  simp only [eF,SH,CM,Ss];cases (BJ i s.2 (evR L i)).2==0 with
  | false =>
   simp only [Bool.not_false,cond_true,pi];rw [show ((i:Int) == -1)=false from beq_false_of_ne (show (i:Int) ≠ -1 by omega)];rfl
  | true=>exact iE L k (i+1) _
def qw (out:Rows) (f:Mat×Int×Int):List PV:=[.rows out,.str f.1.rules.name,.int f.1.rules.side,.int f.1.rules.innings,.int f.1.rules.overs,.int f.1.rules.balls,.int f.1.rules.quota,.int f.1.rules.wide,.int f.1.rules.noball,.bool f.1.rules.freehit,.int f.1.rules.newball,.int f.1.rules.followon,.int f.1.rules.reviews,.int f.1.rules.outside,.rows f.1.rules.power,.int f.1.stage,.int f.1.first,.bool f.1.follow,.rows (Ae f.1.inns),.int f.1.pen1,.int f.1.pen2,.int f.1.win,.int f.1.wside,.int f.1.margin,.int f.2.1,.int f.2.2]
theorem wQ {m t:Mat} {e:Ev} (hl:m.inns.length≤5) (h:((Dk m e).2==0)=true) (hk:(e.kind==4)=true) (ht:(Dk m e).1=t):iIn (IntKind.i64.wrap ((m.inns.length:Int) - 1)) (m.inns.length:Int)=true∧iIn (IntKind.i64.wrap ((m.inns.length:Int) - 1)) (t.inns.length:Int)=true:=by
 obtain ⟨_,h2,_,h4⟩:=qA h hk;have:=UR h2 (show m.inns.length≤1000000 by omega);rw [← ht,h4,List.length_set];exact ⟨this,this⟩
set_option maxHeartbeats 8000000 in
theorem o7 {N:Nat} {r8:Bool} {r0:ByteArray} {r13:Rows} {L:Rows} (hN:2097152<N) (hs:r0.size≤1048576) (h13:r13.length≤1048576) (hL:L.length≤1048576):MX N [.str r0,.int r1,.int r2,.int r3,.int r4,.int r5,.int r6,.int r7,.bool r8,.int r9,.int r10,.int r11,.int r12,.rows r13,.rows L]=some (qw (fp (⟨r0,r1,r2,r3,r4,r5,r6,r7,r8,r9,r10,r11,r12,r13⟩:Rul) L) (Av (⟨r0,r1,r2,r3,r4,r5,r6,r7,r8,r9,r10,r11,r12,r13⟩:Rul) L)):=by
  show MS (std (Dp N) N) (xOf _)=_;generalize hres:(some (qw (fp (⟨r0,r1,r2,r3,r4,r5,r6,r7,r8,r9,r10,r11,r12,r13⟩:Rul) L) (Av (⟨r0,r1,r2,r3,r4,r5,r6,r7,r8,r9,r10,r11,r12,r13⟩:Rul) L)):Option (List PV))=RR;simp only [MS,Vs,Nc,JG,lq9,std,xOf,PXb,nH hN hs h13];subst hres;simp only [fp,Av];have nk:=gP (⟨r0,r1,r2,r3,r4,r5,r6,r7,r8,r9,r10,r11,r12,r13⟩:Rul);generalize A8 (⟨r0,r1,r2,r3,r4,r5,r6,r7,r8,r9,r10,r11,r12,r13⟩:Rul)=X at nk;obtain ⟨⟨⟨m0,m1,m2,m3,m4,m5,m6,m7,m8,m9,m10,m11,m12,m13⟩,m14,m15,m16,m17,m18,m19,m20,m21,m22⟩,l⟩:=X;simp only at nk;simp only [PXb,PXc,PXk,Nat.reduceAdd];cases hl:l==0
  case false=>rfl
  have ok:=nk hl;simp only [PXb];refine Ak (iD (St:=Rows×Mat) (len:=L.length) (enc:=fun i s=>[.rows s.1,.int (i:Int),.str s.2.rules.name,.int s.2.rules.side,.int s.2.rules.innings,.int s.2.rules.overs,.int s.2.rules.balls,.int s.2.rules.quota,.int s.2.rules.wide,.int s.2.rules.noball,.bool s.2.rules.freehit,.int s.2.rules.newball,.int s.2.rules.followon,.int s.2.rules.reviews,.int s.2.rules.outside,.rows s.2.rules.power,.int s.2.stage,.int s.2.first,.bool s.2.follow,.rows (Ae s.2.inns),.int s.2.pen1,.int s.2.pen2,.int s.2.win,.int s.2.wside,.int s.2.margin])
    (body:=SH L) (fin:=fun s=>.int 1::.rows s.1::s.2.ls) (fun i s=>StepOk (⟨r0,r1,r2,r3,r4,r5,r6,r7,r8,r9,r10,r11,r12,r13⟩:Rul) s.2∧s.1.length≤i) ?_ ?_ L.length 0 ([],(⟨⟨m0,m1,m2,m3,m4,m5,m6,m7,m8,m9,m10,m11,m12,m13⟩,m14,m15,m16,m17,m18,m19,m20,m21,m22⟩:Mat)) N (by omega) (by omega) ⟨ok,Nat.zero_le _⟩) ?_
  · intro m self _;simp only [PXb,PXc,PXn,AJ,Bg];rfl
  · intro i s self hi ok;obtain ⟨out,⟨⟨a0,a1,a2,a3,a4,a5,a6,a7,a8,a9,a10,a11,a12,a13⟩,a14,a15,a16,a17,a18,a19,a20,a21,a22⟩⟩:=s;obtain ⟨ok,hout⟩:=ok;have o1:=ok.rules;have o2:=ok.fit;have o3:=ok.len;simp only at o1 o2 o3 hout;cases o1;have kp:=aX ok (i:Int) (evR L i);have acc:=rm (m:=(⟨⟨r0,r1,r2,r3,r4,r5,r6,r7,r8,r9,r10,r11,r12,r13⟩,a14,a15,a16,a17,a18,a19,a20,a21,a22⟩:Mat)) (i:=(i:Int)) (e:=evR L i);refine ⟨?_,?_⟩
    · simp only [PXb,PXc,PXn,AJ,BA (show i≤1099511627776 by omega),BQ hi,Ap hi,Nc,oY hN o2 (show a17.length≤1000000 by omega) hs h13,Ca,er,Nat.reduceAdd,PXk,PXc,xy,List.length_append,List.length_cons,List.length_nil,JG];unfold SH;simp only;generalize hT:BJ (i:Int) (⟨⟨r0,r1,r2,r3,r4,r5,r6,r7,r8,r9,r10,r11,r12,r13⟩,a14,a15,a16,a17,a18,a19,a20,a21,a22⟩:Mat) (evR L i)=T at acc;obtain ⟨⟨⟨b0,b1,b2,b3,b4,b5,b6,b7,b8,b9,b10,b11,b12,b13⟩,b14,b15,b16,b17,b18,b19,b20,b21,b22⟩,l2⟩:=T;simp only at acc;simp only;cases hl2:l2==0
      case false=>rfl
      have hk0:(evR L i).kind=atI L i 0:=rfl;rw [hk0];simp only [PXb];cases hk:atI L i 0==4
      case false=>rfl
      have ha:=(acc hl2).1;have hd:=wQ (m:=(⟨⟨r0,r1,r2,r3,r4,r5,r6,r7,r8,r9,r10,r11,r12,r13⟩,a14,a15,a16,a17,a18,a19,a20,a21,a22⟩:Mat)) (e:=evR L i) o3 (by rw [← ha];exact hl2) hk (congrArg Prod.fst ha).symm;simp only at hd;have h216:iSm ((out.length+1:Nat):Int) 216=true:=GT (by omega) (by omega);simp only [PXb,PXc,dh hd.1 hd.2,h216];rfl
    · intro s' h;unfold SH at h;simp only at h;cases hq:(BJ (i:Int) (⟨⟨r0,r1,r2,r3,r4,r5,r6,r7,r8,r9,r10,r11,r12,r13⟩,a14,a15,a16,a17,a18,a19,a20,a21,a22⟩:Mat) (evR L i)).2==0 with
      | false=>rw [hq] at h;cases h
      | true =>
        rw [hq] at h;cases h;refine ⟨kp,?_⟩;cases (evR L i).kind==4 with
        | false=>show out.length≤_;omega
        | true=>show (out++[_]).length≤_;rw [List.length_append];simp;omega
  · rw [iE];have he:=lf L L.length 0 (⟨⟨m0,m1,m2,m3,m4,m5,m6,m7,m8,m9,m10,m11,m12,m13⟩,m14,m15,m16,m17,m18,m19,m20,m21,m22⟩:Mat);simp only;generalize Ss L L.length 0 (⟨⟨m0,m1,m2,m3,m4,m5,m6,m7,m8,m9,m10,m11,m12,m13⟩,m14,m15,m16,m17,m18,m19,m20,m21,m22⟩:Mat) []=out;generalize CM L L.length 0 (⟨⟨m0,m1,m2,m3,m4,m5,m6,m7,m8,m9,m10,m11,m12,m13⟩,m14,m15,m16,m17,m18,m19,m20,m21,m22⟩:Mat)=f at he;obtain ⟨⟨⟨a0,a1,a2,a3,a4,a5,a6,a7,a8,a9,a10,a11,a12,a13⟩,a14,a15,a16,a17,a18,a19,a20,a21,a22⟩,b,l⟩:=f;simp only at he;unfold pi;cases hb:b == -1 with
    | false=>rfl
    | true =>
      rw [he hb,beq_iff_eq.1 hb];rfl
theorem Ry {N:Nat} {r8:Bool} {r0:ByteArray} {r13:Rows} {L:Rows} (hN:2097152<N) (hs:r0.size≤1048576) (h13:r13.length≤1048576) (hL:L.length≤1048576):CQ N [.str r0,.int r1,.int r2,.int r3,.int r4,.int r5,.int r6,.int r7,.bool r8,.int r9,.int r10,.int r11,.int r12,.rows r13,.rows L]=some (jP (Av (⟨r0,r1,r2,r3,r4,r5,r6,r7,r8,r9,r10,r11,r12,r13⟩:Rul) L)):=by
 show I6 (std (Es N) N) (xOf _)=_;generalize hres:(some (jP (Av (⟨r0,r1,r2,r3,r4,r5,r6,r7,r8,r9,r10,r11,r12,r13⟩:Rul) L)):Option (List PV))=RR;simp only [I6,VN,lq9,std,xOf,PXb,o7 hN hs h13 hL];subst hres;rfl
def DL (r:Rul) (L:Rows):Int:=cond (!(A5 r==0)) (A5 r) (cond (iLt 4000 (L.length:Int)) 9 (cond (!((Av r L).2.2==0)) 10 0))
theorem mt {N:Nat} {r8:Bool} {r0:ByteArray} {r13:Rows} {L:Rows} (hN:2097152<N) (hs:r0.size≤1048576) (h13:r13.length≤1048576) (hL:L.length≤1048576):IL N [.str r0,.int r1,.int r2,.int r3,.int r4,.int r5,.int r6,.int r7,.bool r8,.int r9,.int r10,.int r11,.int r12,.rows r13,.rows L]=some [.int (DL (⟨r0,r1,r2,r3,r4,r5,r6,r7,r8,r9,r10,r11,r12,r13⟩:Rul) L)]:=by
 show Kr (std (EG N) N) (xOf _)=_;generalize hres:(some [.int (DL (⟨r0,r1,r2,r3,r4,r5,r6,r7,r8,r9,r10,r11,r12,r13⟩:Rul) L)]:Option (List PV))=RR;simp only [Kr,Sb,UM,lq9,std,xOf,PXb,CV hN hs,Ry hN hs h13 hL,PXm];subst hres;simp only [DL];rfl
def BE (L:Rows) (n:Int):Rows:=(L.take n.toNat).drop (0:Int).toNat
theorem qV (L:Rows) (n:Int):(BE L n).length≤L.length:=by
 unfold BE;rw [List.length_drop,List.length_take];omega
theorem xJ {n:Int} {k:Nat} (h:(iLt n 0||iLt (k:Int) n)=false):iRg 0 n (k:Int)=true:=by
 rw [Bool.or_eq_false_iff] at h;simp only [iLt,decide_eq_false_iff_not] at h;simp only [iRg,decide_eq_true_eq];omega
def atS (r:Rul) (L:Rows) (n:Int):Mat×Int:=cond (!(A5 r==0)) (Vm,A5 r) (cond (iLt n 0||iLt (L.length:Int) n) (Vm,2) (cond (!((Av r (BE L n)).2.2==0)) (Vm,10) ((Av r (BE L n)).1,0)))
theorem tC {N:Nat} {r8:Bool} {r0:ByteArray} {r13:Rows} {L:Rows} {n:Int} (hN:2097152<N) (hs:r0.size≤1048576) (h13:r13.length≤1048576) (hL:L.length≤1048576):Ny N [.str r0,.int r1,.int r2,.int r3,.int r4,.int r5,.int r6,.int r7,.bool r8,.int r9,.int r10,.int r11,.int r12,.rows r13,.rows L,.int n]=some (LM (atS (⟨r0,r1,r2,r3,r4,r5,r6,r7,r8,r9,r10,r11,r12,r13⟩:Rul) L n)):=by
 show Q9 (std (HX N) N) (xOf _)=_;generalize hres:(some (LM (atS (⟨r0,r1,r2,r3,r4,r5,r6,r7,r8,r9,r10,r11,r12,r13⟩:Rul) L n)):Option (List PV))=RR;simp only [Q9,V5,Ng,lq9,std,xOf,PXb,CV hN hs];subst hres;simp only [atS];cases A5 (⟨r0,r1,r2,r3,r4,r5,r6,r7,r8,r9,r10,r11,r12,r13⟩:Rul)==0
 case false=>rfl
 cases hb:iLt n 0||iLt (L.length:Int) n
 case true=>rfl
 have hf:=Nat.le_trans (qV L n) hL;simp only [PXb,xJ hb,Ng];change (Option.bind (CQ N [.str r0,.int r1,.int r2,.int r3,.int r4,.int r5,.int r6,.int r7,.bool r8,.int r9,.int r10,.int r11,.int r12,.rows r13,.rows (BE L n)]) _)=_;rw [Ry hN hs h13 hf];simp only [PXb,PXc,jP];cases (Av (⟨r0,r1,r2,r3,r4,r5,r6,r7,r8,r9,r10,r11,r12,r13⟩:Rul) (BE L n)).2.2==0<;>rfl
theorem iv {N:Nat} {r8:Bool} {r0:ByteArray} {r13:Rows}  : H5 N [.str r0,.int r1,.int r2,.int r3,.int r4,.int r5,.int r6,.int r7,.bool r8,.int r9,.int r10,.int r11,.int r12,.rows r13]=some (VW (⟨r0,r1,r2,r3,r4,r5,r6,r7,r8,r9,r10,r11,r12,r13⟩:Rul)).ls:=by
 show H7 (std (F9 N) N) (xOf _)=_;simp only [H7,lq9,std,xOf,PXb,PXc,PXn,PXm,Nat.reduceAdd,Int.reduceBEq,pQ (show (0:Int)≤20 by omega),pQ (show (0:Int)≤10 by omega)];rfl
theorem sM {N:Nat} {L:Rows}  : Ot N [.rows L]=some [.rows (cut L 70)]:=by
 show PE (std (Kd N) N) (xOf _)=_;simp only [PE,lq9,std,xOf,PXb,PXc,PXn,PXm,Nat.reduceAdd,Int.reduceBEq,pQ (show (0:Int)≤70 by omega)];rfl
structure LogOk (m:Mat):Prop where
 fit:KV m.inns
 len:m.inns.length≤5
 name:m.rules.name.size≤1048576
 power:m.rules.power.length≤1048576
theorem tG:LogOk Vm:=⟨fun i hi=>absurd hi (Nat.not_lt_zero i),Nat.zero_le _,Nat.zero_le _,Nat.zero_le _⟩
theorem oJ {r:Rul} (L:Rows):∀ k i m,StepOk r m→StepOk r (CM L k i m).1
 | 0,_,_,h=>h
 | k+1,i,m,h=>by
  unfold CM;cases (BJ i m (evR L i)).2==0 with
  | false=>exact h
  | true=>exact oJ L k (i+1) _ (aX h _ _)
theorem qo {r:Rul} (L:Rows) (hs:r.name.size≤1048576) (hp:r.power.length≤1048576):LogOk (Av r L).1:=by
 unfold Av;cases h:(A8 r).2==0 with
 | false=>exact tG
 | true =>
  have:=oJ L L.length 0 _ (gP r h);exact ⟨this.fit,this.len,by show (CM _ _ _ _).1.rules.name.size≤_;rw [this.rules];exact hs,by show (CM _ _ _ _).1.rules.power.length≤_;rw [this.rules];exact hp⟩
def acc (L:Rows):Nat→Nat→Mat→Prop
 | 0,_,_=>True
 | k+1,i,m=>((BJ i m (evR L i)).2==0)=true∧acc L k (i+1) (BJ i m (evR L i)).1
def stM (L:Rows):Nat→Nat→Mat→Mat
 | 0,_,m=>m
 | k+1,i,m=>stM L k (i+1) (BJ i m (evR L i)).1
def ur (L:Rows):Nat→Nat→Mat→Rows→Rows
 | 0,_,_,out=>out
 | k+1,i,m,out=>ur L k (i+1) (BJ i m (evR L i)).1 (cond ((evR L i).kind==4) (out++[eP i m (BJ i m (evR L i)).1 (evR L i).ball]) out)
theorem eW {L:Rows}:∀ k j i m,acc L k i m→CM L (k+j) i m=CM L j (i+k) (stM L k i m)
 | 0,j,i,m,_=>by rw [Nat.zero_add];rfl
 | k+1,j,i,m,h=>by
  have ih:=eW k j (i+1) _ h.2;rw [show k+1+j=(k+j)+1 by omega,show i+(k+1)=i+1+k by omega];simp only [CM,h.1,Bool.not_true,cond_false];exact ih
theorem WI (L : Rows) : ∀ K i m, ∃ k, k ≤ K ∧ acc L k i m ∧ (∀ out, Ss L K i m out = ur L k i m out) ∧
    ((k=K∧CM L K i m=(stM L k i m,-1,0))∨(k<K∧((BJ ((i+k:Nat):Int) (stM L k i m) (evR L (i+k))).2==0)=false∧CM L K i m=(stM L k i m,((i+k:Nat):Int),(BJ ((i+k:Nat):Int) (stM L k i m) (evR L (i+k))).2)))
  | 0,i,m=>⟨0,Nat.le_refl _,trivial,fun _=>rfl,Or.inl ⟨rfl,rfl⟩⟩
  | K+1,i,m=>by
    cases hq:(BJ i m (evR L i)).2==0 with
    | false =>
      refine ⟨0,Nat.zero_le _,trivial,fun out=>?_,Or.inr ⟨Nat.succ_pos _,hq,?_⟩⟩
      · simp only [Ss,hq,Bool.not_false,cond_true];rfl
      · simp only [CM,hq,Bool.not_false,cond_true];rfl
    | true =>
      obtain ⟨k,h1,h2,h3,h4⟩:=WI L K (i+1) (BJ i m (evR L i)).1;refine ⟨k+1,Nat.succ_le_succ h1,⟨hq,h2⟩,fun out=>?_,?_⟩
      · simp only [Ss,hq,Bool.not_true,cond_false];exact h3 _
      · have e:CM L (K+1) i m=CM L K (i+1) (BJ i m (evR L i)).1:=by simp only [CM,hq,Bool.not_true,cond_false]
        rw [e,show i+(k+1)=i+1+k by omega]
        rcases h4 with ⟨h5,h6⟩ | ⟨h5,h6⟩
        · exact Or.inl ⟨by omega,h6⟩
        · exact Or.inr ⟨by omega,h6⟩
theorem qi {L:Rows}:∀ k j i m,j≤k→acc L k i m→acc L j i m
 | _,0,_,_,_,_=>trivial
 | 0,j+1,_,_,h,_=>absurd h (by omega)
 | k+1,j+1,i,m,h,ha=>⟨ha.1,qi k j (i+1) _ (by omega) ha.2⟩
theorem uA {L:Rows} {k i:Nat} {m:Mat} (h:acc L k i m):CM L k i m=(stM L k i m,-1,0):=eW k 0 i m h
theorem tR {L:Rows} {n:Int} {i:Nat} (h:(i:Int)<n):evR (BE L n) i=evR L i:=by
 have e:∀ j,AB (BE L n) i j=AB L i j:=fun j=>by
  unfold AB AK BE;rw [zzl,zzl,List.getElem?_drop,List.getElem?_take,if_pos (by omega)];simp
 unfold evR atI atB;simp only [e]
theorem MP {L:Rows} {n:Nat} (h:n≤L.length):(BE L (n:Int)).length=n:=by
 unfold BE;rw [List.length_drop,List.length_take];omega
theorem di {L:Rows} {n:Int}:∀ k i m,((i+k:Nat):Int)≤n→CM (BE L n) k i m=CM L k i m
 | 0,_,_,_=>rfl
 | k+1,i,m,h=>by
  simp only [CM];rw [tR (show (i:Int)<n by omega),di k (i+1) _ (by omega)]
theorem mZ {r:Rul} {L:Rows} {n:Nat} (hc:((A8 r).2==0)=true) (h:n≤L.length):Av r (BE L (n:Int))=CM L n 0 (A8 r).1:=by
 unfold Av;rw [hc,MP h];exact di n 0 _ (by omega)
theorem Rv (r:Rul):((A8 r).2==0)=(A5 r==0):=by
 unfold A8;cases h:A5 r==0 with
 | false=>exact h
 | true=>rfl
theorem xO {n:Int} {k:Nat} (h0:0≤n) (h:0<k) (hk:k≤1000000):∃ j:Nat,j<k∧n.tmod (k:Int)=(j:Int):=by
 have h1:=Int.tmod_nonneg (k:Int) h0;have h2:=Int.tmod_lt_of_pos n (show (0:Int)<(k:Int) by omega);exact ⟨(n.tmod (k:Int)).toNat,by omega,by omega⟩
theorem pd {r:Rul} (L:Rows) (h:(A5 r==0)=false):Av r L=(Vm,0,1):=by
 unfold Av;rw [Rv,h];rfl
theorem Tw {r:Rul} {L:Rows} {n:Nat} (hc:(A5 r==0)=true) (h:n≤L.length) (ha:acc L n 0 (A8 r).1):Av r (BE L (n:Int))=(stM L n 0 (A8 r).1,-1,0):=by
 rw [mZ ((Rv r).trans hc) h];exact uA ha
theorem mB {L:Rows}:∀ k i m,stM L (k+1) i m=(BJ ((i+k:Nat):Int) (stM L k i m) (evR L (i+k))).1
 | 0,i,m=>rfl
 | k+1,i,m=>by
  show stM L (k+1) (i+1) _=_;rw [mB k (i+1),show i+1+k=i+(k+1) by omega];rfl
theorem xV {n:Nat} {l:Nat} (h:n≤l):(iLt (n:Int) 0||iLt (l:Int) (n:Int))=false:=by
 simp only [iLt,Bool.or_eq_false_iff,decide_eq_false_iff_not];omega
theorem oq {r:Rul} {L:Rows} {n:Nat} (hc:(A5 r==0)=true) (h:n≤L.length) (hl:L.length≤70) (ha:acc L n 0 (A8 r).1):DL r (BE L (n:Int))=0:=by
 unfold DL;rw [hc,Tw hc h ha,MP h];have:iLt 4000 (n:Int)=false:=by simp only [iLt,decide_eq_false_iff_not];omega
 rw [this];rfl
theorem qj {L:Rows}:∀ k i m,acc L k i m→∀ j,j<k→((BJ ((i+j:Nat):Int) (stM L j i m) (evR L (i+j))).2==0)=true
 | 0,_,_,_,j,h=>absurd h (Nat.not_lt_zero j)
 | k+1,i,m,ha,0,_=>ha.1
 | k+1,i,m,ha,j+1,h=>by
  have:=qj k (i+1) _ ha.2 j (by omega);rw [show i+1+j=i+(j+1) by omega] at this;exact this
abbrev wr (n:Int):Int:=IntKind.i64.wrap n
structure Nums (q:Int) (s t:Inn) (a b c:Int):Prop where
 runs:wr (t.runs - t.pens)=wr (s.runs - s.pens+a)
 rw:wr s.runs=s.runs→wr t.runs=t.runs
 balls:Cp q t.complete t.inover=wr (s.complete * q+s.inover+b)
 wk:wr t.wickets=wr (s.wickets+c)
theorem SY (q c i:Int):Cp q c i=wr (c * q+i):=by
 unfold Cp;simp only [wr,OT];omega
theorem Nums.of {q:Int} {s t:Inn} (h1:t.runs=s.runs) (h2:t.pens=s.pens) (h3:t.complete=s.complete) (h4:t.inover=s.inover) (h5:t.wickets=s.wickets):Nums q s t 0 0 0 :=
 ⟨by rw [h1,h2,Int.add_zero],fun h=>by rw [h1];exact h,by rw [h3,h4,SY,Int.add_zero],by rw [h5,Int.add_zero]⟩
theorem Nums.out {q:Int} {s t:Inn} (h1:t.runs=s.runs) (h2:t.pens=s.pens) (h3:t.complete=s.complete) (h4:t.inover=s.inover) (h5:t.wickets=wr (s.wickets+1)):Nums q s t 0 0 1 :=
 ⟨by rw [h1,h2,Int.add_zero],fun h=>by rw [h1];exact h,by rw [h3,h4,SY,Int.add_zero],by rw [h5];exact HO _⟩
theorem Nums.pen (q:Int) (s:Inn):Nums q s (PZ s) 0 0 0 :=
 ⟨by show wr (wr (s.runs+5) - wr (s.pens+5))=_;simp only [wr,OT];omega,fun _=>HO _,by show Cp q s.complete s.inover=_;rw [SY,Int.add_zero],by show wr s.wickets=_;rw [Int.add_zero]⟩
def B5 (e:Ev):Int:=cond ((e.kind==5&&e.yes)||(e.kind==6 && !e.yes)) 1 0
theorem Nums.fin {q:Int} {s t:Inn} {a b c:Int} (h:Nums q s t a b c) (r:Rul) (x:Bool):Nums q s (Bt r t x) a b c:=⟨h.runs,h.rw,h.balls,h.wk⟩
def N7 (e:Ev):Int:=cond (e.kind==4) (cond (e.ball.how==0) 0 1) (B5 e)
structure SumInv (q:Int) (xs:List Inn) (R B:Nat→Int) (O:Int):Prop where
 runs:∀ i,i<xs.length→wr ((inn xs i).runs - (inn xs i).pens)=wr (R i)
 rw:∀ i,i<xs.length→wr (inn xs i).runs=(inn xs i).runs
 balls:∀ i,i<xs.length→Cp q (inn xs i).complete (inn xs i).inover=wr (B i)
 zero:∀ i,xs.length≤i→R i=0∧B i=0
 wk:wr (xs.map Inn.wickets).sum=wr O
theorem SumInv.congr {q:Int} {xs:List Inn} {R B R' B':Nat→Int} {O O':Int} (h:SumInv q xs R B O) (h1:∀ i,R i=R' i) (h2:∀ i,B i=B' i) (h3:O=O'):SumInv q xs R' B' O' :=
 ⟨fun i hi=>(h.runs i hi).trans (by rw [h1]),h.rw,fun i hi=>(h.balls i hi).trans (by rw [h2]),fun i hi=>by rw [← h1,← h2];exact h.zero i hi,h.wk.trans (by rw [h3])⟩
def rT (L:Rows) (j:Nat):Int:=Db ⟨atI L j 20,atI L j 21,atI L j 22,atI L j 23,atI L j 24,atI L j 25,atB L j 26,atB L j 27,atB L j 28,atB L j 29⟩
def rS (L:Rows) (i:Nat):Nat→Int
 | 0=>0
 | n+1=>rS L i n+cond (atI L n 1==(i:Int)) (rT L n) 0
def bS (L:Rows) (i:Nat):Nat→Int
 | 0=>0
 | n+1=>bS L i n+cond (atI L n 1==(i:Int)&&atB L n 26) 1 0
def hS (L:Rows):Nat→Int
 | 0=>0
 | n+1=>hS L n+cond (atI L n 14==0) 0 1
theorem rE (L:Rows):BE L (L.length:Int)=L:=by
 unfold BE;rw [Int.toNat_natCast,List.take_length];rfl
def Gt (xs:List Int):Rows:=xs.map fun x=>[.int x]
theorem Nn (xs:List Int):(Gt xs).length=xs.length:=List.length_map _
theorem xu (xs:List Int) (i:Nat):AK (Gt xs) i=(match xs[i]? with | some x=>[.int x] | none=>[]):=by
 unfold AK Gt;rw [zzl,List.getElem?_map];cases xs[i]?<;>rfl
theorem yD (xs:List Int) (i:Nat):atI (Gt xs) i 0=xs.getD i 0:=by
 unfold atI AB;rw [xu,zzl];cases xs[i]?<;>rfl
structure SumSt (D:Rows) (n i:Nat) (s:List Int×List Int×Int):Prop where
 l1:s.1.length=n
 l2:s.2.1.length=n
 r:∀ k,k<n→s.1.getD k 0=wr (rS D k i)
 b:∀ k,k<n→s.2.1.getD k 0=wr (bS D k i)
 h:s.2.2=wr (hS D i)
structure Sco where
 side:Int
 runs:Int
 wickets:Int
 balls:Int
 wides:Int
 noballs:Int
 byes:Int
 legbyes:Int
 pens:Int
 ending:Int
theorem Bn {n:Int} (h1 : -1000000000000≤n) (h2:n≤1000000000000):IntKind.i64.wrap n=n:=DG (by omega) (by omega)
theorem nW {d:Del} (h:(GC d==0)=true):(0≤d.runs∧d.runs≤7)∧(0≤d.short∧d.short≤d.runs)∧(d.boundary=0∨d.boundary=4∨d.boundary=6):=by
 unfold GC at h;cases h1:(iLt d.type 1||iLt 3 d.type||iLt 3 d.source||iLt 10 d.how || !btw d.sector 0 8) with
 | true=>rw [h1] at h;cases h
 | false =>
  cases h2:(!btw d.runs 0 7 || !btw d.short 0 d.runs||(!(d.boundary==0) && !(d.boundary==4) && !(d.boundary==6))) with
  | true=>rw [h1,h2] at h;cases h
  | false =>
   simp only [btw,iLe,Bool.or_eq_false_iff,Bool.not_eq_false',zzk,Bool.and_eq_false_iff,decide_eq_true_eq,beq_iff_eq] at h2;omega
structure CreOk (c:Cre):Prop where
 ba:0≤c.batter∧c.batter≤13
 wi:0≤c.wides∧c.wides≤18
 no:0≤c.noballs∧c.noballs≤5
 bb:0≤c.byes∧c.byes≤13
 lb:0≤c.legbyes∧c.legbyes≤13
 bo:c.bowler=c.batter+c.wides+c.noballs
 tot:Db c=c.batter+c.wides+c.noballs+c.byes+c.legbyes
theorem rF {b w o y l bo:Int} {x1 x2 x3 x4:Bool} (hb:0≤b∧b≤13) (hw:0≤w∧w≤18) (ho:0≤o∧o≤5) (hy:0≤y∧y≤13) (hl:0≤l∧l≤13) (hbo:bo=IntKind.i64.wrap (IntKind.i64.wrap (b+w)+o)):CreOk ⟨b,w,o,y,l,bo,x1,x2,x3,x4⟩:=by
 refine ⟨hb,hw,ho,hy,hl,?_,?_⟩
 ·show bo=b+w+o;rw [hbo,Bn (n:=b+w) (by omega) (by omega),Bn (by omega) (by omega)]
 ·show IntKind.i64.wrap (IntKind.i64.wrap (IntKind.i64.wrap (IntKind.i64.wrap (b+w)+o)+y)+l)=b+w+o+y+l;rw [Bn (n:=b+w) (by omega) (by omega),Bn (n:=b+w+o) (by omega) (by omega),Bn (n:=b+w+o+y) (by omega) (by omega),Bn (by omega) (by omega)]
def cH:Cre:=⟨0,0,0,0,0,0,false,false,false,false⟩
theorem l6:CreOk cH:=rF (by decide) (by decide) (by decide) (by decide) (by decide) rfl
theorem qr {r:Rul} (h:RulOk r) (d:Del):CreOk (AE r d):=by
 unfold AE;cases hl:GC d==0 with
 | false=>exact l6
 | true =>
  obtain ⟨⟨a1,a2⟩,⟨a3,a4⟩,a5⟩:=nW hl;have hw:=h.wide;have hn:=h.noball;have e1:IntKind.i64.wrap (IntKind.i64.wrap (d.runs - d.short)+d.boundary)=d.runs - d.short+d.boundary:=by
   rw [Bn (n:=d.runs - d.short) (by omega) (by omega),Bn (by omega) (by omega)]
  have n0:0≤d.runs - d.short+d.boundary∧d.runs - d.short+d.boundary≤13:=by omega
  simp only [Bool.not_true,cond_false,TA,e1];generalize d.runs - d.short+d.boundary=n at n0;have e2:IntKind.i64.wrap (r.wide+n)=r.wide+n:=Bn (by omega) (by omega);have c13:∀ b:Bool,0≤cond b n 0∧cond b n 0≤13:=fun b=>by cases b<;>simp<;>omega
  refine rF (c13 _) ?_ ?_ (c13 _) (c13 _) rfl
  ·rw [e2];cases d.type==2<;>simp<;>omega
  ·cases d.type==3<;>simp<;>omega
def CE (r:Rul) (e:Ev):Cre:=cond (e.kind==4) (AE r e.ball) cH
theorem Qz {r:Rul} (h:RulOk r) (e:Ev):CreOk (CE r e):=by
 unfold CE;cases e.kind==4
 ·exact l6
 ·exact qr h _
theorem xL (e:Ev):0≤N7 e∧N7 e≤1:=by
 unfold N7 B5;cases e.kind==4<;>cases e.ball.how==0<;>cases (e.kind==5&&e.yes||e.kind==6 && !e.yes)<;>decide
def BX (q:Int) (s:Inn):Sco:=⟨s.side,s.runs,s.wickets,Cp q s.complete s.inover,s.wides,s.noballs,s.byes,s.legbyes,s.pens,0⟩
def OE (r:Rul) (e:Ev) (x:Sco):Sco:=⟨x.side,x.runs+Db (CE r e),x.wickets+N7 e,x.balls+cond (CE r e).counts 1 0,x.wides+(CE r e).wides,x.noballs+(CE r e).noballs,x.byes+(CE r e).byes,x.legbyes+(CE r e).legbyes,x.pens,x.ending⟩
def JS (n:Int) (x:Sco):Sco:=⟨x.side,x.runs+n,x.wickets,x.balls,x.wides,x.noballs,x.byes,x.legbyes,x.pens+n,x.ending⟩
theorem CB (x:Sco):JS 0 x=x:=by
 obtain ⟨x0,x1,x2,x3,x4,x5,x6,x7,x8,x9⟩:=x;simp only [JS,Int.add_zero]
theorem bE {r:Rul} {e:Ev} (x:Sco) (hk:(e.kind==4)=false):OE r e x={ x with wickets:=x.wickets+B5 e }:=by
 have c0:CE r e=cH:=by unfold CE;rw [hk];rfl
 have o0:N7 e=B5 e:=by unfold N7;rw [hk];rfl
 have t0:Db cH=0:=rfl;unfold OE;rw [c0,o0,t0];simp only [cH,cond_false,Int.add_zero]
theorem Lx {r:Rul} {e:Ev} (x:Sco) (hk:(e.kind==4)=false) (ho:B5 e=0):OE r e x=x:=by
 rw [bE x hk,ho,Int.add_zero]
theorem xA {r:Rul} {s:Inn} (ok:InnOk r s):0≤s.wickets∧s.wickets≤11:=by
 have h:=ok.bat;unfold ZC at h;simp only [zzk] at h;have h1:=beq_iff_eq.1 h.2.2;have h2:=kE (pIs s.batters 2) s.batters.length;have h3:=(Fa ok.code).side;have h4:=ok.lb;unfold am at h1;omega
theorem xZ {c q:Int} (hc:0≤c∧c≤1000000000) (hq:0≤q∧q≤8):0≤c * q∧c * q≤8000000000:=by
 refine ⟨Int.mul_nonneg hc.1 hq.1,?_⟩;have h1:=Int.mul_le_mul_of_nonneg_right hc.2 hq.1;have h2:=Int.mul_le_mul_of_nonneg_left hq.2 (show (0:Int)≤1000000000 by omega);omega
theorem tE {r:Rul} {s:Inn} (ok:InnOk r s):Cp r.balls s.complete s.inover=s.complete * r.balls+s.inover∧0≤Cp r.balls s.complete s.inover∧Cp r.balls s.complete s.inover≤9000000000:=by
 have h1:=(Fa ok.code).balls;have h2:=ok.io;have h3:=xZ ok.complete (show 0≤r.balls∧r.balls≤8 by omega);rw [SY];have:wr (s.complete * r.balls+s.inover)=s.complete * r.balls+s.inover:=Bn (by omega) (by omega);rw [this];omega
theorem xd {x a d:Int} (h:wr (x - a)=d) (hx:wr x=x) (ha:0≤a∧a≤9000000000) (hd:0≤d∧d≤1000):x=a+d:=by
 simp only [wr,OT] at h hx;omega
theorem wD (q:Int) (r:Rul) (t:Inn) (b:Bool):BX q (Bt r t b)=BX q t:=rfl
theorem sw {r:Rul} {s:Inn} {e:Ev} (hk:(e.kind==4)=true) (h:((Ay r s e).2==0)=true):BX r.balls (Ay r s e).1=OE r e (BX r.balls s):=by
 obtain ⟨g1,g2,g3,g4,g5,g6,g7,g8,g9,g10⟩:=rO hk h;obtain ⟨hv,he,hn,hw,hp,hs⟩:=gW h;have ok:=PG.1 hv;have rk:=Fa ok.code;have co:=qr rk e.ball;have k4:=beq_iff_eq.1 hk;have hpb:CP r s e=M2 r s e.ball:=by unfold CP;rw [k4];rfl
 rw [hpb] at hp hs;obtain ⟨hr,hb⟩:=oA hp;obtain ⟨q1,q2,q3,q4,q5,q6⟩:=iR hr;have ce:CE r e=AE r e.ball:=by unfold CE;rw [hk];rfl
 have od:N7 e=cond (e.ball.how==0) 0 1:=by unfold N7;rw [hk];rfl
 have hx:=tE ok;have r0:=ok.runs;have w0:=ok.wides;have n0:=ok.noballs;have b0:=ok.byes;have l0:=ok.legbyes;have wk:=xA ok;unfold Bv at r0 w0 n0 b0 l0;have f0:=co.ba;have f1:=co.wi;have f2:=co.no;have f3:=co.bb;have f4:=co.lb;have f5:=co.tot;rw [hs,hb] at g1 g7 g8 ⊢;have e1:(Bt r (IU r s e.ball) (e.kind==4)).runs=IntKind.i64.wrap (s.runs+Db (AE r e.ball)):=rfl;have e2:(Bt r (IU r s e.ball) (e.kind==4)).wides=IntKind.i64.wrap (s.wides+(AE r e.ball).wides):=rfl;have e3:(Bt r (IU r s e.ball) (e.kind==4)).noballs=IntKind.i64.wrap (s.noballs+(AE r e.ball).noballs):=rfl;have e4:(Bt r (IU r s e.ball) (e.kind==4)).byes=IntKind.i64.wrap (s.byes+(AE r e.ball).byes):=rfl;have e5:(Bt r (IU r s e.ball) (e.kind==4)).legbyes=IntKind.i64.wrap (s.legbyes+(AE r e.ball).legbyes):=rfl;have e6:(Bt r (IU r s e.ball) (e.kind==4)).side=s.side∧(Bt r (IU r s e.ball) (e.kind==4)).pens=s.pens∧(Bt r (IU r s e.ball) (e.kind==4)).wickets=(Ah s e.ball).wickets:=by
  obtain ⟨w1,w2⟩:=oH r (Ah s e.ball) (AE r e.ball).counts;obtain ⟨k1,k2,k3,k4,k5,k6,k7,k8,k9,k10⟩:=bu s e.ball;have w3:(Au r (Ah s e.ball) (AE r e.ball).counts).1.side=s.side:=by
   have s1:(Ah s e.ball).side=s.side:=by
    unfold Ah;cases (!(e.ball.runs.tmod 2==0) != e.ball.crossed)<;>exact P_c (P:=fun x:Inn=>x.side=s.side) _ _ _ rfl (P_c (P:=fun x:Inn=>x.side=s.side) _ _ _ rfl rfl)
   unfold Au;exact P_c (P:=fun x:Inn×Bool=>x.1.side=s.side) _ _ _ s1 (P_c (P:=fun x:Inn×Bool=>x.1.side=s.side) _ _ _ s1 s1)
  refine ⟨?_,?_,?_⟩
  ·show (cond (Au r (Ah s e.ball) (AE r e.ball).counts).2 (IK (Au r (Ah s e.ball) (AE r e.ball).counts).1) (Au r (Ah s e.ball) (AE r e.ball).counts).1).side=_;rw [← w3];cases (Au r (Ah s e.ball) (AE r e.ball).counts).2<;>rfl
  ·show (cond (Au r (Ah s e.ball) (AE r e.ball).counts).2 (IK (Au r (Ah s e.ball) (AE r e.ball).counts).1) (Au r (Ah s e.ball) (AE r e.ball).counts).1).pens=_;rw [← k6,← w2];cases (Au r (Ah s e.ball) (AE r e.ball).counts).2<;>rfl
  ·show (cond (Au r (Ah s e.ball) (AE r e.ball).counts).2 (IK (Au r (Ah s e.ball) (AE r e.ball).counts).1) (Au r (Ah s e.ball) (AE r e.ball).counts).1).wickets=_;rw [← w1];cases (Au r (Ah s e.ball) (AE r e.ball).counts).2<;>rfl
 obtain ⟨z1,z2⟩:=kU q1 (lc hw (by rw [k4];rfl));have hout:=oN (d:=e.ball) z1 z2 (fun hd=>Zw q5 hd);have wv:IntKind.i64.wrap (Cp r.balls (Bt r (IU r s e.ball) (e.kind==4)).complete (Bt r (IU r s e.ball) (e.kind==4)).inover)=Cp r.balls (Bt r (IU r s e.ball) (e.kind==4)).complete (Bt r (IU r s e.ball) (e.kind==4)).inover:=HO _;have hb7:=xd g7 wv (by omega) (by cases (AE r e.ball).counts<;>simp);unfold BX OE;rw [e1,e2,e3,e4,e5,e6.1,e6.2.1,e6.2.2,hb7,ce,od,hout];have i1:IntKind.i64.wrap (s.runs+Db (AE r e.ball))=s.runs+Db (AE r e.ball):=Bn (by omega) (by omega);have i2:IntKind.i64.wrap (s.wides+(AE r e.ball).wides)=s.wides+(AE r e.ball).wides:=Bn (by omega) (by omega);have i3:IntKind.i64.wrap (s.noballs+(AE r e.ball).noballs)=s.noballs+(AE r e.ball).noballs:=Bn (by omega) (by omega);have i4:IntKind.i64.wrap (s.byes+(AE r e.ball).byes)=s.byes+(AE r e.ball).byes:=Bn (by omega) (by omega);have i5:IntKind.i64.wrap (s.legbyes+(AE r e.ball).legbyes)=s.legbyes+(AE r e.ball).legbyes:=Bn (by omega) (by omega);have i6:inc s.wickets=s.wickets+1:=Bn (by omega) (by omega);rw [i1,i2,i3,i4,i5,i6];cases e.ball.how==0 with
 | false=>rfl
 | true=>simp only [cond_true,Int.add_zero]
def Kz (q:Int) (s:Inn) (x:Inn×Int):Prop:=(x.2==0)=true→BX q x.1=BX q s
theorem D2 {q:Int} {s:Inn} (b:Bool) (x y:Inn×Int) (hx:Kz q s x) (hy:Kz q s y):Kz q s (cond b x y):=by cases b<;>assumption
theorem mX {r:Rul} {s:Inn} {e:Ev} (h:((Ay r s e).2==0)=true):BX r.balls (Ay r s e).1=JS (cond (e.kind==13&&e.side==s.side) 5 0) (OE r e (BX r.balls s)):=by
 cases hk:e.kind==4 with
 | true =>
  rw [sw hk h,beq_iff_eq.1 hk];exact (CB _).symm
 | false =>
  obtain ⟨hv,he,hn,hw,hp,hs⟩:=gW h;have ok:=PG.1 hv;have wk:=xA ok;have iw:IntKind.i64.wrap (s.wickets+1)=s.wickets+1:=Bn (by omega) (by omega);rw [hs,wD,bE _ hk];have z:∀ {x:Inn×Int},Kz r.balls s x→(x.2==0)=true→B5 e=0→BX r.balls x.1=JS (cond (false&&e.side==s.side) 5 0) { BX r.balls s with wickets:=(BX r.balls s).wickets+B5 e }:=fun k hx h0=>by
   rw [k hx,h0,Int.add_zero];exact (CB _).symm
  have kn:∀ {t:Inn} {n:Int},(n==0)=false→Kz r.balls s (t,n):=fun hn hx=>by rw [hn] at hx;cases hx
  have ks:∀ {n:Int},Kz r.balls s (s,n):=fun _=>rfl
  revert hp
  unfold CP;rw [hk];cases h5:e.kind==5 with
  | true =>
   have h5':=beq_iff_eq.1 h5;have ho:B5 e=cond e.yes 1 0:=by unfold B5;rw [h5'];cases e.yes<;>rfl
   rw [ho,h5'];cases e.yes with
   | false =>
    intro hp;refine Eq.trans (b:=BX r.balls s) ?_ ?_
    ·exact (show Kz r.balls s (PN s e.player) by unfold PN;exact D2 _ _ _ (fun _=>rfl) (fun _=>rfl)) hp
    ·simp only [cond_false,Int.add_zero];exact (CB _).symm
   | true =>
    intro hp;change ((HT s e.player).2==0)=true at hp;show BX r.balls (HT s e.player).1=_;unfold HT at hp ⊢;cases hm:OY s e.player==0 with
    | false=>rw [hm] at hp;exact absurd (show (OY s e.player==0)=true from hp) (by rw [hm];decide)
    | true =>
     simp only [cond_true];unfold BX JS;simp only [iw,cond_true,Int.reduceBEq,Bool.false_and,cond_false,Int.add_zero]
  | false =>
   cases h6:e.kind==6 with
   | true =>
    have h6':=beq_iff_eq.1 h6;have ho:B5 e=cond e.yes 0 1:=by unfold B5;rw [h6'];cases e.yes<;>rfl
    rw [ho,h6'];intro hp;change ((J4 s e.player e.yes).2==0)=true at hp;show BX r.balls (J4 s e.player e.yes).1=_;unfold J4 at hp ⊢;cases hm1:(!inR e.player s.batters.length) with
    | true=>rw [hm1] at hp;cases hp
    | false =>
     cases hm2:(s.striker==0||s.other==0) with
     | true=>rw [hm1,hm2] at hp;cases hp
     | false =>
      cases hm3:(!(e.player==s.striker) && !(e.player==s.other)) with
      | true=>rw [hm1,hm2,hm3] at hp;cases hp
      | false =>
       cases hm4:(e.yes&&((Ec s.batters s.batters.length).length:Int)==0) with
       | true=>rw [hm1,hm2,hm3,hm4] at hp;cases hp
       | false =>
        simp only [cond_false];cases e.yes with
        | true=>unfold BX JS;simp only [cond_true,Int.reduceBEq,Bool.false_and,cond_false,Int.add_zero]
        | false=>unfold BX JS;simp only [iw,cond_false,Int.reduceBEq,Bool.false_and,Int.add_zero]
   | false =>
    have ho:B5 e=0:=by unfold B5;rw [h5,h6];rfl
    cases h13:e.kind==13 with
    | true =>
     have k13:=beq_iff_eq.1 h13;rw [k13,ho];intro hp;change ((Ha s e.side e.runs).2==0)=true at hp;show BX r.balls (Ha s e.side e.runs).1=_;have rn:=ok.runs;have pn:=ok.pens;unfold Bv at rn pn;have i1:IntKind.i64.wrap (s.runs+5)=s.runs+5:=Bn (by omega) (by omega);have i2:IntKind.i64.wrap (s.pens+5)=s.pens+5:=Bn (by omega) (by omega);unfold Ha at hp ⊢;cases hr5:e.runs==5 with
     | false=>rw [hr5] at hp;cases hp
     | true =>
      cases hsd:e.side==s.side with
      | true =>
       simp only [Bool.not_true,cond_false,cond_true];unfold BX JS PZ;simp only [i1,i2,Bool.and_self,cond_true,Int.reduceBEq,Bool.true_and,Int.add_zero]
      | false =>
       simp only [Bool.not_true,cond_false,Bool.and_false,Int.add_zero];exact (CB _).symm
    | false =>
     simp only [cond_false];intro hp;refine z ?_ hp ho;refine D2 _ _ _ ?_ (D2 _ _ _ ?_ (D2 _ _ _ ?_ (D2 _ _ _ ?_ (D2 _ _ _ ?_ (D2 _ _ _ ?_ (D2 _ _ _ ?_ (D2 _ _ _ ?_ ?_)))))))
     ·unfold V3;exact D2 _ _ _ ks (D2 _ _ _ ks (D2 _ _ _ ks (fun _=>rfl)))
     ·unfold Vc;cases N1 r s e.player==0
      ·exact ks
      ·exact fun _=>rfl
     ·unfold Ll;exact D2 _ _ _ ks (fun _=>rfl)
     ·unfold Nv;exact D2 _ _ _ ks (D2 _ _ _ ks (D2 _ _ _ ks (fun _=>rfl)))
     ·unfold Rb;exact D2 _ _ _ ks (D2 _ _ _ ks (fun _=>rfl))
     ·unfold Le;exact D2 _ _ _ ks (fun _=>rfl)
     ·unfold LY;exact D2 _ _ _ ks (D2 _ _ _ ks (fun _=>rfl))
     ·unfold Ly;exact D2 _ _ _ ks (D2 _ _ _ (fun _=>rfl) ks)
     ·unfold OK;exact D2 _ _ _ ks (D2 _ _ _ ks (D2 _ _ _ ks (fun _=>rfl)))
def sco (xs:List Sco) (i:Nat):Sco:=xs.getD i ⟨0,0,0,0,0,0,0,0,0,0⟩
theorem EV (xs:List Sco) (i:Nat):sco xs i=(match xs[i]? with | some s=>s | none=>⟨0,0,0,0,0,0,0,0,0,0⟩):=by
 unfold sco;rw [zzl];cases xs[i]?<;>rfl
theorem Qy (xs:List Sco) (k:Nat) (s:Sco) (i:Nat) (hi:i<xs.length):sco (xs.set k s) i=(if k=i then s else sco xs i):=by
 rw [EV,EV,List.getElem?_set]
 by_cases h:k=i
 ·subst h;rw [if_pos rfl,if_pos rfl,if_pos hi]
 ·rw [if_neg h,if_neg h]
theorem vo (xs:List Sco) (s:Sco) (i:Nat) (hi:i<xs.length+1):sco (xs++[s]) i=(if i<xs.length then sco xs i else s):=by
 rw [EV,EV]
 by_cases h:i<xs.length
 ·rw [if_pos h,List.getElem?_append_left h]
 ·have:i=xs.length:=by omega
  subst this;rw [if_neg h,List.getElem?_append_right (Nat.le_refl _),Nat.sub_self];rfl
structure TS where
 xs:List Sco
 p1:Int
 p2:Int
 first:Int
 follow:Bool
def Ef (m:Mat):TS:=⟨m.inns.map (BX m.rules.balls),m.pen1,m.pen2,m.first,m.follow⟩
theorem Q1 (q:Int) (xs:List Inn) {i:Nat} (h:i<xs.length):sco (xs.map (BX q)) i=BX q (inn xs i):=by
 rw [EV,Kw,List.getElem?_map,zzo h];rfl
theorem tz (q:Int) (xs:List Inn) (i:Nat):(sco (xs.map (BX q)) i).side=(inn xs i).side:=by
 rw [EV,Kw,List.getElem?_map];cases xs[i]?<;>rfl
def Jw (first:Int) (follow:Bool) (i:Int):Int:=cond (cond (follow&&iLe 2 i) (i==2) (i.tmod 2==1)) (BR first) first
theorem px (m:Mat) (i:Int):DI m i=Jw m.first m.follow i:=rfl
def kA (sd p:Int):Sco:=⟨sd,p,0,0,0,0,0,0,p,0⟩
def Bk (sd:Nat→Int) (s:Int):Nat→Option Nat
 | 0=>none
 | k+1=>cond (sd k==s) (some k) (Bk sd s k)
theorem Qk {f g:Nat→Int} {s:Int}:∀ n,(∀ k,k<n→f k=g k)→Bk f s n=Bk g s n
 | 0,_=>rfl
 | n+1,h=>by
  unfold Bk;rw [h n (Nat.lt_succ_self n),Qk n (fun k hk=>h k (by omega))]
theorem JA {f:Nat→Int} {s:Int} {j:Nat}:∀ n,Bk f s n=some j→j<n∧f j=s
 | 0,h=>by cases h
 | n+1,h=>by
  unfold Bk at h;cases hq:f n==s with
  | true =>
   rw [hq] at h;cases h;exact ⟨Nat.lt_succ_self _,beq_iff_eq.1 hq⟩
  | false =>
   rw [hq] at h;obtain ⟨h1,h2⟩:=JA n h;exact ⟨by omega,h2⟩
theorem YN {f:Nat→Int} {s:Int}:∀ n,Bk f s n=none→∀ j,j<n→¬ f j=s
 | 0,_,j,hj=>absurd hj (Nat.not_lt_zero j)
 | n+1,h,j,hj=>by
  unfold Bk at h;cases hq:f n==s with
  | true=>rw [hq] at h;cases h
  | false =>
   rw [hq] at h
   by_cases e:j=n
   ·subst e;exact beq_eq_false_iff_ne.1 hq
   ·exact YN n h j (by omega)
theorem oF (xs:List Inn) (sd:Int):∀ n,M9 xs sd n=Bk (fun k=>(inn xs k).side) sd n
 | 0=>rfl
 | n+1=>by
  unfold M9 Bk;rw [oF xs sd n]
def ja (T:TS):TS :=
 let sd:=Jw T.first T.follow (T.xs.length:Int)
 { T with xs:=T.xs++[kA sd (cond (sd==2) T.p2 T.p1)],p1:=cond (sd==1) 0 T.p1,p2:=cond (sd==2) 0 T.p2 }
def WE (s:Int) (T:TS):TS:=match Bk (fun k=>(sco T.xs k).side) s T.xs.length with
 | some k=>{ T with xs:=T.xs.set k (JS 5 (sco T.xs k)) }
 | none=>{ T with p1:=cond (s==1) (T.p1+5) T.p1,p2:=cond (s==2) (T.p2+5) T.p2 }
def jQ (r:Rul) (e:Ev) (T:TS):TS:={ T with xs:=T.xs.set (T.xs.length - 1) (OE r e (sco T.xs (T.xs.length - 1))) }
def RI (e:Ev):Int:=cond e.yes e.side (BR e.side)
def TQ (r:Rul) (e:Ev) (T:TS):TS :=
 cond (e.kind==1) { T with first:=RI e } (cond (e.kind==2) (ja T) (cond (e.kind==12) { T with follow:=e.yes } (cond (e.kind==16) T (cond (e.kind==13) (WE e.side T) (jQ r e T)))))
theorem rx (x:Mat):Ef (CN x)=Ef x∧(CN x).inns=x.inns∧((CN x).stage=x.stage∨(x.stage=3∧((CN x).stage=5∨((CN x).stage=4∧x.inns.length=2)∨(CN x).stage=2))):=by
 unfold CN;cases h3:(x.stage==3 && !((Ax x).ending==0)) with
 | false=>exact ⟨rfl,rfl,Or.inl rfl⟩
 | true =>
  rw [zzk] at h3;have s3:=beq_iff_eq.1 h3.1;simp only [cond_true];unfold Q4
  dsimp only
  cases ((x.inns.length:Int)==IntKind.i64.wrap (2 * x.rules.innings)||((x.inns.length:Int)==3&&iLt (CH x (Ax x).side) (CH x (BR (Ax x).side)))) with
  | true=>exact ⟨rfl,rfl,Or.inr ⟨s3,Or.inl rfl⟩⟩
  | false =>
   cases h4:((x.inns.length:Int)==2&&iLt 0 x.rules.followon&&iLe x.rules.followon (IntKind.i64.wrap (CH x x.first - CH x (BR x.first)))) with
   | true =>
    simp only [zzk,beq_iff_eq] at h4;exact ⟨rfl,rfl,Or.inr ⟨s3,Or.inr (Or.inl ⟨rfl,by omega⟩)⟩⟩
   | false=>exact ⟨rfl,rfl,Or.inr ⟨s3,Or.inr (Or.inr rfl)⟩⟩
theorem cO {m:Mat} (h:F1 m=true):(0≤m.pen1∧m.pen1≤1000000)∧(0≤m.pen2∧m.pen2≤1000000)∧((m.stage==1)=true→m.first=0)∧((m.stage==4)=true→m.inns.length=2)∧0≤m.first∧m.first≤2:=by
 unfold F1 jU at h;simp only [zzk,Bool.not_eq_true'] at h;obtain ⟨⟨h1,h2,h3,h4,h5,h6,h7,h8,h9,h10⟩,h11,h12⟩:=h;unfold cJ at h4;simp only [Bool.or_eq_false_iff,iLt,decide_eq_false_iff_not] at h4;simp only [Bool.or_eq_false_iff,iLt,decide_eq_false_iff_not] at h5;refine ⟨by omega,by omega,fun hs=>?_,fun hs=>?_,by omega,by omega⟩
 ·rw [hs,Bool.true_and,Bool.not_eq_false',beq_iff_eq] at h7;exact h7
 ·rw [hs,Bool.true_and,Bool.or_eq_false_iff,Bool.not_eq_false',Bool.not_eq_false',beq_iff_eq,beq_iff_eq] at h9;omega
theorem rJ {r:Rul} {a b c:Int} (h:((Cu r a b c).2==0)=true):BX r.balls (Cu r a b c).1=kA a c∧(a=1∨a=2):=by
 unfold Cu at h ⊢;cases h1:A5 r==0 with
 | false=>rw [h1] at h;exact absurd (show (A5 r==0)=true from h) (by rw [h1];decide)
 | true =>
  cases h2:(!btw a 1 2 || !btw b 0 1000000 || !btw c 0 1000000) with
  | true=>rw [h1,h2] at h;cases h
  | false =>
   rw [Bool.or_eq_false_iff,Bool.or_eq_false_iff,Bool.not_eq_false'] at h2;have:=U3.1 h2.1.1;refine ⟨?_,by omega⟩;show Sco.mk a c 0 (Cp r.balls 0 0) 0 0 0 0 c 0=_;rw [SY,Int.zero_mul];rfl
theorem Ko (q:Int) (xs:List Inn) (k:Nat) (t:Inn):(xs.set k t).map (BX q)=(xs.map (BX q)).set k (BX q t):=List.map_set
theorem kj (xs:List Sco) (k:Nat) (h:k<xs.length):xs.set k (sco xs k)=xs:=by
 apply List.ext_getElem?;intro i;rw [List.getElem?_set]
 by_cases e:k=i
 ·subst e;rw [if_pos rfl,if_pos h,EV,zzo h]
 ·rw [if_neg e]
theorem vz {r:Rul} {s:Inn} (hv:Gy r s=true) (q:Int):BX q (PZ s)=JS 5 (BX q s):=by
 have ok:=PG.1 hv;have rn:=ok.runs;have pn:=ok.pens;unfold Bv at rn pn;have i1:IntKind.i64.wrap (s.runs+5)=s.runs+5:=Bn (by omega) (by omega);have i2:IntKind.i64.wrap (s.pens+5)=s.pens+5:=Bn (by omega) (by omega);unfold BX JS PZ;simp only [i1,i2]
structure Stg (m:Mat) (e:Ev) (t:Mat):Prop where
 k1:(e.kind==1)=true→m.stage=1∧t.stage=2
 k2:(e.kind==2)=true→m.stage=2∧m.inns.length≤3
 k12:(e.kind==12)=true→m.stage=4∧m.inns.length=2∧t.stage=2
 k16:(e.kind==16)=true→t.stage=5
 play:(e.kind==1)=false→(e.kind==2)=false→(e.kind==12)=false→(e.kind==16)=false→m.stage=3∧1≤m.inns.length
 not1:¬ t.stage=1
 four:t.stage=4→t.inns.length=2
set_option maxHeartbeats 4000000 in
theorem lP {m:Mat} {e:Ev} (h:((Dk m e).2==0)=true):Ef (Dk m e).1=TQ m.rules e (Ef m)∧Stg m e (Dk m e).1:=by
 obtain ⟨hv,he,h5,hp,hs⟩:=bX h;have ok:=Yl hv;obtain ⟨v1,v2,v3,v4,v5,v6⟩:=cO hv;obtain ⟨c1,c2,c3⟩:=rx (IQ m e).1;rw [hs,c1];have len4:=ok.len;unfold TQ;unfold IQ at hp c2 c3 ⊢;cases k1:e.kind==1 with
 | true =>
  have e1:=beq_iff_eq.1 k1;rw [k1] at hp c2 c3;cases s1:m.stage==1 with
  | false=>rw [s1] at hp;cases hp
  | true =>
   rw [s1] at c2 c3;simp only [Bool.not_true,cond_false,cond_true] at c2 c3 ⊢;refine ⟨rfl,?_⟩;have st:(CN { m with first:=cond e.yes e.side (BR e.side),stage:=2 }).stage=2:=by
    rcases c3 with c3 | c3
    ·exact c3
    ·exact absurd c3.1 (by decide)
   exact ⟨fun _=>⟨beq_iff_eq.1 s1,st⟩,fun k=>(by rw [e1] at k;cases k),fun k=>(by rw [e1] at k;cases k),fun k=>(by rw [e1] at k;cases k),fun k=>(by rw [e1] at k;cases k),by rw [st];decide,(by rw [st];intro k;cases k)⟩
 | false =>
  rw [k1] at hp c2 c3;cases k2:e.kind==2 with
  | true =>
   have e2:=beq_iff_eq.1 k2;rw [k2] at hp c2 c3;cases s2:m.stage==2 with
   | false=>rw [s2] at hp;cases hp
   | true =>
    rw [s2] at hp c2 c3;simp only [Bool.not_true,cond_false,cond_true] at hp c2 c3 ⊢;have room:=ok.room s2;have inn2:=(Fa ok.code).innings;unfold cf at hp c2 c3 ⊢;cases hb:(Cu m.rules (DI m (m.inns.length:Int)) (HA m (DI m (m.inns.length:Int))) (cond (DI m (m.inns.length:Int)==2) m.pen2 m.pen1)).2==0 with
    | false=>simp only [hb,Bool.not_false,cond_true] at hp;cases hp
    | true =>
     simp only [hb,Bool.not_true,cond_false] at hp c2 c3 ⊢;cases ht:(Ay m.rules (Cu m.rules (DI m (m.inns.length:Int)) (HA m (DI m (m.inns.length:Int))) (cond (DI m (m.inns.length:Int)==2) m.pen2 m.pen1)).1 e).2==0 with
     | false=>simp only [ht,Bool.not_false,cond_true] at hp;exact absurd hp Bool.false_ne_true
     | true =>
      simp only [ht,Bool.not_true,cond_false] at c2 c3 ⊢;have n1:=mX ht;have o0:B5 e=0:=by unfold B5;rw [e2];rfl
      rw [Lx _ (by rw [e2];rfl) o0,e2] at n1;have n2:=n1.trans (CB _);rw [(rJ hb).1] at n2;refine ⟨?_,?_⟩
      ·unfold Ef ja;rw [← px] at *
       simp only [List.map_append,List.map_cons,List.map_nil,n2,List.length_map]
      ·refine ⟨fun k=>(by rw [k1] at k;cases k),fun _=>⟨beq_iff_eq.1 s2,by omega⟩,fun k=>(by rw [e2] at k;cases k),fun k=>(by rw [e2] at k;cases k),fun _ k=>(by rw [k2] at k;cases k),?_,?_⟩
       ·rcases c3 with c3 | ⟨_,c3 | c3 | c3⟩
        ·rw [c3];decide
        ·rw [c3];decide
        ·rw [c3.1];decide
        ·rw [c3];decide
       ·intro k;rw [c2]
        rcases c3 with c3 | ⟨_,c3 | c3 | c3⟩
        ·rw [c3] at k;cases k
        ·rw [c3] at k;cases k
        ·exact c3.2
        ·rw [c3] at k;cases k
  | false =>
   rw [k2] at hp c2 c3;cases k12:e.kind==12 with
   | true =>
    have e12:=beq_iff_eq.1 k12;rw [k12] at hp c2 c3;cases s4:m.stage==4 with
    | false=>rw [s4] at hp;cases hp
    | true =>
     rw [s4] at hp c2 c3;cases sf:e.side==m.first with
     | false=>rw [sf] at hp;cases hp
     | true =>
      rw [sf] at c2 c3;simp only [Bool.not_true,cond_false,cond_true] at c2 c3 ⊢;refine ⟨rfl,?_⟩;have st:(CN { m with follow:=e.yes,stage:=2 }).stage=2:=by
       rcases c3 with c3 | c3
       ·exact c3
       ·exact absurd c3.1 (by decide)
      exact ⟨fun k=>(by rw [k1] at k;cases k),fun k=>(by rw [k2] at k;cases k),fun _=>⟨beq_iff_eq.1 s4,v4 s4,st⟩,fun k=>(by rw [e12] at k;cases k),fun _ _ k=>(by rw [k12] at k;cases k),by rw [st];decide,(by rw [st];intro k;cases k)⟩
   | false =>
    rw [k12] at hp c2 c3;cases k16:e.kind==16 with
    | true =>
     rw [k16] at hp c2 c3;simp only [cond_false,cond_true] at c2 c3 ⊢;have st:(CN (cX m)).stage=5:=by
      rcases c3 with c3 | c3
      ·exact c3
      ·exact absurd c3.1 (by show ¬ ((5:Int)=3);decide)
     refine ⟨?_,⟨fun k=>(by rw [k1] at k;cases k),fun k=>(by rw [k2] at k;cases k),fun k=>(by rw [k12] at k;cases k),fun _=>st,fun _ _ _ k=>(by rw [k16] at k;cases k),by rw [st];decide,(by rw [st];intro k;cases k)⟩⟩;unfold Ef cX;simp only;cases s3:m.stage==3 with
     | false=>rfl
     | true =>
      have hl:=Yu (ok.begun s3) (by omega);simp only [cond_true,Ko];rw [show BX m.rules.balls { Ax m with ending:=5 }=sco (m.inns.map (BX m.rules.balls)) (lnx m.inns) from (Q1 _ _ hl).symm,kj _ _ (by rw [List.length_map];exact hl)]
    | false =>
     rw [k16] at hp c2 c3;simp only [cond_false] at hp c2 c3 ⊢;cases s3:m.stage==3 with
     | false=>rw [s3] at hp;exact absurd (show ((1:Int)==0)=true from hp) (by decide)
     | true =>
      rw [s3] at hp c2 c3;simp only [Bool.not_true,cond_false] at hp c2 c3 ⊢;have h0:=ok.begun s3;have hl:=Yu h0 (by omega);have hlen:m.inns.length - 1=lnx m.inns:=by
       rw [beq_eq_false_iff_ne] at h0;unfold lnx;rw [DG (by omega) (by omega)];omega
      have stg:(CN (Fp m e).1).inns.length=m.inns.length→((CN (Fp m e).1).stage=3∨((CN (Fp m e).1).stage=5∨((CN (Fp m e).1).stage=4∧m.inns.length=2)∨(CN (Fp m e).1).stage=2))→Stg m e (CN (Fp m e).1):=fun hn hq =>
       ⟨fun k=>(by rw [k1] at k;cases k),fun k=>(by rw [k2] at k;cases k),fun k=>(by rw [k12] at k;cases k),fun k=>(by rw [k16] at k;cases k),fun _ _ _ _=>⟨beq_iff_eq.1 s3,by omega⟩,by
        rcases hq with q | q | q | q
        ·rw [q];decide
        ·rw [q];decide
        ·rw [q.1];decide
        ·rw [q];decide,by
        intro k;rw [hn]
        rcases hq with q | q | q | q
        ·rw [q] at k;cases k
        ·rw [q] at k;cases k
        ·exact q.2
        ·rw [q] at k;cases k⟩
      have xl:(m.inns.map (BX m.rules.balls)).length=m.inns.length:=List.length_map _;cases hq:(Ay m.rules (Ax m) e).2==0 with
      | false=>unfold Fp at hp;simp only [hq,Bool.not_false,cond_true] at hp;exact absurd hp Bool.false_ne_true
      | true =>
       have n1:=mX hq;have sd1:(Ay m.rules (Ax m) e).1.side=(Ax m).side:=congrArg Sco.side n1;have s3':=beq_iff_eq.1 s3;cases k13:e.kind==13 with
       | false =>
        rw [k13] at n1;have n2:=n1.trans (CB _);have pm:Fp m e=({ m with inns:=m.inns.set (lnx m.inns) (Ay m.rules (Ax m) e).1 },0):=by
         unfold Fp;simp only [hq,k13,Bool.not_true,Bool.false_and,cond_false]
        rw [pm] at c2 c3 stg ⊢;refine ⟨?_,stg (by rw [c2];exact List.length_set) ?_⟩
        ·unfold Ef jQ;simp only [cond_false,Ko,n2,xl,hlen,Q1 _ _ hl];rfl
        ·rcases c3 with c3 | ⟨_,c3 | c3 | c3⟩
         ·exact Or.inl (c3.trans s3')
         ·exact Or.inr (Or.inl c3)
         ·exact Or.inr (Or.inr (Or.inl ⟨c3.1,by have:=c3.2;change (m.inns.set _ _).length=2 at this;rw [List.length_set] at this;exact this⟩))
         ·exact Or.inr (Or.inr (Or.inr c3))
       | true =>
        have e13:=beq_iff_eq.1 k13;have o0:B5 e=0:=by unfold B5;rw [e13];rfl
        rw [Lx _ (by rw [e13];rfl) o0,k13,Bool.true_and] at n1;have bk:Bk (fun k=>(sco (m.inns.map (BX m.rules.balls)) k).side) e.side m.inns.length=cond (e.side==(Ax m).side) (some (lnx m.inns)) (Bk (fun k=>(inn m.inns k).side) e.side (lnx m.inns)):=by
         have:m.inns.length=lnx m.inns+1:=by omega
         rw [this];show cond ((sco (m.inns.map (BX m.rules.balls)) (lnx m.inns)).side==e.side) _ (Bk (fun k=>(sco (m.inns.map (BX m.rules.balls)) k).side) e.side (lnx m.inns))=_;simp only [tz];have sy:((inn m.inns (lnx m.inns)).side==e.side)=(e.side==(Ax m).side):=by
          show ((Ax m).side==e.side)=_;rw [Bool.eq_iff_iff,beq_iff_eq,beq_iff_eq];exact eq_comm
         rw [sy]
        cases hsd:e.side==(Ax m).side with
        | true =>
         rw [hsd] at n1 bk;simp only [cond_true] at n1 bk;have pm:Fp m e=({ m with inns:=m.inns.set (lnx m.inns) (Ay m.rules (Ax m) e).1 },0):=by
          unfold Fp;simp only [hq,k13,sd1,hsd,Bool.not_true,Bool.and_false,cond_false]
         rw [pm] at c2 c3 stg ⊢;refine ⟨?_,stg (by rw [c2];exact List.length_set) ?_⟩
         ·unfold Ef WE;simp only [cond_true,Ko,n1,xl,bk,Q1 _ _ hl];rfl
         ·rcases c3 with c3 | ⟨_,c3 | c3 | c3⟩
          ·exact Or.inl (c3.trans s3')
          ·exact Or.inr (Or.inl c3)
          ·exact Or.inr (Or.inr (Or.inl ⟨c3.1,by have:=c3.2;change (m.inns.set _ _).length=2 at this;rw [List.length_set] at this;exact this⟩))
          ·exact Or.inr (Or.inr (Or.inr c3))
        | false =>
         rw [hsd] at n1 bk;simp only [cond_false] at n1 bk;have n2:=n1.trans (CB _);have pm:Fp m e=(H0 { m with inns:=m.inns.set (lnx m.inns) (Ay m.rules (Ax m) e).1 } e.side,0):=by
          unfold Fp;simp only [hq,k13,sd1,hsd,Bool.not_true,Bool.not_false,Bool.and_true,cond_true,cond_false]
         have ab:M9 (m.inns.set (lnx m.inns) (Ay m.rules (Ax m) e).1) e.side (m.inns.set (lnx m.inns) (Ay m.rules (Ax m) e).1).length=Bk (fun k=>(inn m.inns k).side) e.side (lnx m.inns):=by
          rw [oF,List.length_set,show m.inns.length=lnx m.inns+1 by omega];show cond ((inn (m.inns.set (lnx m.inns) (Ay m.rules (Ax m) e).1) (lnx m.inns)).side==e.side) (some (lnx m.inns)) (Bk (fun k=>(inn (m.inns.set (lnx m.inns) (Ay m.rules (Ax m) e).1) k).side) e.side (lnx m.inns))=Bk (fun k=>(inn m.inns k).side) e.side (lnx m.inns);rw [Y3 _ _ _ _ hl,if_pos rfl,sd1];have sy:((Ax m).side==e.side)=false:=by
           rw [← hsd,Bool.eq_iff_iff,beq_iff_eq,beq_iff_eq];exact eq_comm
          rw [sy];exact Qk _ (fun k hk=>by rw [Y3 _ _ _ _ (by omega),if_neg (by omega)])
         have mx:(m.inns.set (lnx m.inns) (Ay m.rules (Ax m) e).1).map (BX m.rules.balls)=m.inns.map (BX m.rules.balls):=by
          rw [Ko,n2,show BX m.rules.balls (Ax m)=sco (m.inns.map (BX m.rules.balls)) (lnx m.inns) from (Q1 _ _ hl).symm];exact kj _ _ (by rw [xl];exact hl)
         obtain ⟨a1,a2,a3,a4⟩:=kZ (m:={ m with inns:=m.inns.set (lnx m.inns) (Ay m.rules (Ax m) e).1 }) e.side (RO (lnx m.inns) (gf ok) (by
          have lv:=Qg (ok.innv (lnx m.inns) hl).1;have l1:=lv.1;have l2:=lv.2.1;exact Q8 (TI m.rules (Ax m) e) lv.2.2 (show (inn m.inns (lnx m.inns)).before.length+(inn m.inns (lnx m.inns)).bowlers.length≤1048575 by omega)))
         have a3':(H0 { m with inns:=m.inns.set (lnx m.inns) (Ay m.rules (Ax m) e).1 } e.side).inns.length=m.inns.length:=a3.trans List.length_set;rw [pm] at c2 c3 stg ⊢;refine ⟨?_,stg (by rw [c2];exact a3') ?_⟩
         ·simp only [cond_true];unfold H0;simp only [ab];unfold WE;show Ef _=match Bk (fun k=>(sco (m.inns.map (BX m.rules.balls)) k).side) e.side (m.inns.map (BX m.rules.balls)).length with
           | some k=>_
           | none=>_
          rw [xl,bk];cases hk:Bk (fun k=>(inn m.inns k).side) e.side (lnx m.inns) with
          | none =>
           have i1:IntKind.i64.wrap (m.pen1+5)=m.pen1+5:=Bn (by omega) (by omega);have i2:IntKind.i64.wrap (m.pen2+5)=m.pen2+5:=Bn (by omega) (by omega);unfold Ef;simp only [mx,i1,i2]
          | some k =>
           have hk2:=(JA _ hk).1;have hki:inn (m.inns.set (lnx m.inns) (Ay m.rules (Ax m) e).1) k=inn m.inns k:=by rw [Y3 _ _ _ _ (by omega),if_neg (by omega)]
           unfold Ef;simp only [hki,Ko (k:=k),mx,vz (ok.innv k (by omega)).1,Q1 _ _ (show k<m.inns.length by omega)]
         ·rcases c3 with c3 | ⟨_,c3 | c3 | c3⟩
          ·exact Or.inl (c3.trans (a4.trans s3'))
          ·exact Or.inr (Or.inl c3)
          ·exact Or.inr (Or.inr (Or.inl ⟨c3.1,a3'.symm.trans c3.2⟩))
          ·exact Or.inr (Or.inr (Or.inr c3))
end Go.Px
end
