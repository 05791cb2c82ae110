/- Part 14. -/
import Derived.Test.YteolngdncakekaaGreatPart13
import Derived.KernelRfl
set_option linter.unusedVariables false
set_option linter.unusedSimpArgs false
section
namespace Go.Px
set_option maxRecDepth 100000
theorem t5 {i:Int} (h0:0≤i) (h:i≤254):IntKind.u8.wrap (i+1)=i+1:=by
 show (i+1) % 256=i+1
 omega
theorem tJ (m:Mat) (k:Int):(Xn m k).length≤2 * (11 * (11 * (2 * (99 * 1)))):=by
 unfold Xn Ss
 exact C6 (fun s=>C6 (fun p=>C6 (fun o=>nF fun y=>C6 (fun n=>bK m k s p o y n) (by cases k==7<;>cases k==13<;>decide)) (by cases uO k<;>decide)) (by cases uP k<;>decide)) (by cases uS k<;>decide)
theorem tF (m:Mat) (k:Int):(ig m k).length≤3 * (12 * (12 * (2 * (12 * 1)))):=by
 unfold ig Ss
 exact C6 (fun s=>C6 (fun p=>C6 (fun o=>nF fun y=>C6 (fun n=>bK m k s p o y n) (by cases uR k<;>decide)) (by cases uO k<;>decide)) (by cases uP k<;>decide)) (by cases uS k<;>decide)
def NO (m:Mat) (k:Int):Rows:=cond (okK k&&BZ m) (Xn m k) []
def Us (m:Mat):Rows:=fm (NO m) 1 16
theorem jW (m:Mat) (k:Int):(NO m k).length≤47916:=by
 unfold NO
 cases okK k&&BZ m
 ·exact Nat.zero_le _
 ·exact tJ m k
theorem uf {m:Mat} (h:BZ m=false) (k:Int):lB m k=[]:=by
 unfold lB Ss
 refine Fv _ fun s _ _=>Fv _ fun p _ _=>Fv _ fun o _ _=>gz fun y=>Fv _ fun n _ _=>?_
 unfold Ax
 cases hx:(CJ m (evK k s p o y n)).2==0 with
 | false=>rfl
 | true =>
  have:=(mh hx).1
  rw [h] at this
  cases this
theorem vI {k:Int} (h1:1≤k) (h2:k≤16):okK k = !(k==4||k==15):=by
 have hk:(iLt k 1||iLt 16 k)=false:=by simp only [iLt,Bool.or_eq_false_iff,decide_eq_false_iff_not];omega
 rcases Ou hk with h | h | h | h | h | h | h | h | h | h | h | h | h | h | h | h<;>subst h<;>rfl
theorem u6 (m:Mat):Us m=bP m:=by
 unfold Us bP
 refine V6 _ fun k k1 k2=>?_
 unfold NO
 rw [vI (by omega) (by omega)]
 cases h:(k==4||k==15) with
 | true=>rfl
 | false =>
  have n15:¬ k=15:=fun e=>by rw [e] at h;cases h
  cases hv:BZ m with
  | true=>exact (rc m n15).1
  | false=>exact (uf hv k).symm
set_option maxHeartbeats 4000000 in
theorem So {N:Nat} {m1 m2 m3 m4 m5 m6 m7 m9 m10 m11 m12 m14 m15 m18 m19 m20 m21 m22:Int} {m8 m16:Bool} {m0:ByteArray} {m13:Rows} {m17:List Inn} (hN:2097152<N) (hf:Cv m17) (hl:m17.length≤1000000) (hs:m0.size≤1048576) (h13:m13.length≤1048576):B7 N [.str m0,.int m1,.int m2,.int m3,.int m4,.int m5,.int m6,.int m7,.bool m8,.int m9,.int m10,.int m11,.int m12,.rows m13,.int m14,.int m15,.bool m16,.rows (AL m17),.int m18,.int m19,.int m20,.int m21,.int m22]=some [.rows (Us (⟨⟨m0,m1,m2,m3,m4,m5,m6,m7,m8,m9,m10,m11,m12,m13⟩,m14,m15,m16,m17,m18,m19,m20,m21,m22⟩:Mat))]:=by
 show N1 (std (PK N) N) (xOf _)=_
 simp only [N1,MA,std,xOf,PXb]
 have OF:∀ k:Int,Hr N [.str m0,.int m1,.int m2,.int m3,.int m4,.int m5,.int m6,.int m7,.bool m8,.int m9,.int m10,.int m11,.int m12,.rows m13,.int m14,.int m15,.bool m16,.rows (AL m17),.int m18,.int m19,.int m20,.int m21,.int m22,.int k]=some [.rows (NO (⟨⟨m0,m1,m2,m3,m4,m5,m6,m7,m8,m9,m10,m11,m12,m13⟩,m14,m15,m16,m17,m18,m19,m20,m21,m22⟩:Mat) k)]:=fun k=>qf hN hf hl hs h13
 have b0:∀ i:Nat,i≤16→(fmo [] (NO (⟨⟨m0,m1,m2,m3,m4,m5,m6,m7,m8,m9,m10,m11,m12,m13⟩,m14,m15,m16,m17,m18,m19,m20,m21,m22⟩:Mat)) 1 i).length≤([]:Rows).length+16 * 47916:=fun i hi=>GT (jW (⟨⟨m0,m1,m2,m3,m4,m5,m6,m7,m8,m9,m10,m11,m12,m13⟩,m14,m15,m16,m17,m18,m19,m20,m21,m22⟩:Mat)) hi
 have e:=jB (NO (⟨⟨m0,m1,m2,m3,m4,m5,m6,m7,m8,m9,m10,m11,m12,m13⟩,m14,m15,m16,m17,m18,m19,m20,m21,m22⟩:Mat)) 1 16
 unfold Us
 rw [← e]
 refine AK (A6 (len:=16) (fun i=>[.rows (fmo [] (NO (⟨⟨m0,m1,m2,m3,m4,m5,m6,m7,m8,m9,m10,m11,m12,m13⟩,m14,m15,m16,m17,m18,m19,m20,m21,m22⟩:Mat)) 1 i),.int (1+(i:Int))]) [.rows (fmo [] (NO (⟨⟨m0,m1,m2,m3,m4,m5,m6,m7,m8,m9,m10,m11,m12,m13⟩,m14,m15,m16,m17,m18,m19,m20,m21,m22⟩:Mat)) 1 16)] ?_ ?_ N (by omega)) ?_
 ·intro self
  rfl
 ·intro i self hi
  have l:iLe (1+(i:Int)) 16=true:=by simp only [iLe,decide_eq_true_eq];omega
  have w:IntKind.u8.wrap (1+(i:Int)+1)=1+((i+1:Nat):Int):=by rw [t5 (by omega) (by omega)];omega
  have b1:=b0 i (by omega)
  have b2:=jW (⟨⟨m0,m1,m2,m3,m4,m5,m6,m7,m8,m9,m10,m11,m12,m13⟩,m14,m15,m16,m17,m18,m19,m20,m21,m22⟩:Mat) (1+(i:Int))
  rw [Eu]
  generalize fmo [] (NO (⟨⟨m0,m1,m2,m3,m4,m5,m6,m7,m8,m9,m10,m11,m12,m13⟩,m14,m15,m16,m17,m18,m19,m20,m21,m22⟩:Mat)) 1 i=out at *
  have sm:iSm ((out.length+(NO (⟨⟨m0,m1,m2,m3,m4,m5,m6,m7,m8,m9,m10,m11,m12,m13⟩,m14,m15,m16,m17,m18,m19,m20,m21,m22⟩:Mat) (1+(i:Int))).length:Nat):Int) 136=true:=EH (by simp only [List.length_nil] at b1;omega) (by omega)
  simp only [PXb,PXc,PXn,AA,l,w,MA,OF,List.length_append,sm]
 ·rfl
theorem qO {N:Nat} {b:Bool} {n:Int}  : OG N [.bool b,.int n]=some [.int (cond b n 0)]:=by
 show R8 (std (ZX N) N) (xOf _)=_
 simp only [R8,std,xOf,PXb,PXc,PXn,PXm,Nat.reduceAdd,Int.reduceBEq]
theorem sN {N:Nat} {b:Bool}  : Qj N [.bool b]=some [.int (cond b 1 0)]:=by
 show Ui (std (dE N) N) (xOf _)=_
 simp only [Ui,std,xOf,PXb,PXc,PXn,PXm,Nat.reduceAdd,Int.reduceBEq]
theorem yfm (b:Bool) (f:Bool→Rows):fm (fun y=>f (y==1)) 0 (cond b 2 1)=yF b f:=by
 cases b with
 | false =>
  show []++f (0+((0:Nat):Int)==1)=f false++[]
  rw [List.nil_append,List.append_nil]
  rfl
 | true =>
  show ([]++f (0+((0:Nat):Int)==1))++f (0+((1:Nat):Int)==1)=f false++f true
  rw [List.nil_append]
  rfl
theorem fG {i n:Nat} (h:i<n):iLe (i:Int) ((n:Int) - 1)=true:=by simp only [iLe,decide_eq_true_eq];omega
theorem Zi (n:Nat):iLe (n:Int) ((n:Int) - 1)=false:=by simp only [iLe,decide_eq_false_iff_not];omega
def KC (m:Mat) (k:Int):Rows:=cond (k==4||k==15) [] (ig m k)
theorem jh (m:Mat) (k:Int):(KC m k).length≤10368:=by
 unfold KC
 cases k==4||k==15
 ·exact tF m k
 ·exact Nat.zero_le _
theorem mS (m:Mat):fm (KC m) 1 16=bP m:=by
 unfold bP
 refine V6 _ fun k k1 k2=>?_
 unfold KC
 cases h:(k==4||k==15) with
 | true=>rw [cond_true,cond_true]
 | false =>
  have n15:¬ k=15:=fun e=>by rw [e] at h;cases h
  have ob:=(rc m n15).2
  rw [cond_false,cond_false,ob]
set_option maxHeartbeats 8000000 in
theorem pb {N:Nat} {m1 m2 m3 m4 m5 m6 m7 m9 m10 m11 m12 m14 m15 m18 m19 m20 m21 m22:Int} {m8 m16:Bool} {m0:ByteArray} {m13:Rows} {m17:List Inn} (hN:2097152<N) (hf:Cv m17) (hl:m17.length≤1000000) (hs:m0.size≤1048576) (h13:m13.length≤1048576):Rh N [.str m0,.int m1,.int m2,.int m3,.int m4,.int m5,.int m6,.int m7,.bool m8,.int m9,.int m10,.int m11,.int m12,.rows m13,.int m14,.int m15,.bool m16,.rows (AL m17),.int m18,.int m19,.int m20,.int m21,.int m22]=some [.rows (bP (⟨⟨m0,m1,m2,m3,m4,m5,m6,m7,m8,m9,m10,m11,m12,m13⟩,m14,m15,m16,m17,m18,m19,m20,m21,m22⟩:Mat))]:=by
 show R1 (std (G9 N) N) (xOf _)=_
 simp only [R1,QT,MJ,OW,QL,std,xOf,PXb]
 rw [← mS,← jB]
 have b0:∀ i:Nat,i≤16→(fmo [] (KC (⟨⟨m0,m1,m2,m3,m4,m5,m6,m7,m8,m9,m10,m11,m12,m13⟩,m14,m15,m16,m17,m18,m19,m20,m21,m22⟩:Mat)) 1 i).length≤([]:Rows).length+16 * 10368:=fun i hi=>GT (jh (⟨⟨m0,m1,m2,m3,m4,m5,m6,m7,m8,m9,m10,m11,m12,m13⟩,m14,m15,m16,m17,m18,m19,m20,m21,m22⟩:Mat)) hi
 refine AK (A6 (len:=16) (fun i=>[.rows (fmo [] (KC (⟨⟨m0,m1,m2,m3,m4,m5,m6,m7,m8,m9,m10,m11,m12,m13⟩,m14,m15,m16,m17,m18,m19,m20,m21,m22⟩:Mat)) 1 i),.int (1+(i:Int))]) [.rows (fmo [] (KC (⟨⟨m0,m1,m2,m3,m4,m5,m6,m7,m8,m9,m10,m11,m12,m13⟩,m14,m15,m16,m17,m18,m19,m20,m21,m22⟩:Mat)) 1 16)] ?_ ?_ N (by omega)) ?_
 ·intro self
  rfl
 ·intro i self hi
  have l:iLe (1+(i:Int)) 16=true:=by simp only [iLe,decide_eq_true_eq];omega
  have w:IntKind.u8.wrap (1+(i:Int)+1)=1+((i+1:Nat):Int):=by rw [t5 (by omega) (by omega)];omega
  have bb:=b0 i (by omega)
  rw [List.length_nil,Nat.zero_add] at bb
  rw [Eu]
  generalize fmo [] (KC (⟨⟨m0,m1,m2,m3,m4,m5,m6,m7,m8,m9,m10,m11,m12,m13⟩,m14,m15,m16,m17,m18,m19,m20,m21,m22⟩:Mat)) 1 i=out0 at *
  generalize (((i+1:Nat):Int))=i1 at *
  generalize (1+(i:Int))=k at *
  cases hk:(k==4||k==15) with
  | true =>
   have:KC (⟨⟨m0,m1,m2,m3,m4,m5,m6,m7,m8,m9,m10,m11,m12,m13⟩,m14,m15,m16,m17,m18,m19,m20,m21,m22⟩:Mat) k=[]:=by unfold KC;rw [hk];rfl
   rw [this,List.append_nil]
   simp only [PXb,PXc,PXn,AA,l,w,hk]
  | false =>
   have e0:KC (⟨⟨m0,m1,m2,m3,m4,m5,m6,m7,m8,m9,m10,m11,m12,m13⟩,m14,m15,m16,m17,m18,m19,m20,m21,m22⟩:Mat) k=ig (⟨⟨m0,m1,m2,m3,m4,m5,m6,m7,m8,m9,m10,m11,m12,m13⟩,m14,m15,m16,m17,m18,m19,m20,m21,m22⟩:Mat) k:=by unfold KC;rw [hk];rfl
   rw [e0]
   unfold ig Ss
   have eS:(cond (uS k) 2 0:Int)=((cond (uS k) 3 1:Nat):Int) - 1:=by cases uS k<;>rfl
   have eP:(cond (uP k) 11 0:Int)=((cond (uP k) 12 1:Nat):Int) - 1:=by cases uP k<;>rfl
   have eO:(cond (uO k) 11 0:Int)=((cond (uO k) 12 1:Nat):Int) - 1:=by cases uO k<;>rfl
   have eY:(cond (uY k) 1 0:Int)=((cond (uY k) 2 1:Nat):Int) - 1:=by cases uY k<;>rfl
   have eR:(cond (uR k) 11 0:Int)=((cond (uR k) 12 1:Nat):Int) - 1:=by cases uR k<;>rfl
   have c1:(cond (uS k) 3 1:Nat)≤3:=by cases uS k<;>decide
   have c2:(cond (uP k) 12 1:Nat)≤12:=by cases uP k<;>decide
   have c3:(cond (uO k) 12 1:Nat)≤12:=by cases uO k<;>decide
   have c4:(cond (uR k) 12 1:Nat)≤12:=by cases uR k<;>decide
   have c5:(cond (uY k) 2 1:Nat)≤2:=by cases uY k<;>decide
   have yf:∀ f:Bool→Rows,yF (uY k) f=fm (fun y=>f (y==1)) 0 (cond (uY k) 2 1):=fun f=>(yfm _ _).symm
   simp only [PXb,PXc,PXn,AA,l,w,hk,Zs,qO,sN,OW,QL,MJ,eS,eP,eO,eY,eR,yf]
   generalize (cond (uS k) 3 1:Nat)=sn at *
   generalize (cond (uP k) 12 1:Nat)=pn at *
   generalize (cond (uO k) 12 1:Nat)=on at *
   generalize (cond (uR k) 12 1:Nat)=rn at *
   generalize (cond (uY k) 2 1:Nat)=yn at *
   have WHY:∀ s p o:Int,∀ y:Bool,∀ n:Int,Fi N [.str m0,.int m1,.int m2,.int m3,.int m4,.int m5,.int m6,.int m7,.bool m8,.int m9,.int m10,.int m11,.int m12,.rows m13,.int m14,.int m15,.bool m16,.rows (AL m17),.int m18,.int m19,.int m20,.int m21,.int m22,.int k,.int s,.int p,.int o,.bool y,.int n,.int 0,.int 0,.int 0,.int 0,.int 0,.int 0,.bool false,.int 0,.int 0,.int 0,.int 0,.bool false,.int 0]=some [.int (CJ (⟨⟨m0,m1,m2,m3,m4,m5,m6,m7,m8,m9,m10,m11,m12,m13⟩,m14,m15,m16,m17,m18,m19,m20,m21,m22⟩:Mat) (evK k s p o y n)).2]:=fun s p o y n=>jo hN hf hl hs h13
   have ONE:∀ s p o:Int,∀ y:Bool,∀ n:Int,Ax (⟨⟨m0,m1,m2,m3,m4,m5,m6,m7,m8,m9,m10,m11,m12,m13⟩,m14,m15,m16,m17,m18,m19,m20,m21,m22⟩:Mat) k s p o y n=cond ((CJ (⟨⟨m0,m1,m2,m3,m4,m5,m6,m7,m8,m9,m10,m11,m12,m13⟩,m14,m15,m16,m17,m18,m19,m20,m21,m22⟩:Mat) (evK k s p o y n)).2==0) [[.int k,.int s,.int p,.int o,.bool y,.int n,.int 0,.int 0,.int 0,.int 0,.int 0,.int 0,.bool false,.int 0,.int 0,.int 0,.int 0,.bool false,.int 0]] []:=fun s p o y n=>rfl
   have l1:∀ s p o:Int,∀ y:Bool,∀ n:Int,(Ax (⟨⟨m0,m1,m2,m3,m4,m5,m6,m7,m8,m9,m10,m11,m12,m13⟩,m14,m15,m16,m17,m18,m19,m20,m21,m22⟩:Mat) k s p o y n).length≤1:=fun s p o y n=>bK _ k s p o y n
   have l2:∀ s p o:Int,∀ y:Bool,(fm (fun n=>Ax (⟨⟨m0,m1,m2,m3,m4,m5,m6,m7,m8,m9,m10,m11,m12,m13⟩,m14,m15,m16,m17,m18,m19,m20,m21,m22⟩:Mat) k s p o y n) 0 rn).length≤12 * 1:=fun s p o y=>C6 (l1 s p o y) c4
   have l3:∀ s p o:Int,(fm (fun y=>fm (fun n=>Ax (⟨⟨m0,m1,m2,m3,m4,m5,m6,m7,m8,m9,m10,m11,m12,m13⟩,m14,m15,m16,m17,m18,m19,m20,m21,m22⟩:Mat) k s p o (y==1) n) 0 rn) 0 yn).length≤2 * (12 * 1):=fun s p o=>C6 (fun y=>l2 s p o (y==1)) c5
   have l4:∀ s p:Int,(fm (fun o=>fm (fun y=>fm (fun n=>Ax (⟨⟨m0,m1,m2,m3,m4,m5,m6,m7,m8,m9,m10,m11,m12,m13⟩,m14,m15,m16,m17,m18,m19,m20,m21,m22⟩:Mat) k s p o (y==1) n) 0 rn) 0 yn) 0 on).length≤12 * (2 * (12 * 1)):=fun s p=>C6 (l3 s p) c3
   have l5:∀ s:Int,(fm (fun p=>fm (fun o=>fm (fun y=>fm (fun n=>Ax (⟨⟨m0,m1,m2,m3,m4,m5,m6,m7,m8,m9,m10,m11,m12,m13⟩,m14,m15,m16,m17,m18,m19,m20,m21,m22⟩:Mat) k s p o (y==1) n) 0 rn) 0 yn) 0 on) 0 pn).length≤12 * (12 * (2 * (12 * 1))):=fun s=>C6 (l4 s) c2
   have z0:∀ a:Nat,(0:Int)+(a:Int)=(a:Int):=fun a=>Int.zero_add _
   refine AK (A6 (len:=sn) (fun i=>[.rows (fmo out0 (fun s=>fm (fun p=>fm (fun o=>fm (fun y=>fm (fun n=>Ax (⟨⟨m0,m1,m2,m3,m4,m5,m6,m7,m8,m9,m10,m11,m12,m13⟩,m14,m15,m16,m17,m18,m19,m20,m21,m22⟩:Mat) k s p o (y==1) n) 0 rn) 0 yn) 0 on) 0 pn) 0 i),.int (i:Int)]) [.rows (fmo out0 (fun s=>fm (fun p=>fm (fun o=>fm (fun y=>fm (fun n=>Ax (⟨⟨m0,m1,m2,m3,m4,m5,m6,m7,m8,m9,m10,m11,m12,m13⟩,m14,m15,m16,m17,m18,m19,m20,m21,m22⟩:Mat) k s p o (y==1) n) 0 rn) 0 yn) 0 on) 0 pn) 0 sn),.int (sn:Int)] ?_ ?_ N (by omega)) ?_
   ·intro self
    simp only [PXb,PXc,PXn,AA,Zi]
   ·intro a self ha
    have b1:=GT (out:=out0) (lo:=0) (n:=a) l5 (k:=3) (by omega)
    rw [Eu,z0]
    generalize fmo out0 (fun s=>fm (fun p=>fm (fun o=>fm (fun y=>fm (fun n=>Ax (⟨⟨m0,m1,m2,m3,m4,m5,m6,m7,m8,m9,m10,m11,m12,m13⟩,m14,m15,m16,m17,m18,m19,m20,m21,m22⟩:Mat) k s p o (y==1) n) 0 rn) 0 yn) 0 on) 0 pn) 0 a=out1 at *
    rw [← Jc]
    simp only [PXb,PXc,PXn,AA,fG ha,IW (show a≤1099511627776 by omega)]
    generalize (a:Int)=s at *
    refine AK (A6 (len:=pn) (fun i=>[.rows (fmo out1 (fun p=>fm (fun o=>fm (fun y=>fm (fun n=>Ax (⟨⟨m0,m1,m2,m3,m4,m5,m6,m7,m8,m9,m10,m11,m12,m13⟩,m14,m15,m16,m17,m18,m19,m20,m21,m22⟩:Mat) k s p o (y==1) n) 0 rn) 0 yn) 0 on) 0 i),.int (i:Int)]) [.rows (fmo out1 (fun p=>fm (fun o=>fm (fun y=>fm (fun n=>Ax (⟨⟨m0,m1,m2,m3,m4,m5,m6,m7,m8,m9,m10,m11,m12,m13⟩,m14,m15,m16,m17,m18,m19,m20,m21,m22⟩:Mat) k s p o (y==1) n) 0 rn) 0 yn) 0 on) 0 pn),.int (pn:Int)] ?_ ?_ N (by omega)) ?_
    ·intro self
     simp only [PXb,PXc,PXn,AA,Zi]
    ·intro a self ha
     have b2:=GT (out:=out1) (lo:=0) (n:=a) (l4 s) (k:=12) (by omega)
     rw [Eu,z0]
     generalize fmo out1 (fun p=>fm (fun o=>fm (fun y=>fm (fun n=>Ax (⟨⟨m0,m1,m2,m3,m4,m5,m6,m7,m8,m9,m10,m11,m12,m13⟩,m14,m15,m16,m17,m18,m19,m20,m21,m22⟩:Mat) k s p o (y==1) n) 0 rn) 0 yn) 0 on) 0 a=out2 at *
     rw [← Jc]
     simp only [PXb,PXc,PXn,AA,fG ha,IW (show a≤1099511627776 by omega)]
     generalize (a:Int)=p at *
     refine AK (A6 (len:=on) (fun i=>[.rows (fmo out2 (fun o=>fm (fun y=>fm (fun n=>Ax (⟨⟨m0,m1,m2,m3,m4,m5,m6,m7,m8,m9,m10,m11,m12,m13⟩,m14,m15,m16,m17,m18,m19,m20,m21,m22⟩:Mat) k s p o (y==1) n) 0 rn) 0 yn) 0 i),.int (i:Int)]) [.rows (fmo out2 (fun o=>fm (fun y=>fm (fun n=>Ax (⟨⟨m0,m1,m2,m3,m4,m5,m6,m7,m8,m9,m10,m11,m12,m13⟩,m14,m15,m16,m17,m18,m19,m20,m21,m22⟩:Mat) k s p o (y==1) n) 0 rn) 0 yn) 0 on),.int (on:Int)] ?_ ?_ N (by omega)) ?_
     ·intro self
      simp only [PXb,PXc,PXn,AA,Zi]
     ·intro a self ha
      have b3:=GT (out:=out2) (lo:=0) (n:=a) (l3 s p) (k:=12) (by omega)
      rw [Eu,z0]
      generalize fmo out2 (fun o=>fm (fun y=>fm (fun n=>Ax (⟨⟨m0,m1,m2,m3,m4,m5,m6,m7,m8,m9,m10,m11,m12,m13⟩,m14,m15,m16,m17,m18,m19,m20,m21,m22⟩:Mat) k s p o (y==1) n) 0 rn) 0 yn) 0 a=out3 at *
      rw [← Jc]
      simp only [PXb,PXc,PXn,AA,fG ha,IW (show a≤1099511627776 by omega)]
      generalize (a:Int)=o at *
      refine AK (A6 (len:=yn) (fun i=>[.rows (fmo out3 (fun y=>fm (fun n=>Ax (⟨⟨m0,m1,m2,m3,m4,m5,m6,m7,m8,m9,m10,m11,m12,m13⟩,m14,m15,m16,m17,m18,m19,m20,m21,m22⟩:Mat) k s p o (y==1) n) 0 rn) 0 i),.int (i:Int)]) [.rows (fmo out3 (fun y=>fm (fun n=>Ax (⟨⟨m0,m1,m2,m3,m4,m5,m6,m7,m8,m9,m10,m11,m12,m13⟩,m14,m15,m16,m17,m18,m19,m20,m21,m22⟩:Mat) k s p o (y==1) n) 0 rn) 0 yn),.int (yn:Int)] ?_ ?_ N (by omega)) ?_
      ·intro self
       simp only [PXb,PXc,PXn,AA,Zi]
      ·intro a self ha
       have b4:=GT (out:=out3) (f:=fun y=>fm (fun n=>Ax (⟨⟨m0,m1,m2,m3,m4,m5,m6,m7,m8,m9,m10,m11,m12,m13⟩,m14,m15,m16,m17,m18,m19,m20,m21,m22⟩:Mat) k s p o (y==1) n) 0 rn) (lo:=0) (n:=a) (fun y=>l2 s p o (y==1)) (k:=2) (by omega)
       rw [Eu,z0]
       generalize fmo out3 (fun y=>fm (fun n=>Ax (⟨⟨m0,m1,m2,m3,m4,m5,m6,m7,m8,m9,m10,m11,m12,m13⟩,m14,m15,m16,m17,m18,m19,m20,m21,m22⟩:Mat) k s p o (y==1) n) 0 rn) 0 a=out4 at *
       rw [← Jc]
       simp only [PXb,PXc,PXn,AA,fG ha,IW (show a≤1099511627776 by omega)]
       generalize ((a:Int)==1)=y at *
       refine AK (A6 (len:=rn) (fun i=>[.rows (fmo out4 (fun n=>Ax (⟨⟨m0,m1,m2,m3,m4,m5,m6,m7,m8,m9,m10,m11,m12,m13⟩,m14,m15,m16,m17,m18,m19,m20,m21,m22⟩:Mat) k s p o y n) 0 i),.int (i:Int)]) [.rows (fmo out4 (fun n=>Ax (⟨⟨m0,m1,m2,m3,m4,m5,m6,m7,m8,m9,m10,m11,m12,m13⟩,m14,m15,m16,m17,m18,m19,m20,m21,m22⟩:Mat) k s p o y n) 0 rn),.int (rn:Int)] ?_ ?_ N (by omega)) ?_
       ·intro self
        simp only [PXb,PXc,PXn,AA,Zi]
       ·intro a self ha
        have b5:=GT (out:=out4) (f:=fun n=>Ax (⟨⟨m0,m1,m2,m3,m4,m5,m6,m7,m8,m9,m10,m11,m12,m13⟩,m14,m15,m16,m17,m18,m19,m20,m21,m22⟩:Mat) k s p o y n) (lo:=0) (n:=a) (l1 s p o y) (k:=12) (by omega)
        rw [Eu,z0]
        generalize fmo out4 (fun n=>Ax (⟨⟨m0,m1,m2,m3,m4,m5,m6,m7,m8,m9,m10,m11,m12,m13⟩,m14,m15,m16,m17,m18,m19,m20,m21,m22⟩:Mat) k s p o y n) 0 a=out5 at *
        have sm:iSm ((out5.length+1:Nat):Int) 136=true:=EH (by omega) (by omega)
        simp only [PXb,PXc,PXn,AA,fG ha,IW (show a≤1099511627776 by omega),QT,WHY,ONE,List.length_append,List.length_cons,List.length_nil,Nat.zero_add,sm]
        cases (CJ (⟨⟨m0,m1,m2,m3,m4,m5,m6,m7,m8,m9,m10,m11,m12,m13⟩,m14,m15,m16,m17,m18,m19,m20,m21,m22⟩:Mat) (evK k s p o y (a:Int))).2==0 with
        | false=>rw [cond_false,cond_false,List.append_nil]
        | true=>rfl
       ·simp only [PXb,PXc,PXn,AA]
      ·simp only [PXb,PXc,PXn,AA]
     ·simp only [PXb,PXc,PXn,AA]
    ·simp only [PXb,PXc,PXn,AA]
   ·simp only [PXb,PXc,PXn,AA]
    rw [Jc]
 ·rfl
end Go.Px
end
section
namespace Go.Px
set_option maxRecDepth 100000
theorem X8 {N:Nat} {L:Rows} (hN:2097152<N) (h:L.length≤1048576):EJ N [.rows L,.rows L]=some [.bool true]:=by
 show EE (std (Kb N) N) (xOf _)=_
 simp only [EE,std,xOf,PXb,PXm]
 refine AK (A6 (len:=L.length) (fun i=>[.int (i:Int)]) [.int 1] ?_ ?_ N (by omega)) ?_
 ·intro self
  simp only [PXb,PXc,PXn,AA,Ar]
 ·intro i self hi
  simp only [PXb,PXc,PXn,PXm,Nat.reduceAdd,Int.reduceBEq,AW (show i≤1099511627776 by omega),Ah hi,AQ hi]
  rfl
 ·simp only [PXb,PXc,PXn,PXm,Nat.reduceAdd,Int.reduceBEq]
theorem qy {N:Nat} (l:Int):Cz N [.int l]=Cz 0 [.int l]:=rfl
def pO (l:Int):ByteArray:=match Cz 0 [.int l] with
 | some [.str s]=>s
 | _=>ByteArray.empty
theorem lO {N:Nat} (l:Int):Cz N [.int l]=some [.str (pO l)]:=by
 rw [qy]
 have:∃ s,Cz 0 [.int l]=some [.str s]:=by
  show ∃ s,Mc (std (Vz 0) 0) (xOf _)=some [.str s]
  simp only [Mc,std,xOf,PXb,PXc,PXn,PXm,Nat.reduceAdd,Int.reduceBEq]
  cases h:(iLt l 0||iLe ((27:Nat):Int) l) with
  | true=>exact ⟨_,by simp only [List.length_cons,List.length_nil,Nat.reduceAdd,h,cond_true];rfl⟩
  | false =>
   have hi:iIn l ((27:Nat):Int)=true:=by
    simp only [iLt,iLe,Bool.or_eq_false_iff,decide_eq_false_iff_not] at h
    simp only [iIn,decide_eq_true_eq]
    omega
   exact ⟨_,by simp only [List.length_cons,List.length_nil,Nat.reduceAdd,h,cond_false,hi,cond_true];rfl⟩
 obtain ⟨s,hs⟩:=this
 unfold pO
 rw [hs]
def ir:Rul:=⟨⟨#[84,87,79]⟩,2,1,1,4,0,1,1,false,0,0,0,0,[]⟩
def eF:Mat:=⟨ir,1,0,false,[],0,0,0,0,0⟩
def ei:Mat:=⟨ir,2,1,false,[],0,0,0,0,0⟩
def evN (k s p o:Int) (y:Bool):List PV:=[.int k,.int s,.int p,.int o,.bool y,.int 0,.int 0,.int 0,.int 0,.int 0,.int 0,.int 0,.bool false,.int 0,.int 0,.int 0,.int 0,.bool false,.int 0]
theorem vw:l8 ir=(eF,0):=by kernel_rfl
theorem vk:Us eF=[evN 1 1 0 0 false,evN 1 1 0 0 true,evN 1 2 0 0 false,evN 1 2 0 0 true,evN 16 0 0 0 false]:=by kernel_rfl
theorem vL:CJ eF (evK 1 1 0 0 true 0)=(ei,0):=by kernel_rfl
theorem uc:Us ei=[evN 2 0 1 2 false,evN 2 0 2 1 false,evN 16 0 0 0 false]:=by kernel_rfl
theorem vq:(CJ ei (evK 1 1 0 0 true 0)).2=1:=by kernel_rfl
theorem vD {N:Nat}:QD N []=some [.str ⟨#[84,87,79]⟩,.int 2,.int 1,.int 1,.int 4,.int 0,.int 1,.int 1,.bool false,.int 0,.int 0,.int 0,.int 0,.rows []]:=rfl
theorem vi:pO 1=⟨#[80,72,65,83,69]⟩:=by kernel_rfl
set_option maxHeartbeats 1000000 in
theorem nj:Ko 4194304 []=some [.bool true]:=by
 have hN:2097152<4194304:=by omega
 have hs:ir.name.size≤1048576:=by decide
 have hf:Cv ([]:List Inn):=fun i hi=>absurd hi (Nat.not_lt_zero _)
 have k1:F9 4194304 ir.ls=some (LL (l8 ir)):=ng hN hs (Nat.zero_le _)
 have k2:B7 4194304 eF.ls=some [.rows (Us eF)]:=So hN hf (Nat.zero_le _) hs (Nat.zero_le _)
 have k3:Cg 4194304 (eF.ls++evN 1 1 0 0 true)=some (LL (CJ eF (evK 1 1 0 0 true 0))):=Zw hN hf (Nat.zero_le _) hs (Nat.zero_le _)
 have k4:B7 4194304 ei.ls=some [.rows (Us ei)]:=So hN hf (Nat.zero_le _) hs (Nat.zero_le _)
 have k5:CF 4194304 (ei.ls++evN 1 1 0 0 true)=some [.int (CJ ei (evK 1 1 0 0 true 0)).2]:=U9 hN hf (Nat.zero_le _) hs (Nat.zero_le _)
 have k6:=lO (N:=4194304) 1
 rw [vw] at k1
 rw [vk] at k2
 rw [vL] at k3
 rw [uc] at k4
 rw [vq] at k5
 rw [vi] at k6
 obtain ⟨R,hR⟩:∃ R:Rows,R=[evN 1 1 0 0 false,evN 1 1 0 0 true,evN 1 2 0 0 false,evN 1 2 0 0 true,evN 16 0 0 0 false]:=⟨_,rfl⟩
 obtain ⟨Q,hQ⟩:∃ Q:Rows,Q=[evN 2 0 1 2 false,evN 2 0 2 1 false,evN 16 0 0 0 false]:=⟨_,rfl⟩
 rw [← hR] at k2
 rw [← hQ] at k4
 have lR:R.length=5:=by rw [hR];rfl
 have lQ:Q.length=3:=by rw [hQ];rfl
 have f0_0:pvI (AF R 0 0)=1:=by rw [hR];rfl
 have f0_1:pvI (AF R 0 1)=1:=by rw [hR];rfl
 have f0_2:pvI (AF R 0 2)=0:=by rw [hR];rfl
 have f0_3:pvI (AF R 0 3)=0:=by rw [hR];rfl
 have f0_4:pvB (AF R 0 4)=false:=by rw [hR];rfl
 have f0_5:pvI (AF R 0 5)=0:=by rw [hR];rfl
 have f0_6:pvI (AF R 0 6)=0:=by rw [hR];rfl
 have f0_7:pvI (AF R 0 7)=0:=by rw [hR];rfl
 have f0_8:pvI (AF R 0 8)=0:=by rw [hR];rfl
 have f0_9:pvI (AF R 0 9)=0:=by rw [hR];rfl
 have f0_10:pvI (AF R 0 10)=0:=by rw [hR];rfl
 have f0_11:pvI (AF R 0 11)=0:=by rw [hR];rfl
 have f0_12:pvB (AF R 0 12)=false:=by rw [hR];rfl
 have f0_13:pvI (AF R 0 13)=0:=by rw [hR];rfl
 have f0_14:pvI (AF R 0 14)=0:=by rw [hR];rfl
 have f0_15:pvI (AF R 0 15)=0:=by rw [hR];rfl
 have f0_16:pvI (AF R 0 16)=0:=by rw [hR];rfl
 have f0_17:pvB (AF R 0 17)=false:=by rw [hR];rfl
 have f0_18:pvI (AF R 0 18)=0:=by rw [hR];rfl
 have f1_0:pvI (AF R 1 0)=1:=by rw [hR];rfl
 have f1_1:pvI (AF R 1 1)=1:=by rw [hR];rfl
 have f1_2:pvI (AF R 1 2)=0:=by rw [hR];rfl
 have f1_3:pvI (AF R 1 3)=0:=by rw [hR];rfl
 have f1_4:pvB (AF R 1 4)=true:=by rw [hR];rfl
 have f1_5:pvI (AF R 1 5)=0:=by rw [hR];rfl
 have f1_6:pvI (AF R 1 6)=0:=by rw [hR];rfl
 have f1_7:pvI (AF R 1 7)=0:=by rw [hR];rfl
 have f1_8:pvI (AF R 1 8)=0:=by rw [hR];rfl
 have f1_9:pvI (AF R 1 9)=0:=by rw [hR];rfl
 have f1_10:pvI (AF R 1 10)=0:=by rw [hR];rfl
 have f1_11:pvI (AF R 1 11)=0:=by rw [hR];rfl
 have f1_12:pvB (AF R 1 12)=false:=by rw [hR];rfl
 have f1_13:pvI (AF R 1 13)=0:=by rw [hR];rfl
 have f1_14:pvI (AF R 1 14)=0:=by rw [hR];rfl
 have f1_15:pvI (AF R 1 15)=0:=by rw [hR];rfl
 have f1_16:pvI (AF R 1 16)=0:=by rw [hR];rfl
 have f1_17:pvB (AF R 1 17)=false:=by rw [hR];rfl
 have f1_18:pvI (AF R 1 18)=0:=by rw [hR];rfl
 have f4_0:pvI (AF R 4 0)=16:=by rw [hR];rfl
 have f4_1:pvI (AF R 4 1)=0:=by rw [hR];rfl
 have f4_2:pvI (AF R 4 2)=0:=by rw [hR];rfl
 have f4_3:pvI (AF R 4 3)=0:=by rw [hR];rfl
 have f4_4:pvB (AF R 4 4)=false:=by rw [hR];rfl
 have f4_5:pvI (AF R 4 5)=0:=by rw [hR];rfl
 have f4_6:pvI (AF R 4 6)=0:=by rw [hR];rfl
 have f4_7:pvI (AF R 4 7)=0:=by rw [hR];rfl
 have f4_8:pvI (AF R 4 8)=0:=by rw [hR];rfl
 have f4_9:pvI (AF R 4 9)=0:=by rw [hR];rfl
 have f4_10:pvI (AF R 4 10)=0:=by rw [hR];rfl
 have f4_11:pvI (AF R 4 11)=0:=by rw [hR];rfl
 have f4_12:pvB (AF R 4 12)=false:=by rw [hR];rfl
 have f4_13:pvI (AF R 4 13)=0:=by rw [hR];rfl
 have f4_14:pvI (AF R 4 14)=0:=by rw [hR];rfl
 have f4_15:pvI (AF R 4 15)=0:=by rw [hR];rfl
 have f4_16:pvI (AF R 4 16)=0:=by rw [hR];rfl
 have f4_17:pvB (AF R 4 17)=false:=by rw [hR];rfl
 have f4_18:pvI (AF R 4 18)=0:=by rw [hR];rfl
 clear hR hQ
 change F9 4194304 [.str ⟨#[84,87,79]⟩,.int 2,.int 1,.int 1,.int 4,.int 0,.int 1,.int 1,.bool false,.int 0,.int 0,.int 0,.int 0,.rows []]=some [.str ⟨#[84,87,79]⟩,.int 2,.int 1,.int 1,.int 4,.int 0,.int 1,.int 1,.bool false,.int 0,.int 0,.int 0,.int 0,.rows [],.int 1,.int 0,.bool false,.rows [],.int 0,.int 0,.int 0,.int 0,.int 0,.int 0] at k1
 change B7 4194304 [.str ⟨#[84,87,79]⟩,.int 2,.int 1,.int 1,.int 4,.int 0,.int 1,.int 1,.bool false,.int 0,.int 0,.int 0,.int 0,.rows [],.int 1,.int 0,.bool false,.rows [],.int 0,.int 0,.int 0,.int 0,.int 0]=some [.rows R] at k2
 change Cg 4194304 [.str ⟨#[84,87,79]⟩,.int 2,.int 1,.int 1,.int 4,.int 0,.int 1,.int 1,.bool false,.int 0,.int 0,.int 0,.int 0,.rows [],.int 1,.int 0,.bool false,.rows [],.int 0,.int 0,.int 0,.int 0,.int 0,.int 1,.int 1,.int 0,.int 0,.bool true,.int 0,.int 0,.int 0,.int 0,.int 0,.int 0,.int 0,.bool false,.int 0,.int 0,.int 0,.int 0,.bool false,.int 0]=some [.str ⟨#[84,87,79]⟩,.int 2,.int 1,.int 1,.int 4,.int 0,.int 1,.int 1,.bool false,.int 0,.int 0,.int 0,.int 0,.rows [],.int 2,.int 1,.bool false,.rows [],.int 0,.int 0,.int 0,.int 0,.int 0,.int 0] at k3
 change B7 4194304 [.str ⟨#[84,87,79]⟩,.int 2,.int 1,.int 1,.int 4,.int 0,.int 1,.int 1,.bool false,.int 0,.int 0,.int 0,.int 0,.rows [],.int 2,.int 1,.bool false,.rows [],.int 0,.int 0,.int 0,.int 0,.int 0]=some [.rows Q] at k4
 change CF 4194304 [.str ⟨#[84,87,79]⟩,.int 2,.int 1,.int 1,.int 4,.int 0,.int 1,.int 1,.bool false,.int 0,.int 0,.int 0,.int 0,.rows [],.int 2,.int 1,.bool false,.rows [],.int 0,.int 0,.int 0,.int 0,.int 0,.int 1,.int 1,.int 0,.int 0,.bool true,.int 0,.int 0,.int 0,.int 0,.int 0,.int 0,.int 0,.bool false,.int 0,.int 0,.int 0,.int 0,.bool false,.int 0]=some [.int 1] at k5
 have t0:(0:Int).toNat=0:=rfl
 have t1:(1:Int).toNat=1:=rfl
 have t4:(4:Int).toNat=4:=rfl
 have c5:((5:Nat):Int)=5:=rfl
 have c3:((3:Nat):Int)=3:=rfl
 have i0:iIn 0 5=true:=by decide
 have i1:iIn 1 5=true:=by decide
 have i4:iIn 4 5=true:=by decide
 show PP (std (C8 4194304) 4194304) (xOf [])=_
 simp only [PP,VN,VC,VR,Vs,WA,Y5,std,xOf,PXb,PXc,PXn,PXm,Nat.reduceAdd,Int.reduceBEq,vD,k1,k2,lR,lQ,t0,t1,t4,c5,c3,i0,i1,i4,f0_0,f0_1,f0_2,f0_3,f0_4,f0_5,f0_6,f0_7,f0_8,f0_9,f0_10,f0_11,f0_12,f0_13,f0_14,f0_15,f0_16,f0_17,f0_18,f1_0,f1_1,f1_2,f1_3,f1_4,f1_5,f1_6,f1_7,f1_8,f1_9,f1_10,f1_11,f1_12,f1_13,f1_14,f1_15,f1_16,f1_17,f1_18,f4_0,f4_1,f4_2,f4_3,f4_4,f4_5,f4_6,f4_7,f4_8,f4_9,f4_10,f4_11,f4_12,f4_13,f4_14,f4_15,f4_16,f4_17,f4_18,k3,k4,k5,k6,beq_self_eq_true,Int.reduceBEq]
set_option maxHeartbeats 4000000 in
theorem f0 {N:Nat} {m1 m2 m3 m4 m5 m6 m7 m9 m10 m11 m12 m14 m15 m18 m19 m20 m21 m22:Int} {m8 m16:Bool} {m0:ByteArray} {m13:Rows} {m17:List Inn} {e0 e1 e2 e3 e5 e6 e7 e8 e9 e10 e11 e13 e14 e15 e16 e18:Int} {e4 e12 e17:Bool} (ha:Ko N []=some [.bool true]) (hN:2097152<N) (hs:m0.size≤1048576):Fp N [.str m0,.int m1,.int m2,.int m3,.int m4,.int m5,.int m6,.int m7,.bool m8,.int m9,.int m10,.int m11,.int m12,.rows m13,.int m14,.int m15,.bool m16,.rows (AL m17),.int m18,.int m19,.int m20,.int m21,.int m22,.int e0,.int e1,.int e2,.int e3,.bool e4,.int e5,.int e6,.int e7,.int e8,.int e9,.int e10,.int e11,.bool e12,.int e13,.int e14,.int e15,.int e16,.bool e17,.int e18]=some [.bool true]:=by
 show FR (std (A0 N) N) (xOf _)=_
 have nn:(iH (⟨⟨m0,m1,m2,m3,m4,m5,m6,m7,m8,m9,m10,m11,m12,m13⟩,m14,m15,m16,m17,m18,m19,m20,m21,m22⟩:Mat)).rules.name.size≤1048576:=nM (⟨⟨m0,m1,m2,m3,m4,m5,m6,m7,m8,m9,m10,m11,m12,m13⟩,m14,m15,m16,m17,m18,m19,m20,m21,m22⟩:Mat).rules hs
 have pp:(iH (⟨⟨m0,m1,m2,m3,m4,m5,m6,m7,m8,m9,m10,m11,m12,m13⟩,m14,m15,m16,m17,m18,m19,m20,m21,m22⟩:Mat)).rules.power.length≤1048576:=kg (⟨⟨m0,m1,m2,m3,m4,m5,m6,m7,m8,m9,m10,m11,m12,m13⟩,m14,m15,m16,m17,m18,m19,m20,m21,m22⟩:Mat).rules
 have ok:=uQ (m:=(⟨⟨m0,m1,m2,m3,m4,m5,m6,m7,m8,m9,m10,m11,m12,m13⟩,m14,m15,m16,m17,m18,m19,m20,m21,m22⟩:Mat))
 have hl:=Nat.le_trans ok.len (show 5≤1000000 by omega)
 have nl:(bP (iH (⟨⟨m0,m1,m2,m3,m4,m5,m6,m7,m8,m9,m10,m11,m12,m13⟩,m14,m15,m16,m17,m18,m19,m20,m21,m22⟩:Mat))).length≤1048576:=by
  rw [← mS]
  have:=C6 (f:=KC (iH (⟨⟨m0,m1,m2,m3,m4,m5,m6,m7,m8,m9,m10,m11,m12,m13⟩,m14,m15,m16,m17,m18,m19,m20,m21,m22⟩:Mat))) (lo:=1) (n:=16) (jh _) (Nat.le_refl _)
  omega
 simp only [FR,Ro,Ti,Q5,Ri,Tt,KS,TW,std,xOf,PXb,PXc,PXn,PXm,Nat.reduceAdd,Int.reduceBEq,ha,rC hN,PXk,U9 hN ok.fit hl nn pp,jo hN ok.fit hl nn pp,So hN ok.fit hl nn pp,pb hN ok.fit hl nn pp,u6,X8 hN nl,beq_self_eq_true]
end Go.Px
end
