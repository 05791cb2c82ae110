/- Part 14. -/
import Derived.Test.YteolngdncakekaaGreatPart13
import Derived.KernelRfl
set_option linter.unusedVariables false
set_option linter.unusedSimpArgs false
section
namespace Go.Px
set_option maxRecDepth 100000
theorem VG {i:Int} (h0:0≤i) (h:i≤254):IntKind.u8.wrap (i+1)=i+1:=by
 show (i+1) % 256=i+1
 omega
theorem wU (m:Mat) (k:Int):(ZJ m k).length≤2 * (11 * (11 * (2 * (99 * 1)))):=by
 unfold ZJ Pu
 exact A8 (fun s=>A8 (fun p=>A8 (fun o=>kD fun y=>A8 (fun n=>da m k s p o y n) (by cases k==7<;>cases k==13<;>decide)) (by cases uO k<;>decide)) (by cases uP k<;>decide)) (by cases uS k<;>decide)
theorem wH (m:Mat) (k:Int):(kZ m k).length≤3 * (12 * (12 * (2 * (12 * 1)))):=by
 unfold kZ Pu
 exact A8 (fun s=>A8 (fun p=>A8 (fun o=>kD fun y=>A8 (fun n=>da m k s p o y n) (by cases uR k<;>decide)) (by cases uO k<;>decide)) (by cases uP k<;>decide)) (by cases uS k<;>decide)
def DR (m:Mat) (k:Int):Rows:=cond (okK k&&BZ m) (ZJ m k) []
def Dr (m:Mat):Rows:=fm (DR m) 1 16
theorem bF (m:Mat) (k:Int):(DR m k).length≤47916:=by
 unfold DR
 cases okK k&&BZ m
 ·exact Nat.zero_le _
 ·exact wU m k
theorem xG {m:Mat} (h:BZ m=false) (k:Int):oG m k=[]:=by
 unfold oG Pu
 refine CS _ fun s _ _=>CS _ fun p _ _=>CS _ fun o _ _=>Xx fun y=>CS _ fun n _ _=>?_
 unfold A1
 cases hx:(A7 m (evK k s p o y n)).2==0 with
 | false=>rfl
 | true =>
  have:=(Yb hx).1
  rw [h] at this
  cases this
theorem yO {k:Int} (h1:1≤k) (h2:k≤16):okK k = !(k==4||k==15):=by
 have hk:(iLt k 1||iLt 16 k)=false:=by simp only [iLt,Bool.or_eq_false_iff,decide_eq_false_iff_not];omega
 rcases P1 hk with h | h | h | h | h | h | h | h | h | h | h | h | h | h | h | h<;>subst h<;>rfl
theorem xo (m:Mat):Dr m=ic m:=by
 unfold Dr ic
 refine Iu _ fun k k1 k2=>?_
 unfold DR
 rw [yO (by omega) (by omega)]
 cases h:(k==4||k==15) with
 | true=>rfl
 | false =>
  have n15:¬ k=15:=fun e=>by rw [e] at h;cases h
  cases hv:BZ m with
  | true=>exact (t8 m n15).1
  | false=>exact (xG hv k).symm
set_option maxHeartbeats 4000000 in
theorem dA {N:Nat} {m1 m2 m3 m4 m5 m6 m7 m9 m10 m11 m12 m14 m15 m18 m19 m20 m21 m22:Int} {m8 m16:Bool} {m0:ByteArray} {m13:Rows} {m17:List Inn} (hN:2097152<N) (hf:CX m17) (hl:m17.length≤1000000) (hs:m0.size≤1048576) (h13:m13.length≤1048576):DK N [.str m0,.int m1,.int m2,.int m3,.int m4,.int m5,.int m6,.int m7,.bool m8,.int m9,.int m10,.int m11,.int m12,.rows m13,.int m14,.int m15,.bool m16,.rows (AM m17),.int m18,.int m19,.int m20,.int m21,.int m22]=some [.rows (Dr (⟨⟨m0,m1,m2,m3,m4,m5,m6,m7,m8,m9,m10,m11,m12,m13⟩,m14,m15,m16,m17,m18,m19,m20,m21,m22⟩:Mat))]:=by
 show O1 (std (P7 N) N) (xOf _)=_
 simp only [O1,M4,std,xOf,PXb]
 have OF:∀ k:Int,Dl N [.str m0,.int m1,.int m2,.int m3,.int m4,.int m5,.int m6,.int m7,.bool m8,.int m9,.int m10,.int m11,.int m12,.rows m13,.int m14,.int m15,.bool m16,.rows (AM m17),.int m18,.int m19,.int m20,.int m21,.int m22,.int k]=some [.rows (DR (⟨⟨m0,m1,m2,m3,m4,m5,m6,m7,m8,m9,m10,m11,m12,m13⟩,m14,m15,m16,m17,m18,m19,m20,m21,m22⟩:Mat) k)]:=fun k=>iS hN hf hl hs h13
 have b0:∀ i:Nat,i≤16→(fmo [] (DR (⟨⟨m0,m1,m2,m3,m4,m5,m6,m7,m8,m9,m10,m11,m12,m13⟩,m14,m15,m16,m17,m18,m19,m20,m21,m22⟩:Mat)) 1 i).length≤([]:Rows).length+16 * 47916:=fun i hi=>Bc (bF (⟨⟨m0,m1,m2,m3,m4,m5,m6,m7,m8,m9,m10,m11,m12,m13⟩,m14,m15,m16,m17,m18,m19,m20,m21,m22⟩:Mat)) hi
 have e:=Pi (DR (⟨⟨m0,m1,m2,m3,m4,m5,m6,m7,m8,m9,m10,m11,m12,m13⟩,m14,m15,m16,m17,m18,m19,m20,m21,m22⟩:Mat)) 1 16
 unfold Dr
 rw [← e]
 refine AH (Al (len:=16) (fun i=>[.rows (fmo [] (DR (⟨⟨m0,m1,m2,m3,m4,m5,m6,m7,m8,m9,m10,m11,m12,m13⟩,m14,m15,m16,m17,m18,m19,m20,m21,m22⟩:Mat)) 1 i),.int (1+(i:Int))]) [.rows (fmo [] (DR (⟨⟨m0,m1,m2,m3,m4,m5,m6,m7,m8,m9,m10,m11,m12,m13⟩,m14,m15,m16,m17,m18,m19,m20,m21,m22⟩:Mat)) 1 16)] ?_ ?_ N (by omega)) ?_
 ·intro self
  rfl
 ·intro i self hi
  have l:iLe (1+(i:Int)) 16=true:=by simp only [iLe,decide_eq_true_eq];omega
  have w:IntKind.u8.wrap (1+(i:Int)+1)=1+((i+1:Nat):Int):=by rw [VG (by omega) (by omega)];omega
  have b1:=b0 i (by omega)
  have b2:=bF (⟨⟨m0,m1,m2,m3,m4,m5,m6,m7,m8,m9,m10,m11,m12,m13⟩,m14,m15,m16,m17,m18,m19,m20,m21,m22⟩:Mat) (1+(i:Int))
  rw [BE]
  generalize fmo [] (DR (⟨⟨m0,m1,m2,m3,m4,m5,m6,m7,m8,m9,m10,m11,m12,m13⟩,m14,m15,m16,m17,m18,m19,m20,m21,m22⟩:Mat)) 1 i=out at *
  have sm:iSm ((out.length+(DR (⟨⟨m0,m1,m2,m3,m4,m5,m6,m7,m8,m9,m10,m11,m12,m13⟩,m14,m15,m16,m17,m18,m19,m20,m21,m22⟩:Mat) (1+(i:Int))).length:Nat):Int) 136=true:=DM (by simp only [List.length_nil] at b1;omega) (by omega)
  simp only [PXb,PXc,PXn,AB,l,w,M4,OF,List.length_append,sm]
 ·rfl
theorem sI {N:Nat} {b:Bool} {n:Int}  : Nv N [.bool b,.int n]=some [.int (cond b n 0)]:=by
 show Sz (std (cm N) N) (xOf _)=_
 simp only [Sz,std,xOf,PXb,PXc,PXn,PXm,Nat.reduceAdd,Int.reduceBEq]
theorem uF {N:Nat} {b:Bool}  : RH N [.bool b]=some [.int (cond b 1 0)]:=by
 show U9 (std (eM N) N) (xOf _)=_
 simp only [U9,std,xOf,PXb,PXc,PXn,PXm,Nat.reduceAdd,Int.reduceBEq]
theorem yfm (b:Bool) (f:Bool→Rows):fm (fun y=>f (y==1)) 0 (cond b 2 1)=yF b f:=by
 cases b with
 | false =>
  show []++f (0+((0:Nat):Int)==1)=f false++[]
  rw [List.nil_append,List.append_nil]
  rfl
 | true =>
  show ([]++f (0+((0:Nat):Int)==1))++f (0+((1:Nat):Int)==1)=f false++f true
  rw [List.nil_append]
  rfl
theorem Yg {i n:Nat} (h:i<n):iLe (i:Int) ((n:Int) - 1)=true:=by simp only [iLe,decide_eq_true_eq];omega
theorem To (n:Nat):iLe (n:Int) ((n:Int) - 1)=false:=by simp only [iLe,decide_eq_false_iff_not];omega
def Ls (m:Mat) (k:Int):Rows:=cond (k==4||k==15) [] (kZ m k)
theorem vU (m:Mat) (k:Int):(Ls m k).length≤10368:=by
 unfold Ls
 cases k==4||k==15
 ·exact wH m k
 ·exact Nat.zero_le _
theorem wS (m:Mat):fm (Ls m) 1 16=ic m:=by
 unfold ic
 refine Iu _ fun k k1 k2=>?_
 unfold Ls
 cases h:(k==4||k==15) with
 | true=>rw [cond_true,cond_true]
 | false =>
  have n15:¬ k=15:=fun e=>by rw [e] at h;cases h
  have ob:=(t8 m n15).2
  rw [cond_false,cond_false,ob]
set_option maxHeartbeats 8000000 in
theorem sG {N:Nat} {m1 m2 m3 m4 m5 m6 m7 m9 m10 m11 m12 m14 m15 m18 m19 m20 m21 m22:Int} {m8 m16:Bool} {m0:ByteArray} {m13:Rows} {m17:List Inn} (hN:2097152<N) (hf:CX m17) (hl:m17.length≤1000000) (hs:m0.size≤1048576) (h13:m13.length≤1048576):KP N [.str m0,.int m1,.int m2,.int m3,.int m4,.int m5,.int m6,.int m7,.bool m8,.int m9,.int m10,.int m11,.int m12,.rows m13,.int m14,.int m15,.bool m16,.rows (AM m17),.int m18,.int m19,.int m20,.int m21,.int m22]=some [.rows (ic (⟨⟨m0,m1,m2,m3,m4,m5,m6,m7,m8,m9,m10,m11,m12,m13⟩,m14,m15,m16,m17,m18,m19,m20,m21,m22⟩:Mat))]:=by
 show S8 (std (HR N) N) (xOf _)=_
 simp only [S8,Ro,NJ,PX,RY,std,xOf,PXb]
 rw [← wS,← Pi]
 have b0:∀ i:Nat,i≤16→(fmo [] (Ls (⟨⟨m0,m1,m2,m3,m4,m5,m6,m7,m8,m9,m10,m11,m12,m13⟩,m14,m15,m16,m17,m18,m19,m20,m21,m22⟩:Mat)) 1 i).length≤([]:Rows).length+16 * 10368:=fun i hi=>Bc (vU (⟨⟨m0,m1,m2,m3,m4,m5,m6,m7,m8,m9,m10,m11,m12,m13⟩,m14,m15,m16,m17,m18,m19,m20,m21,m22⟩:Mat)) hi
 refine AH (Al (len:=16) (fun i=>[.rows (fmo [] (Ls (⟨⟨m0,m1,m2,m3,m4,m5,m6,m7,m8,m9,m10,m11,m12,m13⟩,m14,m15,m16,m17,m18,m19,m20,m21,m22⟩:Mat)) 1 i),.int (1+(i:Int))]) [.rows (fmo [] (Ls (⟨⟨m0,m1,m2,m3,m4,m5,m6,m7,m8,m9,m10,m11,m12,m13⟩,m14,m15,m16,m17,m18,m19,m20,m21,m22⟩:Mat)) 1 16)] ?_ ?_ N (by omega)) ?_
 ·intro self
  rfl
 ·intro i self hi
  have l:iLe (1+(i:Int)) 16=true:=by simp only [iLe,decide_eq_true_eq];omega
  have w:IntKind.u8.wrap (1+(i:Int)+1)=1+((i+1:Nat):Int):=by rw [VG (by omega) (by omega)];omega
  have bb:=b0 i (by omega)
  rw [List.length_nil,Nat.zero_add] at bb
  rw [BE]
  generalize fmo [] (Ls (⟨⟨m0,m1,m2,m3,m4,m5,m6,m7,m8,m9,m10,m11,m12,m13⟩,m14,m15,m16,m17,m18,m19,m20,m21,m22⟩:Mat)) 1 i=out0 at *
  generalize (((i+1:Nat):Int))=i1 at *
  generalize (1+(i:Int))=k at *
  cases hk:(k==4||k==15) with
  | true =>
   have:Ls (⟨⟨m0,m1,m2,m3,m4,m5,m6,m7,m8,m9,m10,m11,m12,m13⟩,m14,m15,m16,m17,m18,m19,m20,m21,m22⟩:Mat) k=[]:=by unfold Ls;rw [hk];rfl
   rw [this,List.append_nil]
   simp only [PXb,PXc,PXn,AB,l,w,hk]
  | false =>
   have e0:Ls (⟨⟨m0,m1,m2,m3,m4,m5,m6,m7,m8,m9,m10,m11,m12,m13⟩,m14,m15,m16,m17,m18,m19,m20,m21,m22⟩:Mat) k=kZ (⟨⟨m0,m1,m2,m3,m4,m5,m6,m7,m8,m9,m10,m11,m12,m13⟩,m14,m15,m16,m17,m18,m19,m20,m21,m22⟩:Mat) k:=by unfold Ls;rw [hk];rfl
   rw [e0]
   unfold kZ Pu
   have eS:(cond (uS k) 2 0:Int)=((cond (uS k) 3 1:Nat):Int) - 1:=by cases uS k<;>rfl
   have eP:(cond (uP k) 11 0:Int)=((cond (uP k) 12 1:Nat):Int) - 1:=by cases uP k<;>rfl
   have eO:(cond (uO k) 11 0:Int)=((cond (uO k) 12 1:Nat):Int) - 1:=by cases uO k<;>rfl
   have eY:(cond (uY k) 1 0:Int)=((cond (uY k) 2 1:Nat):Int) - 1:=by cases uY k<;>rfl
   have eR:(cond (uR k) 11 0:Int)=((cond (uR k) 12 1:Nat):Int) - 1:=by cases uR k<;>rfl
   have c1:(cond (uS k) 3 1:Nat)≤3:=by cases uS k<;>decide
   have c2:(cond (uP k) 12 1:Nat)≤12:=by cases uP k<;>decide
   have c3:(cond (uO k) 12 1:Nat)≤12:=by cases uO k<;>decide
   have c4:(cond (uR k) 12 1:Nat)≤12:=by cases uR k<;>decide
   have c5:(cond (uY k) 2 1:Nat)≤2:=by cases uY k<;>decide
   have yf:∀ f:Bool→Rows,yF (uY k) f=fm (fun y=>f (y==1)) 0 (cond (uY k) 2 1):=fun f=>(yfm _ _).symm
   simp only [PXb,PXc,PXn,AB,l,w,hk,bc,sI,uF,PX,RY,NJ,eS,eP,eO,eY,eR,yf]
   generalize (cond (uS k) 3 1:Nat)=sn at *
   generalize (cond (uP k) 12 1:Nat)=pn at *
   generalize (cond (uO k) 12 1:Nat)=on at *
   generalize (cond (uR k) 12 1:Nat)=rn at *
   generalize (cond (uY k) 2 1:Nat)=yn at *
   have WHY:∀ s p o:Int,∀ y:Bool,∀ n:Int,CL N [.str m0,.int m1,.int m2,.int m3,.int m4,.int m5,.int m6,.int m7,.bool m8,.int m9,.int m10,.int m11,.int m12,.rows m13,.int m14,.int m15,.bool m16,.rows (AM m17),.int m18,.int m19,.int m20,.int m21,.int m22,.int k,.int s,.int p,.int o,.bool y,.int n,.int 0,.int 0,.int 0,.int 0,.int 0,.int 0,.bool false,.int 0,.int 0,.int 0,.int 0,.bool false,.int 0]=some [.int (A7 (⟨⟨m0,m1,m2,m3,m4,m5,m6,m7,m8,m9,m10,m11,m12,m13⟩,m14,m15,m16,m17,m18,m19,m20,m21,m22⟩:Mat) (evK k s p o y n)).2]:=fun s p o y n=>cU hN hf hl hs h13
   have ONE:∀ s p o:Int,∀ y:Bool,∀ n:Int,A1 (⟨⟨m0,m1,m2,m3,m4,m5,m6,m7,m8,m9,m10,m11,m12,m13⟩,m14,m15,m16,m17,m18,m19,m20,m21,m22⟩:Mat) k s p o y n=cond ((A7 (⟨⟨m0,m1,m2,m3,m4,m5,m6,m7,m8,m9,m10,m11,m12,m13⟩,m14,m15,m16,m17,m18,m19,m20,m21,m22⟩:Mat) (evK k s p o y n)).2==0) [[.int k,.int s,.int p,.int o,.bool y,.int n,.int 0,.int 0,.int 0,.int 0,.int 0,.int 0,.bool false,.int 0,.int 0,.int 0,.int 0,.bool false,.int 0]] []:=fun s p o y n=>rfl
   have l1:∀ s p o:Int,∀ y:Bool,∀ n:Int,(A1 (⟨⟨m0,m1,m2,m3,m4,m5,m6,m7,m8,m9,m10,m11,m12,m13⟩,m14,m15,m16,m17,m18,m19,m20,m21,m22⟩:Mat) k s p o y n).length≤1:=fun s p o y n=>da _ k s p o y n
   have l2:∀ s p o:Int,∀ y:Bool,(fm (fun n=>A1 (⟨⟨m0,m1,m2,m3,m4,m5,m6,m7,m8,m9,m10,m11,m12,m13⟩,m14,m15,m16,m17,m18,m19,m20,m21,m22⟩:Mat) k s p o y n) 0 rn).length≤12 * 1:=fun s p o y=>A8 (l1 s p o y) c4
   have l3:∀ s p o:Int,(fm (fun y=>fm (fun n=>A1 (⟨⟨m0,m1,m2,m3,m4,m5,m6,m7,m8,m9,m10,m11,m12,m13⟩,m14,m15,m16,m17,m18,m19,m20,m21,m22⟩:Mat) k s p o (y==1) n) 0 rn) 0 yn).length≤2 * (12 * 1):=fun s p o=>A8 (fun y=>l2 s p o (y==1)) c5
   have l4:∀ s p:Int,(fm (fun o=>fm (fun y=>fm (fun n=>A1 (⟨⟨m0,m1,m2,m3,m4,m5,m6,m7,m8,m9,m10,m11,m12,m13⟩,m14,m15,m16,m17,m18,m19,m20,m21,m22⟩:Mat) k s p o (y==1) n) 0 rn) 0 yn) 0 on).length≤12 * (2 * (12 * 1)):=fun s p=>A8 (l3 s p) c3
   have l5:∀ s:Int,(fm (fun p=>fm (fun o=>fm (fun y=>fm (fun n=>A1 (⟨⟨m0,m1,m2,m3,m4,m5,m6,m7,m8,m9,m10,m11,m12,m13⟩,m14,m15,m16,m17,m18,m19,m20,m21,m22⟩:Mat) k s p o (y==1) n) 0 rn) 0 yn) 0 on) 0 pn).length≤12 * (12 * (2 * (12 * 1))):=fun s=>A8 (l4 s) c2
   have z0:∀ a:Nat,(0:Int)+(a:Int)=(a:Int):=fun a=>Int.zero_add _
   refine AH (Al (len:=sn) (fun i=>[.rows (fmo out0 (fun s=>fm (fun p=>fm (fun o=>fm (fun y=>fm (fun n=>A1 (⟨⟨m0,m1,m2,m3,m4,m5,m6,m7,m8,m9,m10,m11,m12,m13⟩,m14,m15,m16,m17,m18,m19,m20,m21,m22⟩:Mat) k s p o (y==1) n) 0 rn) 0 yn) 0 on) 0 pn) 0 i),.int (i:Int)]) [.rows (fmo out0 (fun s=>fm (fun p=>fm (fun o=>fm (fun y=>fm (fun n=>A1 (⟨⟨m0,m1,m2,m3,m4,m5,m6,m7,m8,m9,m10,m11,m12,m13⟩,m14,m15,m16,m17,m18,m19,m20,m21,m22⟩:Mat) k s p o (y==1) n) 0 rn) 0 yn) 0 on) 0 pn) 0 sn),.int (sn:Int)] ?_ ?_ N (by omega)) ?_
   ·intro self
    simp only [PXb,PXc,PXn,AB,To]
   ·intro a self ha
    have b1:=Bc (out:=out0) (lo:=0) (n:=a) l5 (k:=3) (by omega)
    rw [BE,z0]
    generalize fmo out0 (fun s=>fm (fun p=>fm (fun o=>fm (fun y=>fm (fun n=>A1 (⟨⟨m0,m1,m2,m3,m4,m5,m6,m7,m8,m9,m10,m11,m12,m13⟩,m14,m15,m16,m17,m18,m19,m20,m21,m22⟩:Mat) k s p o (y==1) n) 0 rn) 0 yn) 0 on) 0 pn) 0 a=out1 at *
    rw [← Cs]
    simp only [PXb,PXc,PXn,AB,Yg ha,Bz (show a≤1099511627776 by omega)]
    generalize (a:Int)=s at *
    refine AH (Al (len:=pn) (fun i=>[.rows (fmo out1 (fun p=>fm (fun o=>fm (fun y=>fm (fun n=>A1 (⟨⟨m0,m1,m2,m3,m4,m5,m6,m7,m8,m9,m10,m11,m12,m13⟩,m14,m15,m16,m17,m18,m19,m20,m21,m22⟩:Mat) k s p o (y==1) n) 0 rn) 0 yn) 0 on) 0 i),.int (i:Int)]) [.rows (fmo out1 (fun p=>fm (fun o=>fm (fun y=>fm (fun n=>A1 (⟨⟨m0,m1,m2,m3,m4,m5,m6,m7,m8,m9,m10,m11,m12,m13⟩,m14,m15,m16,m17,m18,m19,m20,m21,m22⟩:Mat) k s p o (y==1) n) 0 rn) 0 yn) 0 on) 0 pn),.int (pn:Int)] ?_ ?_ N (by omega)) ?_
    ·intro self
     simp only [PXb,PXc,PXn,AB,To]
    ·intro a self ha
     have b2:=Bc (out:=out1) (lo:=0) (n:=a) (l4 s) (k:=12) (by omega)
     rw [BE,z0]
     generalize fmo out1 (fun p=>fm (fun o=>fm (fun y=>fm (fun n=>A1 (⟨⟨m0,m1,m2,m3,m4,m5,m6,m7,m8,m9,m10,m11,m12,m13⟩,m14,m15,m16,m17,m18,m19,m20,m21,m22⟩:Mat) k s p o (y==1) n) 0 rn) 0 yn) 0 on) 0 a=out2 at *
     rw [← Cs]
     simp only [PXb,PXc,PXn,AB,Yg ha,Bz (show a≤1099511627776 by omega)]
     generalize (a:Int)=p at *
     refine AH (Al (len:=on) (fun i=>[.rows (fmo out2 (fun o=>fm (fun y=>fm (fun n=>A1 (⟨⟨m0,m1,m2,m3,m4,m5,m6,m7,m8,m9,m10,m11,m12,m13⟩,m14,m15,m16,m17,m18,m19,m20,m21,m22⟩:Mat) k s p o (y==1) n) 0 rn) 0 yn) 0 i),.int (i:Int)]) [.rows (fmo out2 (fun o=>fm (fun y=>fm (fun n=>A1 (⟨⟨m0,m1,m2,m3,m4,m5,m6,m7,m8,m9,m10,m11,m12,m13⟩,m14,m15,m16,m17,m18,m19,m20,m21,m22⟩:Mat) k s p o (y==1) n) 0 rn) 0 yn) 0 on),.int (on:Int)] ?_ ?_ N (by omega)) ?_
     ·intro self
      simp only [PXb,PXc,PXn,AB,To]
     ·intro a self ha
      have b3:=Bc (out:=out2) (lo:=0) (n:=a) (l3 s p) (k:=12) (by omega)
      rw [BE,z0]
      generalize fmo out2 (fun o=>fm (fun y=>fm (fun n=>A1 (⟨⟨m0,m1,m2,m3,m4,m5,m6,m7,m8,m9,m10,m11,m12,m13⟩,m14,m15,m16,m17,m18,m19,m20,m21,m22⟩:Mat) k s p o (y==1) n) 0 rn) 0 yn) 0 a=out3 at *
      rw [← Cs]
      simp only [PXb,PXc,PXn,AB,Yg ha,Bz (show a≤1099511627776 by omega)]
      generalize (a:Int)=o at *
      refine AH (Al (len:=yn) (fun i=>[.rows (fmo out3 (fun y=>fm (fun n=>A1 (⟨⟨m0,m1,m2,m3,m4,m5,m6,m7,m8,m9,m10,m11,m12,m13⟩,m14,m15,m16,m17,m18,m19,m20,m21,m22⟩:Mat) k s p o (y==1) n) 0 rn) 0 i),.int (i:Int)]) [.rows (fmo out3 (fun y=>fm (fun n=>A1 (⟨⟨m0,m1,m2,m3,m4,m5,m6,m7,m8,m9,m10,m11,m12,m13⟩,m14,m15,m16,m17,m18,m19,m20,m21,m22⟩:Mat) k s p o (y==1) n) 0 rn) 0 yn),.int (yn:Int)] ?_ ?_ N (by omega)) ?_
      ·intro self
       simp only [PXb,PXc,PXn,AB,To]
      ·intro a self ha
       have b4:=Bc (out:=out3) (f:=fun y=>fm (fun n=>A1 (⟨⟨m0,m1,m2,m3,m4,m5,m6,m7,m8,m9,m10,m11,m12,m13⟩,m14,m15,m16,m17,m18,m19,m20,m21,m22⟩:Mat) k s p o (y==1) n) 0 rn) (lo:=0) (n:=a) (fun y=>l2 s p o (y==1)) (k:=2) (by omega)
       rw [BE,z0]
       generalize fmo out3 (fun y=>fm (fun n=>A1 (⟨⟨m0,m1,m2,m3,m4,m5,m6,m7,m8,m9,m10,m11,m12,m13⟩,m14,m15,m16,m17,m18,m19,m20,m21,m22⟩:Mat) k s p o (y==1) n) 0 rn) 0 a=out4 at *
       rw [← Cs]
       simp only [PXb,PXc,PXn,AB,Yg ha,Bz (show a≤1099511627776 by omega)]
       generalize ((a:Int)==1)=y at *
       refine AH (Al (len:=rn) (fun i=>[.rows (fmo out4 (fun n=>A1 (⟨⟨m0,m1,m2,m3,m4,m5,m6,m7,m8,m9,m10,m11,m12,m13⟩,m14,m15,m16,m17,m18,m19,m20,m21,m22⟩:Mat) k s p o y n) 0 i),.int (i:Int)]) [.rows (fmo out4 (fun n=>A1 (⟨⟨m0,m1,m2,m3,m4,m5,m6,m7,m8,m9,m10,m11,m12,m13⟩,m14,m15,m16,m17,m18,m19,m20,m21,m22⟩:Mat) k s p o y n) 0 rn),.int (rn:Int)] ?_ ?_ N (by omega)) ?_
       ·intro self
        simp only [PXb,PXc,PXn,AB,To]
       ·intro a self ha
        have b5:=Bc (out:=out4) (f:=fun n=>A1 (⟨⟨m0,m1,m2,m3,m4,m5,m6,m7,m8,m9,m10,m11,m12,m13⟩,m14,m15,m16,m17,m18,m19,m20,m21,m22⟩:Mat) k s p o y n) (lo:=0) (n:=a) (l1 s p o y) (k:=12) (by omega)
        rw [BE,z0]
        generalize fmo out4 (fun n=>A1 (⟨⟨m0,m1,m2,m3,m4,m5,m6,m7,m8,m9,m10,m11,m12,m13⟩,m14,m15,m16,m17,m18,m19,m20,m21,m22⟩:Mat) k s p o y n) 0 a=out5 at *
        have sm:iSm ((out5.length+1:Nat):Int) 136=true:=DM (by omega) (by omega)
        simp only [PXb,PXc,PXn,AB,Yg ha,Bz (show a≤1099511627776 by omega),Ro,WHY,ONE,List.length_append,List.length_cons,List.length_nil,Nat.zero_add,sm]
        cases (A7 (⟨⟨m0,m1,m2,m3,m4,m5,m6,m7,m8,m9,m10,m11,m12,m13⟩,m14,m15,m16,m17,m18,m19,m20,m21,m22⟩:Mat) (evK k s p o y (a:Int))).2==0 with
        | false=>rw [cond_false,cond_false,List.append_nil]
        | true=>rfl
       ·simp only [PXb,PXc,PXn,AB]
      ·simp only [PXb,PXc,PXn,AB]
     ·simp only [PXb,PXc,PXn,AB]
    ·simp only [PXb,PXc,PXn,AB]
   ·simp only [PXb,PXc,PXn,AB]
    rw [Cs]
 ·rfl
end Go.Px
end
section
namespace Go.Px
set_option maxRecDepth 100000
theorem vO {N:Nat} (l:Int):TA N [.int l]=B2 N [.int l]:=rfl
theorem vI {N:Nat} (l:Int):B2 N [.int l]=B2 0 [.int l]:=rfl
def rz (l:Int):ByteArray:=match B2 0 [.int l] with
 | some [.str s]=>s
 | _=>ByteArray.empty
theorem cg {N:Nat} (l:Int):B2 N [.int l]=some [.str (rz l)]:=by
 rw [vI]
 have:∃ s,B2 0 [.int l]=some [.str s]:=by
  show ∃ s,O7 (std (X9 0) 0) (xOf _)=some [.str s]
  simp only [O7,std,xOf,PXb,PXc,PXn,PXm,Nat.reduceAdd,Int.reduceBEq]
  cases h:(iLt l 0||iLe ((27:Nat):Int) l) with
  | true=>exact ⟨_,by simp only [List.length_cons,List.length_nil,Nat.reduceAdd,h,cond_true];rfl⟩
  | false =>
   have hi:iIn l ((27:Nat):Int)=true:=by
    simp only [iLt,iLe,Bool.or_eq_false_iff,decide_eq_false_iff_not] at h
    simp only [iIn,decide_eq_true_eq]
    omega
   exact ⟨_,by simp only [List.length_cons,List.length_nil,Nat.reduceAdd,h,cond_false,hi,cond_true];rfl⟩
 obtain ⟨s,hs⟩:=this
 unfold rz
 rw [hs]
def kS:Rul:=⟨⟨#[84,87,79]⟩,2,1,1,4,0,1,1,false,0,0,0,0,[]⟩
def go:Mat:=⟨kS,1,0,false,[],0,0,0,0,0⟩
def fh:Mat:=⟨kS,2,1,false,[],0,0,0,0,0⟩
def evN (k s p o:Int) (y:Bool):List PV:=[.int k,.int s,.int p,.int o,.bool y,.int 0,.int 0,.int 0,.int 0,.int 0,.int 0,.int 0,.bool false,.int 0,.int 0,.int 0,.int 0,.bool false,.int 0]
theorem y5:oa kS=(go,0):=by kernel_rfl
theorem yg:Dr go=[evN 1 1 0 0 false,evN 1 1 0 0 true,evN 1 2 0 0 false,evN 1 2 0 0 true,evN 16 0 0 0 false]:=by kernel_rfl
theorem yP:A7 go (evK 1 1 0 0 true 0)=(fh,0):=by kernel_rfl
theorem xS:Dr fh=[evN 2 0 1 2 false,evN 2 0 2 1 false,evN 16 0 0 0 false]:=by kernel_rfl
theorem yw:(A7 fh (evK 1 1 0 0 true 0)).2=1:=by kernel_rfl
theorem yG {N:Nat}:Q9 N []=some [.str ⟨#[84,87,79]⟩,.int 2,.int 1,.int 1,.int 4,.int 0,.int 1,.int 1,.bool false,.int 0,.int 0,.int 0,.int 0,.rows []]:=rfl
theorem yE:rz 1=⟨#[80,72,65,83,69]⟩:=by kernel_rfl
set_option maxHeartbeats 1000000 in
theorem qh:LU 4194304 []=some [.bool true]:=by
 have hN:2097152<4194304:=by omega
 have hs:kS.name.size≤1048576:=by decide
 have hf:CX ([]:List Inn):=fun i hi=>absurd hi (Nat.not_lt_zero _)
 have k1:GY 4194304 kS.ls=some (Ma (oa kS)):=qy hN hs (Nat.zero_le _)
 have k2:DK 4194304 go.ls=some [.rows (Dr go)]:=dA hN hf (Nat.zero_le _) hs (Nat.zero_le _)
 have k3:Cv 4194304 (go.ls++evN 1 1 0 0 true)=some (Ma (A7 go (evK 1 1 0 0 true 0))):=dE hN hf (Nat.zero_le _) hs (Nat.zero_le _)
 have k4:DK 4194304 fh.ls=some [.rows (Dr fh)]:=dA hN hf (Nat.zero_le _) hs (Nat.zero_le _)
 have k5:BX 4194304 (fh.ls++evN 1 1 0 0 true)=some [.int (A7 fh (evK 1 1 0 0 true 0)).2]:=Qp hN hf (Nat.zero_le _) hs (Nat.zero_le _)
 have k6:=cg (N:=4194304) 1
 rw [y5] at k1
 rw [yg] at k2
 rw [yP] at k3
 rw [xS] at k4
 rw [yw] at k5
 rw [yE] at k6
 obtain ⟨R,hR⟩:∃ R:Rows,R=[evN 1 1 0 0 false,evN 1 1 0 0 true,evN 1 2 0 0 false,evN 1 2 0 0 true,evN 16 0 0 0 false]:=⟨_,rfl⟩
 obtain ⟨Q,hQ⟩:∃ Q:Rows,Q=[evN 2 0 1 2 false,evN 2 0 2 1 false,evN 16 0 0 0 false]:=⟨_,rfl⟩
 rw [← hR] at k2
 rw [← hQ] at k4
 have lR:R.length=5:=by rw [hR];rfl
 have lQ:Q.length=3:=by rw [hQ];rfl
 have f0_0:pvI (AE R 0 0)=1:=by rw [hR];rfl
 have f0_1:pvI (AE R 0 1)=1:=by rw [hR];rfl
 have f0_2:pvI (AE R 0 2)=0:=by rw [hR];rfl
 have f0_3:pvI (AE R 0 3)=0:=by rw [hR];rfl
 have f0_4:pvB (AE R 0 4)=false:=by rw [hR];rfl
 have f0_5:pvI (AE R 0 5)=0:=by rw [hR];rfl
 have f0_6:pvI (AE R 0 6)=0:=by rw [hR];rfl
 have f0_7:pvI (AE R 0 7)=0:=by rw [hR];rfl
 have f0_8:pvI (AE R 0 8)=0:=by rw [hR];rfl
 have f0_9:pvI (AE R 0 9)=0:=by rw [hR];rfl
 have f0_10:pvI (AE R 0 10)=0:=by rw [hR];rfl
 have f0_11:pvI (AE R 0 11)=0:=by rw [hR];rfl
 have f0_12:pvB (AE R 0 12)=false:=by rw [hR];rfl
 have f0_13:pvI (AE R 0 13)=0:=by rw [hR];rfl
 have f0_14:pvI (AE R 0 14)=0:=by rw [hR];rfl
 have f0_15:pvI (AE R 0 15)=0:=by rw [hR];rfl
 have f0_16:pvI (AE R 0 16)=0:=by rw [hR];rfl
 have f0_17:pvB (AE R 0 17)=false:=by rw [hR];rfl
 have f0_18:pvI (AE R 0 18)=0:=by rw [hR];rfl
 have f1_0:pvI (AE R 1 0)=1:=by rw [hR];rfl
 have f1_1:pvI (AE R 1 1)=1:=by rw [hR];rfl
 have f1_2:pvI (AE R 1 2)=0:=by rw [hR];rfl
 have f1_3:pvI (AE R 1 3)=0:=by rw [hR];rfl
 have f1_4:pvB (AE R 1 4)=true:=by rw [hR];rfl
 have f1_5:pvI (AE R 1 5)=0:=by rw [hR];rfl
 have f1_6:pvI (AE R 1 6)=0:=by rw [hR];rfl
 have f1_7:pvI (AE R 1 7)=0:=by rw [hR];rfl
 have f1_8:pvI (AE R 1 8)=0:=by rw [hR];rfl
 have f1_9:pvI (AE R 1 9)=0:=by rw [hR];rfl
 have f1_10:pvI (AE R 1 10)=0:=by rw [hR];rfl
 have f1_11:pvI (AE R 1 11)=0:=by rw [hR];rfl
 have f1_12:pvB (AE R 1 12)=false:=by rw [hR];rfl
 have f1_13:pvI (AE R 1 13)=0:=by rw [hR];rfl
 have f1_14:pvI (AE R 1 14)=0:=by rw [hR];rfl
 have f1_15:pvI (AE R 1 15)=0:=by rw [hR];rfl
 have f1_16:pvI (AE R 1 16)=0:=by rw [hR];rfl
 have f1_17:pvB (AE R 1 17)=false:=by rw [hR];rfl
 have f1_18:pvI (AE R 1 18)=0:=by rw [hR];rfl
 have f4_0:pvI (AE R 4 0)=16:=by rw [hR];rfl
 have f4_1:pvI (AE R 4 1)=0:=by rw [hR];rfl
 have f4_2:pvI (AE R 4 2)=0:=by rw [hR];rfl
 have f4_3:pvI (AE R 4 3)=0:=by rw [hR];rfl
 have f4_4:pvB (AE R 4 4)=false:=by rw [hR];rfl
 have f4_5:pvI (AE R 4 5)=0:=by rw [hR];rfl
 have f4_6:pvI (AE R 4 6)=0:=by rw [hR];rfl
 have f4_7:pvI (AE R 4 7)=0:=by rw [hR];rfl
 have f4_8:pvI (AE R 4 8)=0:=by rw [hR];rfl
 have f4_9:pvI (AE R 4 9)=0:=by rw [hR];rfl
 have f4_10:pvI (AE R 4 10)=0:=by rw [hR];rfl
 have f4_11:pvI (AE R 4 11)=0:=by rw [hR];rfl
 have f4_12:pvB (AE R 4 12)=false:=by rw [hR];rfl
 have f4_13:pvI (AE R 4 13)=0:=by rw [hR];rfl
 have f4_14:pvI (AE R 4 14)=0:=by rw [hR];rfl
 have f4_15:pvI (AE R 4 15)=0:=by rw [hR];rfl
 have f4_16:pvI (AE R 4 16)=0:=by rw [hR];rfl
 have f4_17:pvB (AE R 4 17)=false:=by rw [hR];rfl
 have f4_18:pvI (AE R 4 18)=0:=by rw [hR];rfl
 clear hR hQ
 change GY 4194304 [.str ⟨#[84,87,79]⟩,.int 2,.int 1,.int 1,.int 4,.int 0,.int 1,.int 1,.bool false,.int 0,.int 0,.int 0,.int 0,.rows []]=some [.str ⟨#[84,87,79]⟩,.int 2,.int 1,.int 1,.int 4,.int 0,.int 1,.int 1,.bool false,.int 0,.int 0,.int 0,.int 0,.rows [],.int 1,.int 0,.bool false,.rows [],.int 0,.int 0,.int 0,.int 0,.int 0,.int 0] at k1
 change DK 4194304 [.str ⟨#[84,87,79]⟩,.int 2,.int 1,.int 1,.int 4,.int 0,.int 1,.int 1,.bool false,.int 0,.int 0,.int 0,.int 0,.rows [],.int 1,.int 0,.bool false,.rows [],.int 0,.int 0,.int 0,.int 0,.int 0]=some [.rows R] at k2
 change Cv 4194304 [.str ⟨#[84,87,79]⟩,.int 2,.int 1,.int 1,.int 4,.int 0,.int 1,.int 1,.bool false,.int 0,.int 0,.int 0,.int 0,.rows [],.int 1,.int 0,.bool false,.rows [],.int 0,.int 0,.int 0,.int 0,.int 0,.int 1,.int 1,.int 0,.int 0,.bool true,.int 0,.int 0,.int 0,.int 0,.int 0,.int 0,.int 0,.bool false,.int 0,.int 0,.int 0,.int 0,.bool false,.int 0]=some [.str ⟨#[84,87,79]⟩,.int 2,.int 1,.int 1,.int 4,.int 0,.int 1,.int 1,.bool false,.int 0,.int 0,.int 0,.int 0,.rows [],.int 2,.int 1,.bool false,.rows [],.int 0,.int 0,.int 0,.int 0,.int 0,.int 0] at k3
 change DK 4194304 [.str ⟨#[84,87,79]⟩,.int 2,.int 1,.int 1,.int 4,.int 0,.int 1,.int 1,.bool false,.int 0,.int 0,.int 0,.int 0,.rows [],.int 2,.int 1,.bool false,.rows [],.int 0,.int 0,.int 0,.int 0,.int 0]=some [.rows Q] at k4
 change BX 4194304 [.str ⟨#[84,87,79]⟩,.int 2,.int 1,.int 1,.int 4,.int 0,.int 1,.int 1,.bool false,.int 0,.int 0,.int 0,.int 0,.rows [],.int 2,.int 1,.bool false,.rows [],.int 0,.int 0,.int 0,.int 0,.int 0,.int 1,.int 1,.int 0,.int 0,.bool true,.int 0,.int 0,.int 0,.int 0,.int 0,.int 0,.int 0,.bool false,.int 0,.int 0,.int 0,.int 0,.bool false,.int 0]=some [.int 1] at k5
 have t0:(0:Int).toNat=0:=rfl
 have t1:(1:Int).toNat=1:=rfl
 have t4:(4:Int).toNat=4:=rfl
 have c5:((5:Nat):Int)=5:=rfl
 have c3:((3:Nat):Int)=3:=rfl
 have i0:iIn 0 5=true:=by decide
 have i1:iIn 1 5=true:=by decide
 have i4:iIn 4 5=true:=by decide
 show Qm (std (DU 4194304) 4194304) (xOf [])=_
 simp only [Qm,Wg,WI,Wc,Xi,W6,aM,std,xOf,PXb,PXc,PXn,PXm,Nat.reduceAdd,Int.reduceBEq,yG,k1,k2,lR,lQ,t0,t1,t4,c5,c3,i0,i1,i4,f0_0,f0_1,f0_2,f0_3,f0_4,f0_5,f0_6,f0_7,f0_8,f0_9,f0_10,f0_11,f0_12,f0_13,f0_14,f0_15,f0_16,f0_17,f0_18,f1_0,f1_1,f1_2,f1_3,f1_4,f1_5,f1_6,f1_7,f1_8,f1_9,f1_10,f1_11,f1_12,f1_13,f1_14,f1_15,f1_16,f1_17,f1_18,f4_0,f4_1,f4_2,f4_3,f4_4,f4_5,f4_6,f4_7,f4_8,f4_9,f4_10,f4_11,f4_12,f4_13,f4_14,f4_15,f4_16,f4_17,f4_18,k3,k4,k5,k6,beq_self_eq_true,Int.reduceBEq]
end Go.Px
end
section
namespace Go.Px
set_option maxRecDepth 100000
def evB (d:Del):Ev:=⟨4,0,0,0,false,0,0,d⟩
def Af (t s n b:Int) (x:Bool) (h v f:Int):Del:=⟨t,s,n,0,b,x,h,v,f,0,false,0⟩
def Wb (x:List PV):Del:=⟨pvI (AJ x 0),pvI (AJ x 1),pvI (AJ x 2),pvI (AJ x 3),pvI (AJ x 4),pvB (AJ x 5),pvI (AJ x 6),pvI (AJ x 7),pvI (AJ x 8),pvI (AJ x 9),pvB (AJ x 10),pvI (AJ x 11)⟩
def GW (m:Mat) (d:Del):Bool:=(A7 m (evB d)).2==0
structure AccD (m:Mat) (d:Del):Prop where
 stage:(m.stage==3)=true
 some':((m.inns.length:Int)==0)=false
 valid:BZ m=true
 legal:(Ax d==0)=true
 poss:(BA d (As m).freehit==0)=true
 poss0:(BA d false==0)=true
 type:1≤d.type∧d.type≤3
 source:d.source≤3
 how:d.how≤10
 runs:0≤d.runs∧d.runs≤7
 boundary:d.boundary=0∨d.boundary=4∨d.boundary=6
 victim:0≤d.victim∧d.victim≤2
 fielder:0≤d.fielder∧d.fielder≤11
theorem tw {d:Del} {b:Bool} (h:(BA d b==0)=true):(BA d false==0)=true:=by
 unfold BA at h ⊢
 cases h0:d.how==0 with
 | true=>rw [h0] at h;exact h
 | false =>
  rw [h0] at h
  simp only [cond_false] at h ⊢
  cases ho:onS d.how d.type with
  | false=>rw [ho] at h;cases h
  | true =>
   rw [ho] at h
   cases hb:(b && !ZN d.how) with
   | true=>rw [hb] at h;cases h
   | false =>
    rw [hb] at h
    exact h
theorem jQ {m:Mat} {d:Del} (h:GW m d=true):AccD m d:=by
 obtain ⟨h1,h2,h3,h4,h5⟩:=Yb h
 obtain ⟨g1,g2,g3,g4⟩:=tj h rfl
 obtain ⟨hv,he,hn,hw,hp,hs⟩:=ra g3
 have hpb:Bs m.rules (As m) (evB d)=KW m.rules (As m) d:=rfl
 rw [hpb] at hp
 obtain ⟨q1,q2,q3,q4,q5,q6⟩:=ue (xL hp).1
 have ne:=beq_iff_eq.1 h2
 unfold evS at ne
 have z:(cond (Wl (evB d)) 1 (cond (R9 (evB d)) 2 (Q1 d)):Int)=0:=ne
 have no:Q1 d=0:=by
  cases e1:Wl (evB d) with
  | true=>rw [e1] at z;cases z
  | false =>
   cases e2:R9 (evB d) with
   | true=>rw [e1,e2] at z;cases z
   | false=>rw [e1,e2] at z;exact z
 unfold Q1 at no
 cases k1:(iLt d.type 1||iLt 3 d.type||iLt 3 d.source||iLt 10 d.how) with
 | true=>rw [k1] at no;cases no
 | false =>
  rw [k1] at no
  cases k2:(!btw d.runs 0 7 || !btw d.short 0 d.runs||(!(d.boundary==0) && !(d.boundary==4) && !(d.boundary==6)) || !btw d.victim 0 2 || !btw d.fielder 0 11 || !btw d.second 0 11 || !btw d.sector 0 8) with
  | true=>rw [k2] at no;cases no
  | false =>
   simp only [Bool.or_eq_false_iff,Bool.and_eq_false_iff,Bool.not_eq_false',beq_iff_eq,iLt,iLe,btw,Bool.and_eq_true,decide_eq_true_eq,decide_eq_false_iff_not] at k1 k2
   refine ⟨g1,g2,h1,q4,q5,tw q5,by omega,by omega,by omega,by omega,?_,by omega,by omega⟩
   rcases k2.1.1.1.1.2 with (k | k) | k
   ·exact Or.inl k
   ·exact Or.inr (Or.inl k)
   ·exact Or.inr (Or.inr k)
def Jz (m:Mat) (t s n b:Int) (x:Bool) (h v f:Int):Rows:=cond (GW m (Af t s n b x h v f)) [(Af t s n b x h v f).ls] []
def WT (g:Int→Int→Int→Rows):Rows:=fm (fun h=>fm (fun v=>fm (fun f=>g h v f) 0 12) 0 3) 0 11
def QD (m:Mat) (R:Nat):Rows:=fm (fun t=>fm (fun s=>fm (fun n=>fm (fun b=>yF true fun x=>WT (Jz m t s n b x)) 0 7) 0 R) 0 4) 1 3
def flt (q:List PV→Bool):Rows→Rows
 | []=>[]
 | x::D=>cond (q x) [x] []++flt q D
theorem lK (q:List PV→Bool):∀ A B,flt q (A++B)=flt q A++flt q B
 | [],B=>rfl
 | x::A,B=>by
  show cond (q x) [x] []++flt q (A++B)=cond (q x) [x] []++flt q A++flt q B
  rw [lK q A B,List.append_assoc]
theorem iz (q:List PV→Bool) (f:Int→Rows) (lo:Int):∀ n:Nat,flt q (fm f lo n)=fm (fun i=>flt q (f i)) lo n
 | 0=>rfl
 | n+1=>by rw [HG,HG,lK,iz q f lo n]
theorem t7 {D:Rows} {i:Nat} (h:i<D.length):D.take (i+1)=D.take i++[Ai D i]:=by
 rw [List.take_add_one,List.getElem?_eq_getElem h]
 unfold Ai
 rw [List.getD_eq_getElem?_getD,List.getElem?_eq_getElem h]
 rfl
theorem wA (q:List PV→Bool) {D:Rows} {i:Nat} (h:i<D.length):flt q (D.take (i+1))=flt q (D.take i)++cond (q (Ai D i)) [Ai D i] []:=by
 rw [t7 h,lK]
 show _++(cond (q (Ai D i)) [Ai D i] []++[])=_
 rw [List.append_nil]
def Md (t s n b:Int) (x:Bool) (free:Bool):Rows:=WT fun h v f=>cond (Ax (Af t s n b x h v f)==0&&BA (Af t s n b x h v f) free==0) [(Af t s n b x h v f).ls] []
def vg (m:Mat) (R:Nat):Rows:=fm (fun t=>fm (fun s=>fm (fun n=>(fun g:Int→Rows=>g 0++g 4++g 6) fun b=>yF true fun x=>flt (fun y=>GW m (Wb y)) (Md t s n b x (As m).freehit)) 0 R) 0 4) 1 3
theorem yy {m:Mat} {t s n b:Int} {x:Bool} {h v f:Int}:cond (!(Ax (Af t s n b x h v f)==0) || !(BA (Af t s n b x h v f) false==0)) [] (Jz m t s n b x h v f)=Jz m t s n b x h v f:=by
 unfold Jz
 cases hx:GW m (Af t s n b x h v f) with
 | false=>cases (!(Ax (Af t s n b x h v f)==0) || !(BA (Af t s n b x h v f) false==0))<;>rfl
 | true =>
  have a:=jQ hx
  rw [a.legal,a.poss0]
  rfl
theorem b3 {g:Int→Rows} (hz:∀ b,¬ (b=0∨b=4∨b=6)→g b=[]):fm g 0 7=g 0++g 4++g 6:=by
 show []++g (0+((0:Nat):Int))++g (0+((1:Nat):Int))++g (0+((2:Nat):Int))++g (0+((3:Nat):Int))++g (0+((4:Nat):Int))++g (0+((5:Nat):Int))++g (0+((6:Nat):Int))=_
 rw [hz (0+((1:Nat):Int)) (by omega),hz (0+((2:Nat):Int)) (by omega),hz (0+((3:Nat):Int)) (by omega),hz (0+((5:Nat):Int)) (by omega)]
 simp only [List.append_nil,List.nil_append]
 rfl
theorem rP (q:List PV→Bool) (x:List PV):flt q [x]=cond (q x) [x] []:=List.append_nil _
theorem y7 (m:Mat) (R:Nat):vg m R=QD m R:=by
 unfold vg QD
 refine Iu _ fun t _ _=>Iu _ fun s _ _=>Iu _ fun n _ _=>?_
 have e:∀ b x,flt (fun y=>GW m (Wb y)) (Md t s n b x (As m).freehit)=WT (Jz m t s n b x):=fun b x=>by
  unfold Md WT
  rw [iz]
  refine Iu _ fun h _ _=>?_
  rw [iz]
  refine Iu _ fun v _ _=>?_
  rw [iz]
  refine Iu _ fun f _ _=>?_
  show flt (fun y=>GW m (Wb y)) (cond (Ax (Af t s n b x h v f)==0&&BA (Af t s n b x h v f) (As m).freehit==0) [(Af t s n b x h v f).ls] [])=cond (GW m (Af t s n b x h v f)) [(Af t s n b x h v f).ls] []
  cases hx:GW m (Af t s n b x h v f) with
  | false =>
   cases (Ax (Af t s n b x h v f)==0&&BA (Af t s n b x h v f) (As m).freehit==0) with
   | false=>rfl
   | true =>
    rw [cond_true,rP,show GW m (Wb (Af t s n b x h v f).ls)=GW m (Af t s n b x h v f) from rfl,hx]
  | true =>
   have a:=jQ hx
   rw [a.legal,a.poss,Bool.and_true,cond_true,rP,show GW m (Wb (Af t s n b x h v f).ls)=GW m (Af t s n b x h v f) from rfl,hx]
   rfl
 show yF true (fun x=>flt _ (Md t s n 0 x _))++yF true (fun x=>flt _ (Md t s n 4 x _))++yF true (fun x=>flt _ (Md t s n 6 x _))=_
 simp only [e]
 refine (b3 (g:=fun b=>yF true fun x=>WT (Jz m t s n b x)) fun b hb=>Xx fun x=>?_).symm
 refine CS _ fun h _ _=>CS _ fun v _ _=>CS _ fun f _ _=>?_
 unfold Jz
 cases hx:GW m (Af t s n b x h v f) with
 | false=>rfl
 | true=>exact absurd (jQ hx).boundary hb
end Go.Px
end
section
namespace Go.Px
set_option maxRecDepth 100000
theorem xT {g:Int→Int→Int→Rows} (h:∀ a b c,(g a b c).length≤1):(WT g).length≤11 * (3 * (12 * 1)) :=
 A8 (fun a=>A8 (fun b=>A8 (fun c=>h a b c) (Nat.le_refl 12)) (Nat.le_refl 3)) (Nat.le_refl 11)
theorem nT (t s n b:Int) (x free:Bool) (h v f:Int):(cond (Ax (Af t s n b x h v f)==0&&BA (Af t s n b x h v f) free==0) [(Af t s n b x h v f).ls] ([]:Rows)).length≤1:=by
 cases (Ax (Af t s n b x h v f)==0&&BA (Af t s n b x h v f) free==0)
 ·exact Nat.zero_le _
 ·exact Nat.le_refl _
set_option maxHeartbeats 4000000 in
theorem jW {N:Nat} {t s n b h0 v0 f0:Int} {x free:Bool} (hN:2097152<N):JS N [.int t,.int s,.int n,.int 0,.int b,.bool x,.int h0,.int v0,.int f0,.int 0,.bool false,.int 0,.bool free]=some [.rows (Md t s n b x free)]:=by
 show JV (std (Gl N) N) (xOf _)=_
 have LEG:∀ h v f:Int,BF N [.int t,.int s,.int n,.int 0,.int b,.bool x,.int h,.int v,.int f,.int 0,.bool false,.int 0]=some [.int (Ax (Af t s n b x h v f))]:=fun h v f=>Mq
 have POS:∀ h v f:Int,BJ N [.int t,.int s,.int n,.int 0,.int b,.bool x,.int h,.int v,.int f,.int 0,.bool false,.int 0,.bool free]=some [.int (BA (Af t s n b x h v f) free)]:=fun h v f=>N9 hN
 have DLS:∀ h v f:Int,(Af t s n b x h v f).ls=[.int t,.int s,.int n,.int 0,.int b,.bool x,.int h,.int v,.int f,.int 0,.bool false,.int 0]:=fun h v f=>rfl
 unfold Md WT
 have l1:∀ h v f:Int,(cond (Ax (Af t s n b x h v f)==0&&BA (Af t s n b x h v f) free==0) [(Af t s n b x h v f).ls] ([]:Rows)).length≤1:=nT t s n b x free
 have l2:∀ h v:Int,(fm (fun f=>cond (Ax (Af t s n b x h v f)==0&&BA (Af t s n b x h v f) free==0) [(Af t s n b x h v f).ls] ([]:Rows)) 0 12).length≤12 * 1:=fun h v=>A8 (l1 h v) (Nat.le_refl _)
 have l3:∀ h:Int,(fm (fun v=>fm (fun f=>cond (Ax (Af t s n b x h v f)==0&&BA (Af t s n b x h v f) free==0) [(Af t s n b x h v f).ls] ([]:Rows)) 0 12) 0 3).length≤3 * (12 * 1):=fun h=>A8 (l2 h) (Nat.le_refl _)
 have z0:∀ a:Nat,(0:Int)+(a:Int)=(a:Int):=fun a=>Int.zero_add _
 simp only [JV,GQ,Eg,std,xOf,PXb]
 rw [← Pi]
 refine AH (Al (len:=11) (fun i=>[.rows (fmo [] (fun h=>fm (fun v=>fm (fun f=>cond (Ax (Af t s n b x h v f)==0&&BA (Af t s n b x h v f) free==0) [(Af t s n b x h v f).ls] ([]:Rows)) 0 12) 0 3) 0 i),.int (i:Int)]) [.rows (fmo [] (fun h=>fm (fun v=>fm (fun f=>cond (Ax (Af t s n b x h v f)==0&&BA (Af t s n b x h v f) free==0) [(Af t s n b x h v f).ls] ([]:Rows)) 0 12) 0 3) 0 11)] ?_ ?_ N (by omega)) ?_
 ·intro self
  rfl
 ·intro a self ha
  have b1:=Bc (out:=[]) (lo:=0) (n:=a) l3 (k:=11) (by omega)
  rw [List.length_nil,Nat.zero_add] at b1
  rw [BE,z0]
  generalize fmo [] (fun h=>fm (fun v=>fm (fun f=>cond (Ax (Af t s n b x h v f)==0&&BA (Af t s n b x h v f) free==0) [(Af t s n b x h v f).ls] ([]:Rows)) 0 12) 0 3) 0 a=out1 at *
  rw [← Cs]
  have g1:iLe (a:Int) 10=true:=by simp only [iLe,decide_eq_true_eq];omega
  have w8:IntKind.u8.wrap ((a:Int)+1)=((a+1:Nat):Int):=by rw [VG (by omega) (by omega)];omega
  simp only [PXb,PXc,PXn,AB,g1,w8]
  generalize (a:Int)=h at *
  refine AH (Al (len:=3) (fun i=>[.rows (fmo out1 (fun v=>fm (fun f=>cond (Ax (Af t s n b x h v f)==0&&BA (Af t s n b x h v f) free==0) [(Af t s n b x h v f).ls] ([]:Rows)) 0 12) 0 i),.int (i:Int)]) [.rows (fmo out1 (fun v=>fm (fun f=>cond (Ax (Af t s n b x h v f)==0&&BA (Af t s n b x h v f) free==0) [(Af t s n b x h v f).ls] ([]:Rows)) 0 12) 0 3),.int 3] ?_ ?_ N (by omega)) ?_
  ·intro self
   rfl
  ·intro a self ha
   have b2:=Bc (out:=out1) (lo:=0) (n:=a) (l2 h) (k:=3) (by omega)
   rw [BE,z0]
   generalize fmo out1 (fun v=>fm (fun f=>cond (Ax (Af t s n b x h v f)==0&&BA (Af t s n b x h v f) free==0) [(Af t s n b x h v f).ls] ([]:Rows)) 0 12) 0 a=out2 at *
   rw [← Cs]
   have g2:iLt (a:Int) 3=true:=by simp only [iLt,decide_eq_true_eq];omega
   simp only [PXb,PXc,PXn,AB,g2,Bz (show a≤1099511627776 by omega)]
   generalize (a:Int)=v at *
   refine AH (Al (len:=12) (fun i=>[.rows (fmo out2 (fun f=>cond (Ax (Af t s n b x h v f)==0&&BA (Af t s n b x h v f) free==0) [(Af t s n b x h v f).ls] ([]:Rows)) 0 i),.int (i:Int)]) [.rows (fmo out2 (fun f=>cond (Ax (Af t s n b x h v f)==0&&BA (Af t s n b x h v f) free==0) [(Af t s n b x h v f).ls] ([]:Rows)) 0 12),.int 12] ?_ ?_ N (by omega)) ?_
   ·intro self
    rfl
   ·intro a self ha
    have b3:=Bc (out:=out2) (lo:=0) (n:=a) (l1 h v) (k:=12) (by omega)
    rw [BE,z0]
    generalize fmo out2 (fun f=>cond (Ax (Af t s n b x h v f)==0&&BA (Af t s n b x h v f) free==0) [(Af t s n b x h v f).ls] ([]:Rows)) 0 a=out3 at *
    have g3:iLt (a:Int) 12=true:=by simp only [iLt,decide_eq_true_eq];omega
    have sm:iSm ((out3.length+1:Nat):Int) 80=true:=DM (by omega) (by omega)
    simp only [PXb,PXc,PXn,AB,g3,Bz (show a≤1099511627776 by omega),GQ,Eg,LEG,POS,DLS,List.length_append,List.length_cons,List.length_nil,Nat.zero_add,sm]
    cases Ax (Af t s n b x h v (a:Int))==0 with
    | false=>simp only [Bool.false_and,cond_false,List.append_nil]
    | true =>
     cases hp:BA (Af t s n b x h v (a:Int)) free==0 with
     | false=>simp only [cond_true,hp,Bool.and_false,cond_false,List.append_nil]
     | true=>simp only [cond_true,hp,Bool.and_self]
   ·simp only [PXb,PXc,PXn,AB]
  ·simp only [PXb,PXc,PXn,AB]
 ·rfl
end Go.Px
end
section
namespace Go.Px
set_option maxRecDepth 100000
def wy:List PV:=[.int 0,.int 0,.int 0,.int 0,.int 0,.int 0,.int 0,.int 0,.int 0,.int 0,.int 0,.int 0,.int 0,.int 0,.rows [],.int 0,.rows [],.rows [],.bool false,.rows [],.bool false,.int 0,.int 0,.int 0,.rows [],.int 0,.int 0,.int 0,.bool false]
def nH (s:Inn):List PV:=[.int s.side,.int s.target,.int s.overs,.int s.runs,.int s.wickets,.int s.wides,.int s.noballs,.int s.byes,.int s.legbyes,.int s.pens,.int s.complete,.int s.inover,.int s.striker,.int s.other,.rows s.batters,.int s.bowler,.rows s.bowlers,.rows s.before,.bool s.fresh,.rows s.bowled,.bool s.freehit,.int s.ballage,.int s.keeper,.int s.outside,.rows s.subs,.int s.rev1,.int s.rev2,.int s.ending,.bool true]
theorem Vj {N:Nat} {m1 m2 m3 m4 m5 m6 m7 m9 m10 m11 m12 m14 m15 m18 m19 m20 m21 m22:Int} {m8 m16:Bool} {m0:ByteArray} {m13:Rows} {m17:List Inn} (hl:m17.length≤1000000):DN N [.str m0,.int m1,.int m2,.int m3,.int m4,.int m5,.int m6,.int m7,.bool m8,.int m9,.int m10,.int m11,.int m12,.rows m13,.int m14,.int m15,.bool m16,.rows (AM m17),.int m18,.int m19,.int m20,.int m21,.int m22]=some (cond (!(m14==3)||(m17.length:Int)==0) wy (nH (As (⟨⟨m0,m1,m2,m3,m4,m5,m6,m7,m8,m9,m10,m11,m12,m13⟩,m14,m15,m16,m17,m18,m19,m20,m21,m22⟩:Mat)))):=by
 show F3 (std (Ee N) N) (xOf _)=_
 simp only [F3,std,xOf,PXb,PXi]
 cases h3:m14==3 with
 | false=>rfl
 | true =>
  cases h0:(m17.length:Int)==0 with
  | true=>rfl
  | false =>
   simp only [PXb,PXc,PXn,PXm,Nat.reduceAdd,Int.reduceBEq,PXi,Bool.not_true,Bool.or_self,KV h0 hl,nH,As,lnx]
theorem rb {m:Mat} (h:∀ d,GW m d=false) (R:Nat):QD m R=[]:=by
 unfold QD WT
 refine CS _ fun t _ _=>CS _ fun s _ _=>CS _ fun n _ _=>CS _ fun b _ _=>Xx fun x=>CS _ fun a _ _=>CS _ fun v _ _=>CS _ fun f _ _=>?_
 unfold Jz
 rw [h]
 rfl
theorem kU (q:List PV→Bool):∀ D,(flt q D).length≤D.length
 | []=>Nat.le_refl _
 | x::D=>by
  have:=kU q D
  show (cond (q x) [x] []++flt q D).length≤D.length+1
  rw [List.length_append]
  cases q x
  ·show 0+_≤_
   omega
  ·show 1+_≤_
   omega
theorem xu {t s n b:Int} {x free:Bool} {r:List PV} (h:r∈Md t s n b x free):∃ d:Del,r=d.ls:=by
 unfold Md WT at h
 obtain ⟨a,_,_,h⟩:=LL _ h
 obtain ⟨v,_,_,h⟩:=LL _ h
 obtain ⟨f,_,_,h⟩:=LL _ h
 change r∈cond (Ax (Af t s n b x a v f)==0&&BA (Af t s n b x a v f) free==0) [(Af t s n b x a v f).ls] [] at h
 cases hc:(Ax (Af t s n b x a v f)==0&&BA (Af t s n b x a v f) free==0) with
 | false=>rw [hc] at h;exact absurd h List.not_mem_nil
 | true =>
  rw [hc] at h
  exact ⟨_,List.mem_singleton.1 h⟩
theorem uk {D:Rows} {i:Nat} (h:i<D.length):Ai D i∈D:=by
 unfold Ai
 rw [List.getD_eq_getElem?_getD,List.getElem?_eq_getElem h]
 exact List.getElem_mem h
def b3o (g:Int→Rows) (out:Rows):Nat→Rows
 | 0=>out
 | 1=>out++g 0
 | 2=>out++g 0++g 4
 | _=>out++g 0++g 4++g 6
theorem yN (g:Int→Rows) (out:Rows):b3o g out 3=out++(g 0++g 4++g 6):=by
 show out++g 0++g 4++g 6=_
 simp only [List.append_assoc]
theorem lt3 {i:Nat} (h:i<3):i=0∨i=1∨i=2:=by omega
theorem v5 {N : Nat} {V : Rows} {q : List PV → Bool} {out : Rows} (hN : 2097152 < N) (hV : V.length ≤ 396) (ho : out.length ≤ 1000000) {F : (List AU → Option (List PV)) → List PV → Option (List PV)}
    (h0:∀ o self,F self [.rows o,.int (V.length:Int)]=some [.rows o,.int (V.length:Int)])
    (h1:∀ (i:Nat) o self,i<V.length→o.length≤1000396→F self [.rows o,.int (i:Int)]=self [.rows (o++cond (q (Ai V i)) [Ai V i] []),.int ((i+1:Nat):Int)]):EM F N [.rows out,.int 0]=some [.rows (out++flt q V),.int (V.length:Int)]:=by
  have:=rW (F:=F) (len:=V.length) (fun i=>[.rows (out++flt q (V.take i)),.int (i:Int)]) [.rows (out++flt q V),.int (V.length:Int)] (x:=[.rows out,.int 0]) (by
    show _=[PV.rows (out++[]),_]
    rw [List.append_nil]
    rfl) (fun self=>by
    rw [List.take_length]
    exact h0 _ self) (fun i self hi=>by
    have hl:=kU q (V.take i)
    rw [List.length_take] at hl
    rw [wA q hi,← List.append_assoc]
    exact h1 i _ self hi (by rw [List.length_append];omega)) N (by omega)
  exact this
theorem ng (t s n b:Int) (x free:Bool):(Md t s n b x free).length≤396:=xT (nT t s n b x free)
theorem yQ {g:Int→Rows} {c:Nat} (h:∀ b,(g b).length≤c):(g 0++g 4++g 6).length≤3 * c:=by
 have:=h 0
 have:=h 4
 have:=h 6
 rw [List.length_append,List.length_append]
 omega
end Go.Px
end
section
namespace Go.Px
set_option maxRecDepth 100000
def gF (m:Mat) (free:Bool) (t s n b:Int) (x:Bool):Rows:=flt (fun y=>GW m (Wb y)) (Md t s n b x free)
def gX (m:Mat) (free:Bool) (t s n b:Int):Rows:=yF true (gF m free t s n b)
def gN (m:Mat) (free:Bool) (t s n:Int):Rows:=gX m free t s n 0++gX m free t s n 4++gX m free t s n 6
def gS (m:Mat) (free:Bool) (R:Nat) (t s:Int):Rows:=fm (gN m free t s) 0 R
def gT (m:Mat) (free:Bool) (R:Nat) (t:Int):Rows:=fm (gS m free R t) 0 4
theorem yB (m:Mat) (R:Nat):vg m R=fm (gT m (As m).freehit R) 1 3:=rfl
theorem uZ (m:Mat) (free:Bool) (t s n b:Int) (x:Bool):(gF m free t s n b x).length≤396:=Nat.le_trans (kU _ _) (ng t s n b x free)
theorem pt (m:Mat) (free:Bool) (t s n b:Int):(gX m free t s n b).length≤2 * 396:=kD (uZ m free t s n b)
theorem uN (m:Mat) (free:Bool) (t s n:Int):(gN m free t s n).length≤3 * (2 * 396):=yQ (g:=gX m free t s n) (pt m free t s n)
theorem t6 (m:Mat) (free:Bool) {R:Nat} (hR:R≤8) (t s:Int):(gS m free R t s).length≤8 * (3 * (2 * 396)):=A8 (uN m free t s) hR
theorem yC (m:Mat) (free:Bool) {R:Nat} (hR:R≤8) (t:Int):(gT m free R t).length≤4 * (8 * (3 * (2 * 396))):=A8 (t6 m free hR t) (Nat.le_refl _)
def bv:Nat→Int
 | 0=>0
 | 1=>4
 | _=>6
theorem wR (g:Int→Rows) (out:Rows) {i:Nat} (h:i<3):b3o g out (i+1)=b3o g out i++g (bv i):=by
 rcases lt3 h with e | e | e<;>subst e<;>rfl
def yv:Nat→Bool
 | 0=>false
 | _=>true
theorem ve (f:Bool→Rows) (out:Rows) {u:Nat} (h:u<2):yfo true f out (u+1)=yfo true f out u++f (yv u):=by
 rcases lt2 h with e | e<;>subst e<;>rfl
theorem wu {V:Rows} {i:Nat} (h:∃ d:Del,Ai V i=d.ls):[PV.int (pvI (AE V i 0)),.int (pvI (AE V i 1)),.int (pvI (AE V i 2)),.int (pvI (AE V i 3)),.int (pvI (AE V i 4)),.bool (pvB (AE V i 5)),.int (pvI (AE V i 6)),.int (pvI (AE V i 7)),.int (pvI (AE V i 8)),.int (pvI (AE V i 9)),.bool (pvB (AE V i 10)),.int (pvI (AE V i 11))]=Ai V i:=by
 obtain ⟨d,hd⟩:=h
 unfold AE
 rw [hd]
 rfl
set_option maxHeartbeats 1000000 in
theorem bQ {N:Nat} {m1 m2 m3 m4 m5 m6 m7 m9 m10 m11 m12 m14 m15 m18 m19 m20 m21 m22:Int} {m8 m16:Bool} {m0:ByteArray} {m13:Rows} {m17:List Inn} {r:Int} (hN:2097152<N) (hf:CX m17) (hl:m17.length≤1000000) (hs:m0.size≤1048576) (h13:m13.length≤1048576) (hr : -1≤r∧r≤7):C6 N [.str m0,.int m1,.int m2,.int m3,.int m4,.int m5,.int m6,.int m7,.bool m8,.int m9,.int m10,.int m11,.int m12,.rows m13,.int m14,.int m15,.bool m16,.rows (AM m17),.int m18,.int m19,.int m20,.int m21,.int m22,.int r]=some [.rows (QD (⟨⟨m0,m1,m2,m3,m4,m5,m6,m7,m8,m9,m10,m11,m12,m13⟩,m14,m15,m16,m17,m18,m19,m20,m21,m22⟩:Mat) (r+1).toNat)]:=by
 show D3 (std (BI N) N) (xOf _)=_
 simp only [D3,Oz,HW,Mn,E6,std,xOf,PXb,Vj hl,Lp hf hN hl hs]
 cases hp:(!(m14==3)||(m17.length:Int)==0) with
 | true =>
  rw [rb fun d=>by
   cases hx:GW (⟨⟨m0,m1,m2,m3,m4,m5,m6,m7,m8,m9,m10,m11,m12,m13⟩,m14,m15,m16,m17,m18,m19,m20,m21,m22⟩:Mat) d with
   | false=>rfl
   | true =>
    have a:=jQ hx
    have a1:=a.stage
    have a2:=a.some'
    change (m14==3)=true at a1
    change ((m17.length:Int)==0)=false at a2
    rw [a1,a2] at hp
    cases hp]
  rfl
 | false =>
  cases hv:BZ (⟨⟨m0,m1,m2,m3,m4,m5,m6,m7,m8,m9,m10,m11,m12,m13⟩,m14,m15,m16,m17,m18,m19,m20,m21,m22⟩:Mat) with
  | false =>
   rw [rb fun d=>by
    cases hx:GW (⟨⟨m0,m1,m2,m3,m4,m5,m6,m7,m8,m9,m10,m11,m12,m13⟩,m14,m15,m16,m17,m18,m19,m20,m21,m22⟩:Mat) d with
    | false=>rfl
    | true =>
     have a:=(jQ hx).valid
     rw [hv] at a
     cases a]
   rfl
  | true =>
   obtain ⟨R,hR⟩:∃ R:Nat,(r+1).toNat=R:=⟨_,rfl⟩
   have r7:(cond (iLt 7 r) 7 r:Int)=(R:Int) - 1:=by
    have:iLt 7 r=false:=by simp only [iLt,decide_eq_false_iff_not];omega
    rw [this]
    show r=_
    omega
   have R8:R≤8:=by omega
   have WHY:∀ d:Del,BX N [.str m0,.int m1,.int m2,.int m3,.int m4,.int m5,.int m6,.int m7,.bool m8,.int m9,.int m10,.int m11,.int m12,.rows m13,.int m14,.int m15,.bool m16,.rows (AM m17),.int m18,.int m19,.int m20,.int m21,.int m22,.int 4,.int 0,.int 0,.int 0,.bool false,.int 0,.int 0,.int d.type,.int d.source,.int d.runs,.int d.short,.int d.boundary,.bool d.crossed,.int d.how,.int d.victim,.int d.fielder,.int d.second,.bool d.sub,.int d.sector]=some [.int (A7 (⟨⟨m0,m1,m2,m3,m4,m5,m6,m7,m8,m9,m10,m11,m12,m13⟩,m14,m15,m16,m17,m18,m19,m20,m21,m22⟩:Mat) (evB d)).2]:=fun d=>Qp hN hf hl hs h13
   rw [hR,← y7,yB,← Pi]
   simp only [PXb,Bool.not_true,r7,nH]
   generalize (As (⟨⟨m0,m1,m2,m3,m4,m5,m6,m7,m8,m9,m10,m11,m12,m13⟩,m14,m15,m16,m17,m18,m19,m20,m21,m22⟩:Mat)).freehit=free at *
   generalize hm:(⟨⟨m0,m1,m2,m3,m4,m5,m6,m7,m8,m9,m10,m11,m12,m13⟩,m14,m15,m16,m17,m18,m19,m20,m21,m22⟩:Mat)=mm at *
   have z0:∀ a:Nat,(0:Int)+(a:Int)=(a:Int):=fun a=>Int.zero_add _
   generalize hL3:([[PV.int 0],[PV.int 4],[PV.int 6]]:Rows)=L3
   generalize hL2:([[PV.bool false],[PV.bool true]]:Rows)=L2
   have n3:L3.length=3:=by rw [← hL3];rfl
   have n2:L2.length=2:=by rw [← hL2];rfl
   have a3:∀ i:Nat,i<3→pvI (AE L3 i 0)=bv i:=fun i hi=>by rw [← hL3];rcases lt3 hi with e | e | e<;>subst e<;>rfl
   have a2:∀ i:Nat,i<2→pvB (AE L2 i 0)=yv i:=fun i hi=>by rw [← hL2];rcases lt2 hi with e | e<;>subst e<;>rfl
   clear hL3 hL2
   refine AH (Al (len:=3) (fun i=>[.rows (fmo [] (gT mm free R) 1 i),.int (1+(i:Int))]) [.rows (fmo [] (gT mm free R) 1 3)] ?_ ?_ N (by omega)) ?_
   ·intro self
    rfl
   ·intro a self ha
    have b1:=Bc (out:=[]) (lo:=1) (n:=a) (yC mm free R8) (k:=3) (by omega)
    rw [List.length_nil,Nat.zero_add] at b1
    rw [BE]
    generalize fmo [] (gT mm free R) 1 a=out1 at *
    have g1:iLe (1+(a:Int)) 3=true:=by simp only [iLe,decide_eq_true_eq];omega
    have w8:IntKind.u8.wrap (1+(a:Int)+1)=1+((a+1:Nat):Int):=by rw [VG (by omega) (by omega)];omega
    simp only [PXb,PXc,PXn,AB,g1,w8]
    generalize (1+(a:Int))=t at *
    rw [show out1++gT mm free R t=fmo out1 (gS mm free R t) 0 4 from (Cs _ _ _ _).symm]
    refine AH (Al (len:=4) (fun i=>[.rows (fmo out1 (gS mm free R t) 0 i),.int (i:Int)]) [.rows (fmo out1 (gS mm free R t) 0 4),.int 4] ?_ ?_ N (by omega)) ?_
    ·intro self
     rfl
    ·intro a self ha
     have b2:=Bc (out:=out1) (lo:=0) (n:=a) (t6 mm free R8 t) (k:=4) (by omega)
     rw [BE,z0]
     generalize fmo out1 (gS mm free R t) 0 a=out2 at *
     have g2:iLe (a:Int) 3=true:=by simp only [iLe,decide_eq_true_eq];omega
     have w8:IntKind.u8.wrap ((a:Int)+1)=((a+1:Nat):Int):=by rw [VG (by omega) (by omega)];omega
     simp only [PXb,PXc,PXn,AB,g2,w8]
     generalize (a:Int)=s at *
     rw [show out2++gS mm free R t s=fmo out2 (gN mm free t s) 0 R from (Cs _ _ _ _).symm]
     refine AH (Al (len:=R) (fun i=>[.rows (fmo out2 (gN mm free t s) 0 i),.int (i:Int)]) [.rows (fmo out2 (gN mm free t s) 0 R),.int (R:Int)] ?_ ?_ N (by omega)) ?_
     ·intro self
      simp only [PXb,PXc,PXn,AB,To]
     ·intro a self ha
      have b3:=Bc (out:=out2) (lo:=0) (n:=a) (uN mm free t s) (k:=8) (by omega)
      rw [BE,z0]
      generalize fmo out2 (gN mm free t s) 0 a=out3 at *
      simp only [PXb,PXc,PXn,AB,Yg ha,Bz (show a≤1099511627776 by omega)]
      generalize (a:Int)=n at *
      rw [show out3++gN mm free t s n=b3o (gX mm free t s n) out3 3 from (yN _ _).symm]
      refine AH (Al (len:=3) (fun i=>[.rows (b3o (gX mm free t s n) out3 i),.int (i:Int)]) [.rows (b3o (gX mm free t s n) out3 3),.int 3] ?_ ?_ N (by omega)) ?_
      ·intro self
       simp only [PXb,PXc,PXn,AB,n3,show iLt ((3:Nat):Int) ((3:Nat):Int)=false from rfl]
       rfl
      ·intro a self ha
       have b4:(b3o (gX mm free t s n) out3 a).length≤out3.length+3 * (2 * 396):=by
        have x0:=pt mm free t s n 0
        have x4:=pt mm free t s n 4
        rcases lt3 ha with e | e | e<;>subst e
        ·show out3.length≤_
         omega
        ·show (out3++gX mm free t s n 0).length≤_
         rw [List.length_append]
         omega
        ·show (out3++gX mm free t s n 0++gX mm free t s n 4).length≤_
         rw [List.length_append,List.length_append]
         omega
       rw [wR _ _ ha]
       generalize b3o (gX mm free t s n) out3 a=out4 at *
       simp only [PXb,PXc,PXn,AB,n3,Aj ha,AQ ha,Int.toNat_natCast,a3 a ha,Bz (show a≤1099511627776 by omega)]
       generalize bv a=b at *
       rw [show out4++gX mm free t s n b=yfo true (gF mm free t s n b) out4 2 from (uz _ _ _).symm]
       refine AH (Al (len:=2) (fun i=>[.rows (yfo true (gF mm free t s n b) out4 i),.int (i:Int)]) [.rows (yfo true (gF mm free t s n b) out4 2),.int 2] ?_ ?_ N (by omega)) ?_
       ·intro self
        simp only [PXb,PXc,PXn,AB,n2,show iLt ((2:Nat):Int) ((2:Nat):Int)=false from rfl]
        rfl
       ·intro a self ha
        have b5:(yfo true (gF mm free t s n b) out4 a).length≤out4.length+396:=by
         have x0:=uZ mm free t s n b false
         rcases lt2 ha with e | e<;>subst e
         ·show out4.length≤_
          omega
         ·show (out4++gF mm free t s n b false).length≤_
          rw [List.length_append]
          omega
        rw [ve _ _ ha]
        generalize yfo true (gF mm free t s n b) out4 a=out5 at *
        simp only [PXb,PXc,PXn,AB,n2,Aj ha,AQ ha,Int.toNat_natCast,a2 a ha,Bz (show a≤1099511627776 by omega),E6,jW hN]
        generalize yv a=x at *
        unfold gF
        have VL:=ng t s n b x free
        have CA:∀ i,i<(Md t s n b x free).length→∃ d:Del,Ai (Md t s n b x free) i=d.ls:=fun i hi=>xu (uk hi)
        generalize Md t s n b x free=V at *
        refine AH (v5 (q:=fun y=>GW mm (Wb y)) hN VL (by omega) ?_ ?_) ?_
        ·intro o self
         simp only [PXb,PXc,PXn,AB,Au]
        ·intro i o self hi ho
         have sm:iSm ((o.length+1:Nat):Int) 80=true:=DM (by omega) (by omega)
         have W:=WHY (Wb (Ai V i))
         have RB:=wu (CA i hi)
         simp only [PXb,PXc,PXn,PXm,Nat.reduceAdd,Int.reduceBEq,Aj hi,AQ hi,Int.toNat_natCast,Bz (show i≤1099511627776 by omega),HW]
         refine bind_ok W ?_
         rw [RB]
         show cond (GW mm (Wb (Ai V i))) _ _=_
         cases GW mm (Wb (Ai V i)) with
         | false=>rw [cond_false,cond_false,List.append_nil]
         | true=>rw [cond_true,cond_true,List.length_append,List.length_cons,List.length_nil,Nat.zero_add,sm,cond_true]
        ·simp only [PXb,PXc,PXn,AB]
       ·simp only [PXb,PXc,PXn,AB]
      ·simp only [PXb,PXc,PXn,AB]
     ·simp only [PXb,PXc,PXn,AB]
    ·simp only [PXb,PXc,PXn,AB]
   ·rfl
end Go.Px
end
section
namespace Go.Px
set_option maxRecDepth 100000
theorem Va {F : (List AU → Option (List PV)) → List PV → Option (List PV)} {J : Type} {len : Nat} (enc : Nat → J → List AU) (fin : J → List PV)
    (h0:∀ j self,F self ((enc len j).map Leaf.pv)=some (fin j)) (h1:∀ i j,i<len→∃ j',∀ self,F self ((enc i j).map Leaf.pv)=self (enc (i+1) j')) (n:Nat) (hn:len<n) (j:J) :
    ∃ j',EM F n ((enc 0 j).map Leaf.pv)=some (fin j'):=by
  have main:∀ (k i n:Nat) (j:J),i+k=len→k<n→∃ j',EM F n ((enc i j).map Leaf.pv)=some (fin j'):=by
    intro k
    induction k with
    | zero =>
      intro i n j hk hn
      obtain ⟨n,rfl⟩:∃ m,n=m+1:=⟨n - 1,by omega⟩
      obtain rfl:i=len:=by omega
      exact ⟨j,h0 j _⟩
    | succ k ih =>
      intro i n j hk hn
      obtain ⟨n,rfl⟩:∃ m,n=m+1:=⟨n - 1,by omega⟩
      obtain ⟨j1,hj⟩:=h1 i j (by omega)
      obtain ⟨j2,hj2⟩:=ih (i+1) n j1 (by omega) (by omega)
      exact ⟨j2,(hj _).trans hj2⟩
  exact main len 0 n j (by omega) hn
theorem fq {F : (List AU → Option (List PV)) → List PV → Option (List PV)} {J J2 : Type} {N : Nat} {x : List PV} {k : (List AU → Option (List PV)) → List PV → Option (List PV)} {fin : J2 → List PV} {G : J → List AU}
    (h:∃ j',EM F N x=some (fin j')) (hk:∀ j',∃ j'',∀ self,k self (fin j')=self (G j'')):∃ j'',∀ self,(EM F N x).bind (k self)=self (G j''):=by
  obtain ⟨j1,h1⟩:=h
  obtain ⟨j2,h2⟩:=hk j1
  refine ⟨j2,fun self=>?_⟩
  rw [h1]
  exact h2 self
theorem qf {F : (List AU → Option (List PV)) → List PV → Option (List PV)} {J : Type} {len : Nat} (enc : Nat → J → List AU) (fin : List PV)
    (h0:∀ j self,F self ((enc len j).map Leaf.pv)=some fin) (h1:∀ i j,i<len→∃ j',∀ self,F self ((enc i j).map Leaf.pv)=self (enc (i+1) j')) (n:Nat) (hn:len<n) (j:J):EM F n ((enc 0 j).map Leaf.pv)=some fin:=by
  obtain ⟨_,h⟩:=Va enc (fun _=>fin) h0 h1 n hn j
  exact h
abbrev JT:=Bool×Int×Int×Int
def dSt (t s n b:Int) (out:Rows) (i:Int) (j:JT):List AU:=[.rows out,.int i,.int t,.int s,.int n,.int 0,.int b,.bool j.1,.int j.2.1,.int j.2.2.1,.int j.2.2.2,.int 0,.bool false,.int 0]
def wF (t s n b:Int) (out:Rows) (i:Int) (j:JT):List PV:=[.rows out,.int i,.int t,.int s,.int n,.int 0,.int b,.bool j.1,.int j.2.1,.int j.2.2.1,.int j.2.2.2,.int 0,.bool false,.int 0]
theorem pw (m:Mat) (t s n b:Int) (x:Bool) (h v f:Int):(Jz m t s n b x h v f).length≤1:=by
 unfold Jz
 cases GW m (Af t s n b x h v f)
 ·exact Nat.zero_le _
 ·exact Nat.le_refl _
def w1 (m:Mat) (t s n b:Int) (x:Bool) (h v:Int):Rows:=fm (Jz m t s n b x h v) 0 12
def w2 (m:Mat) (t s n b:Int) (x:Bool) (h:Int):Rows:=fm (w1 m t s n b x h) 0 3
def w3 (m:Mat) (t s n b:Int) (x:Bool):Rows:=fm (w2 m t s n b x) 0 11
theorem vJ (m:Mat) (t s n b:Int) (x:Bool) (h v:Int):(w1 m t s n b x h v).length≤12 * 1:=A8 (pw m t s n b x h v) (Nat.le_refl _)
theorem vb (m:Mat) (t s n b:Int) (x:Bool) (h:Int):(w2 m t s n b x h).length≤3 * (12 * 1):=A8 (vJ m t s n b x h) (Nat.le_refl _)
theorem tz (m:Mat) (t s n b:Int) (x:Bool):(w3 m t s n b x).length≤11 * (3 * (12 * 1)):=A8 (vb m t s n b x) (Nat.le_refl _)
def w4 (m:Mat) (t s n b:Int):Rows:=fm (fun x=>w3 m t s n b (x==1)) 0 2
theorem y3 (m:Mat) (t s n b:Int):w4 m t s n b=yF true fun x=>WT (Jz m t s n b x):=yfm true (w3 m t s n b)
set_option maxHeartbeats 2000000 in
theorem rq {N:Nat} {m1 m2 m3 m4 m5 m6 m7 m9 m10 m11 m12 m14 m15 m18 m19 m20 m21 m22:Int} {m8 m16:Bool} {m0:ByteArray} {m13:Rows} {m17:List Inn} {t s n b h0 v0 f0:Int} {c:Bool} (hN:2097152<N) (hf:CX m17) (hl:m17.length≤1000000) (hs:m0.size≤1048576) (h13:m13.length≤1048576):Ka N [.str m0,.int m1,.int m2,.int m3,.int m4,.int m5,.int m6,.int m7,.bool m8,.int m9,.int m10,.int m11,.int m12,.rows m13,.int m14,.int m15,.bool m16,.rows (AM m17),.int m18,.int m19,.int m20,.int m21,.int m22,.int t,.int s,.int n,.int 0,.int b,.bool c,.int h0,.int v0,.int f0,.int 0,.bool false,.int 0]=some [.rows (w4 (⟨⟨m0,m1,m2,m3,m4,m5,m6,m7,m8,m9,m10,m11,m12,m13⟩,m14,m15,m16,m17,m18,m19,m20,m21,m22⟩:Mat) t s n b)]:=by
 show TC (std (Jv N) N) (xOf _)=_
 have WHY:∀ d:Del,CL N [.str m0,.int m1,.int m2,.int m3,.int m4,.int m5,.int m6,.int m7,.bool m8,.int m9,.int m10,.int m11,.int m12,.rows m13,.int m14,.int m15,.bool m16,.rows (AM m17),.int m18,.int m19,.int m20,.int m21,.int m22,.int 4,.int 0,.int 0,.int 0,.bool false,.int 0,.int 0,.int d.type,.int d.source,.int d.runs,.int d.short,.int d.boundary,.bool d.crossed,.int d.how,.int d.victim,.int d.fielder,.int d.second,.bool d.sub,.int d.sector]=some [.int (A7 (⟨⟨m0,m1,m2,m3,m4,m5,m6,m7,m8,m9,m10,m11,m12,m13⟩,m14,m15,m16,m17,m18,m19,m20,m21,m22⟩:Mat) (evB d)).2]:=fun d=>cU hN hf hl hs h13
 have WHK:∀ (x:Bool) (h v f:Int),CL N [.str m0,.int m1,.int m2,.int m3,.int m4,.int m5,.int m6,.int m7,.bool m8,.int m9,.int m10,.int m11,.int m12,.rows m13,.int m14,.int m15,.bool m16,.rows (AM m17),.int m18,.int m19,.int m20,.int m21,.int m22,.int 4,.int 0,.int 0,.int 0,.bool false,.int 0,.int 0,.int t,.int s,.int n,.int 0,.int b,.bool x,.int h,.int v,.int f,.int 0,.bool false,.int 0]=some [.int (A7 (⟨⟨m0,m1,m2,m3,m4,m5,m6,m7,m8,m9,m10,m11,m12,m13⟩,m14,m15,m16,m17,m18,m19,m20,m21,m22⟩:Mat) (evB (Af t s n b x h v f))).2]:=fun x h v f=>WHY (Af t s n b x h v f)
 have LEG:∀ (x:Bool) (h v f:Int),Cw N [.int t,.int s,.int n,.int 0,.int b,.bool x,.int h,.int v,.int f,.int 0,.bool false,.int 0]=some [.int (Ax (Af t s n b x h v f))]:=fun x h v f=>WH
 have POS:∀ (x:Bool) (h v f:Int),C9 N [.int t,.int s,.int n,.int 0,.int b,.bool x,.int h,.int v,.int f,.int 0,.bool false,.int 0,.bool false]=some [.int (BA (Af t s n b x h v f) false)]:=fun x h v f=>XY
 clear WHY
 generalize hm:(⟨⟨m0,m1,m2,m3,m4,m5,m6,m7,m8,m9,m10,m11,m12,m13⟩,m14,m15,m16,m17,m18,m19,m20,m21,m22⟩:Mat)=mm at *
 have z0:∀ a:Nat,(0:Int)+(a:Int)=(a:Int):=fun a=>Int.zero_add _
 unfold w4
 rw [← Pi]
 simp only [TC,RU,Oo,K3,std,xOf,PXb]
 refine AH (qf (len:=2) (fun i j=>dSt t s n b (fmo [] (fun x=>w3 mm t s n b (x==1)) 0 i) (i:Int) j) [.rows (fmo [] (fun x=>w3 mm t s n b (x==1)) 0 2)] ?_ ?_ N (by omega) (c,h0,v0,f0)) ?_
 ·intro j self
  rfl
 ·intro a j ha
  have b1:=Bc (out:=[]) (f:=fun x=>w3 mm t s n b (x==1)) (lo:=0) (n:=a) (fun x=>tz mm t s n b (x==1)) (k:=2) (by omega)
  rw [List.length_nil,Nat.zero_add] at b1
  rw [BE,z0]
  generalize fmo [] (fun x=>w3 mm t s n b (x==1)) 0 a=out1 at *
  have g1:iLe (a:Int) 1=true:=by simp only [iLe,decide_eq_true_eq];omega
  simp only [dSt,PXb,PXc,PXn,AB,g1,Bz (show a≤1099511627776 by omega)]
  generalize ((a:Int)==1)=x at *
  rw [show out1++w3 mm t s n b x=fmo out1 (w2 mm t s n b x) 0 11 from (Cs _ _ _ _).symm]
  refine fq (Va (len:=11) (fun i j=>dSt t s n b (fmo out1 (w2 mm t s n b x) 0 i) (i:Int) j) (fun j=>wF t s n b (fmo out1 (w2 mm t s n b x) 0 11) 11 j) ?_ ?_ N (by omega) j) ?_
  ·intro j self
   rfl
  ·intro a j ha
   have b2:=Bc (out:=out1) (lo:=0) (n:=a) (vb mm t s n b x) (k:=11) (by omega)
   rw [BE,z0]
   generalize fmo out1 (w2 mm t s n b x) 0 a=out2 at *
   have g2:iLe (a:Int) 10=true:=by simp only [iLe,decide_eq_true_eq];omega
   have w8:IntKind.u8.wrap ((a:Int)+1)=((a+1:Nat):Int):=by rw [VG (by omega) (by omega)];omega
   simp only [dSt,PXb,PXc,PXn,AB,g2,w8]
   generalize (a:Int)=h at *
   rw [show out2++w2 mm t s n b x h=fmo out2 (w1 mm t s n b x h) 0 3 from (Cs _ _ _ _).symm]
   refine fq (Va (len:=3) (fun i j=>dSt t s n b (fmo out2 (w1 mm t s n b x h) 0 i) (i:Int) j) (fun j=>wF t s n b (fmo out2 (w1 mm t s n b x h) 0 3) 3 j) ?_ ?_ N (by omega) j) ?_
   ·intro j self
    rfl
   ·intro a j ha
    have b3:=Bc (out:=out2) (lo:=0) (n:=a) (vJ mm t s n b x h) (k:=3) (by omega)
    rw [BE,z0]
    generalize fmo out2 (w1 mm t s n b x h) 0 a=out3 at *
    have g3:iLe (a:Int) 2=true:=by simp only [iLe,decide_eq_true_eq];omega
    simp only [dSt,PXb,PXc,PXn,AB,g3,Bz (show a≤1099511627776 by omega)]
    generalize (a:Int)=v at *
    rw [show out3++w1 mm t s n b x h v=fmo out3 (Jz mm t s n b x h v) 0 12 from (Cs _ _ _ _).symm]
    refine fq (Va (len:=12) (fun i j=>dSt t s n b (fmo out3 (Jz mm t s n b x h v) 0 i) (i:Int) j) (fun j=>wF t s n b (fmo out3 (Jz mm t s n b x h v) 0 12) 12 j) ?_ ?_ N (by omega) j) ?_
    ·intro j self
     rfl
    ·intro a j ha
     have b4:=Bc (out:=out3) (lo:=0) (n:=a) (pw mm t s n b x h v) (k:=12) (by omega)
     rw [BE,z0]
     generalize fmo out3 (Jz mm t s n b x h v) 0 a=out4 at *
     have g4:iLe (a:Int) 11=true:=by simp only [iLe,decide_eq_true_eq];omega
     have sm:iSm ((out4.length+1:Nat):Int) 80=true:=DM (by omega) (by omega)
     refine ⟨(x,h,v,(a:Int)),fun self=>?_⟩
     rw [← yy]
     have DO:Jz mm t s n b x h v (a:Int)=cond ((A7 mm (evB (Af t s n b x h v (a:Int)))).2==0) [[.int t,.int s,.int n,.int 0,.int b,.bool x,.int h,.int v,.int (a:Int),.int 0,.bool false,.int 0]] []:=rfl
     rw [DO]
     simp only [dSt,PXb,PXc,PXn,PXm,Nat.reduceAdd,Int.reduceBEq,g4,Bz (show a≤1099511627776 by omega),Oo,K3,RU,LEG,POS,WHK,List.length_append,List.length_cons,List.length_nil,Nat.zero_add,sm]
     cases Ax (Af t s n b x h v (a:Int))==0 with
     | false=>simp only [Bool.not_false,Bool.true_or,cond_true,List.append_nil]
     | true =>
      cases hp:BA (Af t s n b x h v (a:Int)) false==0 with
      | false=>simp only [cond_true,hp,Bool.not_false,Bool.not_true,Bool.or_true,Bool.false_or,Bool.and_self,Bool.true_and,cond_true,List.append_nil]
      | true =>
       simp only [cond_true,hp,Bool.not_true,Bool.or_self,Bool.and_false,Bool.true_and,cond_false]
       cases (A7 mm (evB (Af t s n b x h v (a:Int)))).2==0 with
       | false=>simp only [cond_false,List.append_nil]
       | true=>simp only [cond_true]
    ·intro j'
     exact ⟨j',fun self=>rfl⟩
   ·intro j'
    exact ⟨j',fun self=>rfl⟩
  ·intro j'
   exact ⟨j',fun self=>rfl⟩
 ·rfl
def gA (m:Mat) (t s n:Int):Rows:=fm (w4 m t s n) 0 7
def gB (m:Mat) (R:Nat) (t s:Int):Rows:=fm (gA m t s) 0 R
def gC (m:Mat) (R:Nat) (t:Int):Rows:=fm (gB m R t) 0 4
theorem yk (m:Mat) (R:Nat):QD m R=fm (gC m R) 1 3:=by
 unfold QD
 simp only [← y3]
 rfl
theorem od (m:Mat) (t s n b:Int):(w4 m t s n b).length≤2 * (11 * (3 * (12 * 1))):=A8 (f:=fun x=>w3 m t s n b (x==1)) (fun x=>tz m t s n b (x==1)) (Nat.le_refl _)
theorem ut (m:Mat) (t s n:Int):(gA m t s n).length≤7 * (2 * (11 * (3 * (12 * 1)))):=A8 (od m t s n) (Nat.le_refl _)
theorem tu (m:Mat) {R:Nat} (hR:R≤8) (t s:Int):(gB m R t s).length≤8 * (7 * (2 * (11 * (3 * (12 * 1))))):=A8 (ut m t s) hR
theorem yX (m:Mat) {R:Nat} (hR:R≤8) (t:Int):(gC m R t).length≤4 * (8 * (7 * (2 * (11 * (3 * (12 * 1)))))):=A8 (tu m hR t) (Nat.le_refl _)
set_option maxHeartbeats 1000000 in
theorem gh {N:Nat} {m1 m2 m3 m4 m5 m6 m7 m9 m10 m11 m12 m14 m15 m18 m19 m20 m21 m22:Int} {m8 m16:Bool} {m0:ByteArray} {m13:Rows} {m17:List Inn} {r:Int} (hN:2097152<N) (hf:CX m17) (hl:m17.length≤1000000) (hs:m0.size≤1048576) (h13:m13.length≤1048576) (hr : -1≤r∧r≤7):Dk N [.str m0,.int m1,.int m2,.int m3,.int m4,.int m5,.int m6,.int m7,.bool m8,.int m9,.int m10,.int m11,.int m12,.rows m13,.int m14,.int m15,.bool m16,.rows (AM m17),.int m18,.int m19,.int m20,.int m21,.int m22,.int r]=some [.rows (QD (⟨⟨m0,m1,m2,m3,m4,m5,m6,m7,m8,m9,m10,m11,m12,m13⟩,m14,m15,m16,m17,m18,m19,m20,m21,m22⟩:Mat) (r+1).toNat)]:=by
 show H3 (std (Jt N) N) (xOf _)=_
 simp only [H3,JJ,std,xOf,PXb]
 obtain ⟨R,hR⟩:∃ R:Nat,(r+1).toNat=R:=⟨_,rfl⟩
 have R8:R≤8:=by omega
 have rR:r=(R:Int) - 1:=by omega
 have WITH:∀ t s n b:Int,Ka N [.str m0,.int m1,.int m2,.int m3,.int m4,.int m5,.int m6,.int m7,.bool m8,.int m9,.int m10,.int m11,.int m12,.rows m13,.int m14,.int m15,.bool m16,.rows (AM m17),.int m18,.int m19,.int m20,.int m21,.int m22,.int t,.int s,.int n,.int 0,.int b,.bool false,.int 0,.int 0,.int 0,.int 0,.bool false,.int 0]=some [.rows (w4 (⟨⟨m0,m1,m2,m3,m4,m5,m6,m7,m8,m9,m10,m11,m12,m13⟩,m14,m15,m16,m17,m18,m19,m20,m21,m22⟩:Mat) t s n b)]:=fun t s n b=>rq hN hf hl hs h13
 rw [hR,yk,← Pi,rR]
 generalize hm:(⟨⟨m0,m1,m2,m3,m4,m5,m6,m7,m8,m9,m10,m11,m12,m13⟩,m14,m15,m16,m17,m18,m19,m20,m21,m22⟩:Mat)=mm at *
 have z0:∀ a:Nat,(0:Int)+(a:Int)=(a:Int):=fun a=>Int.zero_add _
 refine AH (Al (len:=3) (fun i=>[.rows (fmo [] (gC mm R) 1 i),.int (1+(i:Int))]) [.rows (fmo [] (gC mm R) 1 3)] ?_ ?_ N (by omega)) ?_
 ·intro self
  rfl
 ·intro a self ha
  have b1:=Bc (out:=[]) (lo:=1) (n:=a) (yX mm R8) (k:=3) (by omega)
  rw [List.length_nil,Nat.zero_add] at b1
  rw [BE]
  generalize fmo [] (gC mm R) 1 a=out1 at *
  have g1:iLe (1+(a:Int)) 3=true:=by simp only [iLe,decide_eq_true_eq];omega
  have w8:IntKind.u8.wrap (1+(a:Int)+1)=1+((a+1:Nat):Int):=by rw [VG (by omega) (by omega)];omega
  simp only [PXb,PXc,PXn,AB,g1,w8]
  generalize (1+(a:Int))=t at *
  rw [show out1++gC mm R t=fmo out1 (gB mm R t) 0 4 from (Cs _ _ _ _).symm]
  refine AH (Al (len:=4) (fun i=>[.rows (fmo out1 (gB mm R t) 0 i),.int (i:Int)]) [.rows (fmo out1 (gB mm R t) 0 4),.int 4] ?_ ?_ N (by omega)) ?_
  ·intro self
   rfl
  ·intro a self ha
   have b2:=Bc (out:=out1) (lo:=0) (n:=a) (tu mm R8 t) (k:=4) (by omega)
   rw [BE,z0]
   generalize fmo out1 (gB mm R t) 0 a=out2 at *
   have g2:iLe (a:Int) 3=true:=by simp only [iLe,decide_eq_true_eq];omega
   have w8:IntKind.u8.wrap ((a:Int)+1)=((a+1:Nat):Int):=by rw [VG (by omega) (by omega)];omega
   simp only [PXb,PXc,PXn,AB,g2,w8]
   generalize (a:Int)=s at *
   rw [show out2++gB mm R t s=fmo out2 (gA mm t s) 0 R from (Cs _ _ _ _).symm]
   refine AH (Al (len:=R) (fun i=>[.rows (fmo out2 (gA mm t s) 0 i),.int (i:Int)]) [.rows (fmo out2 (gA mm t s) 0 R),.int (R:Int)] ?_ ?_ N (by omega)) ?_
   ·intro self
    simp only [PXb,PXc,PXn,AB,To,Bool.false_and]
   ·intro a self ha
    have b3:=Bc (out:=out2) (lo:=0) (n:=a) (ut mm t s) (k:=8) (by omega)
    rw [BE,z0]
    generalize fmo out2 (gA mm t s) 0 a=out3 at *
    have g7:iLe (a:Int) 7=true:=by simp only [iLe,decide_eq_true_eq];omega
    simp only [PXb,PXc,PXn,AB,Yg ha,g7,Bool.and_self,Bz (show a≤1099511627776 by omega)]
    generalize (a:Int)=n at *
    rw [show out3++gA mm t s n=fmo out3 (w4 mm t s n) 0 7 from (Cs _ _ _ _).symm]
    refine AH (Al (len:=7) (fun i=>[.rows (fmo out3 (w4 mm t s n) 0 i),.int (i:Int)]) [.rows (fmo out3 (w4 mm t s n) 0 7),.int 7] ?_ ?_ N (by omega)) ?_
    ·intro self
     rfl
    ·intro a self ha
     have b4:=Bc (out:=out3) (lo:=0) (n:=a) (od mm t s n) (k:=7) (by omega)
     have b5:=od mm t s n (a:Int)
     rw [BE,z0]
     generalize fmo out3 (w4 mm t s n) 0 a=out4 at *
     have g6:iLe (a:Int) 6=true:=by simp only [iLe,decide_eq_true_eq];omega
     have sm:iSm ((out4.length+(w4 mm t s n (a:Int)).length:Nat):Int) 80=true:=DM (by omega) (by omega)
     simp only [PXb,PXc,PXn,AB,g6,Bz (show a≤1099511627776 by omega),JJ,WITH,List.length_append,sm]
    ·simp only [PXb,PXc,PXn,AB]
   ·simp only [PXb,PXc,PXn,AB]
  ·simp only [PXb,PXc,PXn,AB]
 ·rfl
end Go.Px
end
section
namespace Go.Px
set_option maxRecDepth 100000
theorem og {m:Mat} {k s p o:Int} {y:Bool} {n:Int} {x:List PV} (h:x∈A1 m k s p o y n):pvI (AJ x 0)=k:=by
 unfold A1 at h
 cases hc:(A7 m (evK k s p o y n)).2==0 with
 | false=>rw [hc] at h;exact absurd h List.not_mem_nil
 | true =>
  rw [hc] at h
  rw [List.mem_singleton.1 h]
  rfl
theorem wL {m:Mat} {k:Int} {b:Bool} {sl pl ol rl:Int} {sn pn on rn:Nat} {x:List PV} (h:x∈Pu (A1 m k) b sl pl ol rl sn pn on rn):pvI (AJ x 0)=k:=by
 unfold Pu at h
 obtain ⟨s,_,_,h⟩:=LL _ h
 obtain ⟨p,_,_,h⟩:=LL _ h
 obtain ⟨o,_,_,h⟩:=LL _ h
 rcases List.mem_append.1 h with h | h
 ·obtain ⟨n,_,_,h⟩:=LL _ h
  exact og h
 ·cases b with
  | false=>exact absurd h List.not_mem_nil
  | true =>
   obtain ⟨n,_,_,h⟩:=LL _ h
   exact og h
theorem jY {m:Mat} {k:Int} {x:List PV} (h:x∈DR m k):pvI (AJ x 0)=k:=by
 unfold DR at h
 cases hc:okK k&&BZ m with
 | false=>rw [hc] at h;exact absurd h List.not_mem_nil
 | true=>rw [hc] at h;exact wL h
theorem yi {k:Int} (h:okK k=true):1≤k∧k≤16:=by
 unfold okK at h
 simp only [Bool.or_eq_true,beq_iff_eq] at h
 omega
theorem xP (m:Mat) (k:Int):Ao (fun i=>pvI (AE (Dr m) i 0)==k) (Dr m).length 0=iLt 0 ((DR m k).length:Int):=by
 cases hf:DR m k with
 | nil =>
  rw [show iLt 0 ((([]:Rows).length:Nat):Int)=false from rfl]
  refine Fu.2 fun i _ hi=>?_
  obtain ⟨k',h1,h2,h3⟩:=LL _ (uk (show i<(Dr m).length by omega))
  have hk:pvI (AJ (Ai (Dr m) i) 0)=k':=jY h3
  show (pvI (AJ (Ai (Dr m) i) 0)==k)=false
  rw [hk]
  refine beq_false_of_ne fun e=>?_
  rw [e,hf] at h3
  exact absurd h3 List.not_mem_nil
 | cons x D =>
  have hx:x∈DR m k:=by rw [hf];exact List.mem_cons_self
  have ok:okK k=true:=by
   cases ho:okK k with
   | true=>rfl
   | false =>
    unfold DR at hx
    rw [ho] at hx
    exact absurd hx List.not_mem_nil
  have kb:=yi ok
  have hin:x∈Dr m:=w5 hx 16 kb.1 (by omega)
  obtain ⟨i,hi,he⟩:=List.getElem_of_mem hin
  rw [show iLt 0 ((((x::D:Rows)).length:Nat):Int)=true by simp only [iLt,List.length_cons,decide_eq_true_eq];omega]
  cases ha:Ao (fun i=>pvI (AE (Dr m) i 0)==k) (Dr m).length 0 with
  | true=>rfl
  | false =>
   have h:=Fu.1 ha i (Nat.zero_le _) (by omega)
   have:pvI (AE (Dr m) i 0)=k:=by
    show pvI (AJ (Ai (Dr m) i) 0)=k
    unfold Ai
    rw [List.getD_eq_getElem?_getD,List.getElem?_eq_getElem hi,he]
    exact jY hx
   rw [this,beq_self_eq_true] at h
   cases h
def dC (o r:Int):Ev:=⟨15,0,0,0,false,r,o,⟨0,0,0,0,0,false,0,0,0,0,false,0⟩⟩
def pq (m:Mat):Bool:=cond (!(m.stage==3)||(m.inns.length:Int)==0) false ((A7 m (dC (As m).overs 0)).2==0||(A7 m (dC 0 (IntKind.i64.wrap ((As m).runs+1)))).2==0)
def Yu (m:Mat) (k:Int):Bool:=cond (k==4) (iLt 0 ((QD m 1).length:Int)) (cond (k==15) (pq m) (iLt 0 ((DR m k).length:Int)))
set_option maxHeartbeats 400000 in
theorem hP {N:Nat} {m1 m2 m3 m4 m5 m6 m7 m9 m10 m11 m12 m14 m15 m18 m19 m20 m21 m22:Int} {m8 m16:Bool} {m0:ByteArray} {m13:Rows} {m17:List Inn} {k:Int} (hN:2097152<N) (hf:CX m17) (hl:m17.length≤1000000) (hs:m0.size≤1048576) (h13:m13.length≤1048576):GN N [.str m0,.int m1,.int m2,.int m3,.int m4,.int m5,.int m6,.int m7,.bool m8,.int m9,.int m10,.int m11,.int m12,.rows m13,.int m14,.int m15,.bool m16,.rows (AM m17),.int m18,.int m19,.int m20,.int m21,.int m22,.int k]=some [.bool (Yu (⟨⟨m0,m1,m2,m3,m4,m5,m6,m7,m8,m9,m10,m11,m12,m13⟩,m14,m15,m16,m17,m18,m19,m20,m21,m22⟩:Mat) k)]:=by
 show Ft (std (Bn N) N) (xOf _)=_
 have WHV:∀ o r:Int,BX N [.str m0,.int m1,.int m2,.int m3,.int m4,.int m5,.int m6,.int m7,.bool m8,.int m9,.int m10,.int m11,.int m12,.rows m13,.int m14,.int m15,.bool m16,.rows (AM m17),.int m18,.int m19,.int m20,.int m21,.int m22,.int 15,.int 0,.int 0,.int 0,.bool false,.int r,.int o,.int 0,.int 0,.int 0,.int 0,.int 0,.bool false,.int 0,.int 0,.int 0,.int 0,.bool false,.int 0]=some [.int (A7 (⟨⟨m0,m1,m2,m3,m4,m5,m6,m7,m8,m9,m10,m11,m12,m13⟩,m14,m15,m16,m17,m18,m19,m20,m21,m22⟩:Mat) (dC o r)).2]:=fun o r=>Qp hN hf hl hs h13
 have OF:Dl N [.str m0,.int m1,.int m2,.int m3,.int m4,.int m5,.int m6,.int m7,.bool m8,.int m9,.int m10,.int m11,.int m12,.rows m13,.int m14,.int m15,.bool m16,.rows (AM m17),.int m18,.int m19,.int m20,.int m21,.int m22,.int k]=some [.rows (DR (⟨⟨m0,m1,m2,m3,m4,m5,m6,m7,m8,m9,m10,m11,m12,m13⟩,m14,m15,m16,m17,m18,m19,m20,m21,m22⟩:Mat) k)]:=iS hN hf hl hs h13
 have DL:C6 N [.str m0,.int m1,.int m2,.int m3,.int m4,.int m5,.int m6,.int m7,.bool m8,.int m9,.int m10,.int m11,.int m12,.rows m13,.int m14,.int m15,.bool m16,.rows (AM m17),.int m18,.int m19,.int m20,.int m21,.int m22,.int 0]=some [.rows (QD (⟨⟨m0,m1,m2,m3,m4,m5,m6,m7,m8,m9,m10,m11,m12,m13⟩,m14,m15,m16,m17,m18,m19,m20,m21,m22⟩:Mat) 1)]:=bQ (r:=0) hN hf hl hs h13 (by omega)
 simp only [Ft,Sk,Mk,US,PQ,std,xOf,PXb,DL,OF,Vj hl]
 unfold Yu
 generalize QD (⟨⟨m0,m1,m2,m3,m4,m5,m6,m7,m8,m9,m10,m11,m12,m13⟩,m14,m15,m16,m17,m18,m19,m20,m21,m22⟩:Mat) 1=D at *
 generalize DR (⟨⟨m0,m1,m2,m3,m4,m5,m6,m7,m8,m9,m10,m11,m12,m13⟩,m14,m15,m16,m17,m18,m19,m20,m21,m22⟩:Mat) k=E at *
 cases h4:k==4 with
 | true=>simp only [PXb,PXc,PXn,PXm,Nat.reduceAdd,Int.reduceBEq,h4]
 | false =>
  cases h15:k==15 with
  | false=>simp only [PXb,PXc,PXn,PXm,Nat.reduceAdd,Int.reduceBEq,h4,h15]
  | true =>
   rw [beq_iff_eq.1 h15]
   simp only [PXb,PXc,PXn,PXm,Nat.reduceAdd,Int.reduceBEq,Int.reduceBEq]
   cases hp:(!(m14==3)||(m17.length:Int)==0) with
   | true =>
    have rv:pq (⟨⟨m0,m1,m2,m3,m4,m5,m6,m7,m8,m9,m10,m11,m12,m13⟩,m14,m15,m16,m17,m18,m19,m20,m21,m22⟩:Mat)=false:=by
     show cond (!(m14==3)||(m17.length:Int)==0) _ _=_
     rw [hp]
     rfl
    simp only [PXb,PXc,PXn,PXm,Nat.reduceAdd,Int.reduceBEq,wy,rv]
   | false =>
    have rv:pq (⟨⟨m0,m1,m2,m3,m4,m5,m6,m7,m8,m9,m10,m11,m12,m13⟩,m14,m15,m16,m17,m18,m19,m20,m21,m22⟩:Mat)=((A7 (⟨⟨m0,m1,m2,m3,m4,m5,m6,m7,m8,m9,m10,m11,m12,m13⟩,m14,m15,m16,m17,m18,m19,m20,m21,m22⟩:Mat) (dC (As (⟨⟨m0,m1,m2,m3,m4,m5,m6,m7,m8,m9,m10,m11,m12,m13⟩,m14,m15,m16,m17,m18,m19,m20,m21,m22⟩:Mat)).overs 0)).2==0||(A7 (⟨⟨m0,m1,m2,m3,m4,m5,m6,m7,m8,m9,m10,m11,m12,m13⟩,m14,m15,m16,m17,m18,m19,m20,m21,m22⟩:Mat) (dC 0 (IntKind.i64.wrap ((As (⟨⟨m0,m1,m2,m3,m4,m5,m6,m7,m8,m9,m10,m11,m12,m13⟩,m14,m15,m16,m17,m18,m19,m20,m21,m22⟩:Mat)).runs+1)))).2==0):=by
     show cond (!(m14==3)||(m17.length:Int)==0) _ _=_
     rw [hp]
     rfl
    simp only [PXb,PXc,PXn,PXm,Nat.reduceAdd,Int.reduceBEq,nH,WHV,rv]
set_option maxHeartbeats 400000 in
theorem mf {N:Nat} {m1 m2 m3 m4 m5 m6 m7 m9 m10 m11 m12 m14 m15 m18 m19 m20 m21 m22:Int} {m8 m16:Bool} {m0:ByteArray} {m13:Rows} {m17:List Inn} {k:Int} (hN:2097152<N) (hf:CX m17) (hl:m17.length≤1000000) (hs:m0.size≤1048576) (h13:m13.length≤1048576):MR N [.str m0,.int m1,.int m2,.int m3,.int m4,.int m5,.int m6,.int m7,.bool m8,.int m9,.int m10,.int m11,.int m12,.rows m13,.int m14,.int m15,.bool m16,.rows (AM m17),.int m18,.int m19,.int m20,.int m21,.int m22,.int k]=some [.bool (Yu (⟨⟨m0,m1,m2,m3,m4,m5,m6,m7,m8,m9,m10,m11,m12,m13⟩,m14,m15,m16,m17,m18,m19,m20,m21,m22⟩:Mat) k)]:=by
 show Lr (std (F9 N) N) (xOf _)=_
 have WHV:∀ o r:Int,CL N [.str m0,.int m1,.int m2,.int m3,.int m4,.int m5,.int m6,.int m7,.bool m8,.int m9,.int m10,.int m11,.int m12,.rows m13,.int m14,.int m15,.bool m16,.rows (AM m17),.int m18,.int m19,.int m20,.int m21,.int m22,.int 15,.int 0,.int 0,.int 0,.bool false,.int r,.int o,.int 0,.int 0,.int 0,.int 0,.int 0,.bool false,.int 0,.int 0,.int 0,.int 0,.bool false,.int 0]=some [.int (A7 (⟨⟨m0,m1,m2,m3,m4,m5,m6,m7,m8,m9,m10,m11,m12,m13⟩,m14,m15,m16,m17,m18,m19,m20,m21,m22⟩:Mat) (dC o r)).2]:=fun o r=>cU hN hf hl hs h13
 have NX:KP N [.str m0,.int m1,.int m2,.int m3,.int m4,.int m5,.int m6,.int m7,.bool m8,.int m9,.int m10,.int m11,.int m12,.rows m13,.int m14,.int m15,.bool m16,.rows (AM m17),.int m18,.int m19,.int m20,.int m21,.int m22]=some [.rows (Dr (⟨⟨m0,m1,m2,m3,m4,m5,m6,m7,m8,m9,m10,m11,m12,m13⟩,m14,m15,m16,m17,m18,m19,m20,m21,m22⟩:Mat))]:=by rw [xo];exact sG hN hf hl hs h13
 have DL:Dk N [.str m0,.int m1,.int m2,.int m3,.int m4,.int m5,.int m6,.int m7,.bool m8,.int m9,.int m10,.int m11,.int m12,.rows m13,.int m14,.int m15,.bool m16,.rows (AM m17),.int m18,.int m19,.int m20,.int m21,.int m22,.int 0]=some [.rows (QD (⟨⟨m0,m1,m2,m3,m4,m5,m6,m7,m8,m9,m10,m11,m12,m13⟩,m14,m15,m16,m17,m18,m19,m20,m21,m22⟩:Mat) 1)]:=gh (r:=0) hN hf hl hs h13 (by omega)
 have AA:=xP (⟨⟨m0,m1,m2,m3,m4,m5,m6,m7,m8,m9,m10,m11,m12,m13⟩,m14,m15,m16,m17,m18,m19,m20,m21,m22⟩:Mat) k
 have nl:(Dr (⟨⟨m0,m1,m2,m3,m4,m5,m6,m7,m8,m9,m10,m11,m12,m13⟩,m14,m15,m16,m17,m18,m19,m20,m21,m22⟩:Mat)).length≤1048576:=by
  have:=A8 (f:=DR (⟨⟨m0,m1,m2,m3,m4,m5,m6,m7,m8,m9,m10,m11,m12,m13⟩,m14,m15,m16,m17,m18,m19,m20,m21,m22⟩:Mat)) (lo:=1) (n:=16) (bF (⟨⟨m0,m1,m2,m3,m4,m5,m6,m7,m8,m9,m10,m11,m12,m13⟩,m14,m15,m16,m17,m18,m19,m20,m21,m22⟩:Mat)) (Nat.le_refl _)
  show (fm (DR (⟨⟨m0,m1,m2,m3,m4,m5,m6,m7,m8,m9,m10,m11,m12,m13⟩,m14,m15,m16,m17,m18,m19,m20,m21,m22⟩:Mat)) 1 16).length≤_
  omega
 simp only [Lr,W3,Wf,P0,std,xOf,PXb,DL,NX,PXi]
 unfold Yu
 generalize QD (⟨⟨m0,m1,m2,m3,m4,m5,m6,m7,m8,m9,m10,m11,m12,m13⟩,m14,m15,m16,m17,m18,m19,m20,m21,m22⟩:Mat) 1=D at *
 generalize DR (⟨⟨m0,m1,m2,m3,m4,m5,m6,m7,m8,m9,m10,m11,m12,m13⟩,m14,m15,m16,m17,m18,m19,m20,m21,m22⟩:Mat) k=E at *
 generalize Dr (⟨⟨m0,m1,m2,m3,m4,m5,m6,m7,m8,m9,m10,m11,m12,m13⟩,m14,m15,m16,m17,m18,m19,m20,m21,m22⟩:Mat)=X at *
 cases h4:k==4 with
 | true=>simp only [PXb,PXc,PXn,PXm,Nat.reduceAdd,Int.reduceBEq,h4]
 | false =>
  cases h15:k==15 with
  | false =>
   simp only [PXb,PXc,PXn,PXm,Nat.reduceAdd,Int.reduceBEq,h4,h15]
   rw [← AA]
   refine AH (T2 (len:=X.length) (fun i=>[.int (i:Int)]) (fun i=>pvI (AE X i 0)==k) [.int 0,.bool true] [.int 1] ?_ ?_ N (by omega)) ?_
   ·intro self
    simp only [PXb,PXc,PXn,AB,Au]
   ·intro i self hi
    simp only [PXb,PXc,PXn,AB,Aj hi,AQ hi,Int.toNat_natCast,Bz (show i≤1099511627776 by omega)]
   ·cases Ao (fun i=>pvI (AE X i 0)==k) X.length 0<;>rfl
  | true =>
   rw [beq_iff_eq.1 h15]
   cases hp:(!(m14==3)||(m17.length:Int)==0) with
   | true =>
    have rv:pq (⟨⟨m0,m1,m2,m3,m4,m5,m6,m7,m8,m9,m10,m11,m12,m13⟩,m14,m15,m16,m17,m18,m19,m20,m21,m22⟩:Mat)=false:=by
     show cond (!(m14==3)||(m17.length:Int)==0) _ _=_
     rw [hp]
     rfl
    simp only [PXb,PXc,PXn,PXm,Nat.reduceAdd,Int.reduceBEq,hp,rv,Int.reduceBEq]
   | false =>
    have rv:pq (⟨⟨m0,m1,m2,m3,m4,m5,m6,m7,m8,m9,m10,m11,m12,m13⟩,m14,m15,m16,m17,m18,m19,m20,m21,m22⟩:Mat)=((A7 (⟨⟨m0,m1,m2,m3,m4,m5,m6,m7,m8,m9,m10,m11,m12,m13⟩,m14,m15,m16,m17,m18,m19,m20,m21,m22⟩:Mat) (dC (As (⟨⟨m0,m1,m2,m3,m4,m5,m6,m7,m8,m9,m10,m11,m12,m13⟩,m14,m15,m16,m17,m18,m19,m20,m21,m22⟩:Mat)).overs 0)).2==0||(A7 (⟨⟨m0,m1,m2,m3,m4,m5,m6,m7,m8,m9,m10,m11,m12,m13⟩,m14,m15,m16,m17,m18,m19,m20,m21,m22⟩:Mat) (dC 0 (IntKind.i64.wrap ((As (⟨⟨m0,m1,m2,m3,m4,m5,m6,m7,m8,m9,m10,m11,m12,m13⟩,m14,m15,m16,m17,m18,m19,m20,m21,m22⟩:Mat)).runs+1)))).2==0):=by
     show cond (!(m14==3)||(m17.length:Int)==0) _ _=_
     rw [hp]
     rfl
    have h0:((m17.length:Int)==0)=false:=(Bool.or_eq_false_iff.1 hp).2
    have ov:pvI (AE (AM m17) (IntKind.i64.wrap ((m17.length:Int) - 1)).toNat 2)=(As (⟨⟨m0,m1,m2,m3,m4,m5,m6,m7,m8,m9,m10,m11,m12,m13⟩,m14,m15,m16,m17,m18,m19,m20,m21,m22⟩:Mat)).overs:=by simp only [PXi];rfl
    have ru:pvI (AE (AM m17) (IntKind.i64.wrap ((m17.length:Int) - 1)).toNat 3)=(As (⟨⟨m0,m1,m2,m3,m4,m5,m6,m7,m8,m9,m10,m11,m12,m13⟩,m14,m15,m16,m17,m18,m19,m20,m21,m22⟩:Mat)).runs:=by simp only [PXi];rfl
    simp only [PXb,PXc,PXn,PXm,Nat.reduceAdd,Int.reduceBEq,hp,rv,Int.reduceBEq,KV h0 hl,PXi,WHV,As,lnx]
set_option maxHeartbeats 400000 in
theorem au {N:Nat} {m1 m2 m3 m4 m5 m6 m7 m9 m10 m11 m12 m14 m15 m18 m19 m20 m21 m22:Int} {m8 m16:Bool} {m0:ByteArray} {m13:Rows} {m17:List Inn} {k:Int} {l:Int} (ha:LU N []=some [.bool true]) (hN:2097152<N) (hs:m0.size≤1048576):Dw N [.str m0,.int m1,.int m2,.int m3,.int m4,.int m5,.int m6,.int m7,.bool m8,.int m9,.int m10,.int m11,.int m12,.rows m13,.int m14,.int m15,.bool m16,.rows (AM m17),.int m18,.int m19,.int m20,.int m21,.int m22,.int k,.int l]=some [.bool true]:=by
 show D5 (std (A2 N) N) (xOf _)=_
 have nn:(so (⟨⟨m0,m1,m2,m3,m4,m5,m6,m7,m8,m9,m10,m11,m12,m13⟩,m14,m15,m16,m17,m18,m19,m20,m21,m22⟩:Mat)).rules.name.size≤1048576:=oE (⟨⟨m0,m1,m2,m3,m4,m5,m6,m7,m8,m9,m10,m11,m12,m13⟩,m14,m15,m16,m17,m18,m19,m20,m21,m22⟩:Mat).rules hs
 have pp:(so (⟨⟨m0,m1,m2,m3,m4,m5,m6,m7,m8,m9,m10,m11,m12,m13⟩,m14,m15,m16,m17,m18,m19,m20,m21,m22⟩:Mat)).rules.power.length≤1048576:=mc (⟨⟨m0,m1,m2,m3,m4,m5,m6,m7,m8,m9,m10,m11,m12,m13⟩,m14,m15,m16,m17,m18,m19,m20,m21,m22⟩:Mat).rules
 have ok:=xM (m:=(⟨⟨m0,m1,m2,m3,m4,m5,m6,m7,m8,m9,m10,m11,m12,m13⟩,m14,m15,m16,m17,m18,m19,m20,m21,m22⟩:Mat))
 have hl:=Nat.le_trans ok.len (show 5≤1000000 by omega)
 simp only [D5,QE,SK,PR,My,PD,Rq,std,xOf,PXb,PXc,PXn,PXm,Nat.reduceAdd,Int.reduceBEq,ha,uG hN,PXk,hP hN ok.fit hl nn pp,mf hN ok.fit hl nn pp,vO,cg,beq_self_eq_true]
end Go.Px
end
