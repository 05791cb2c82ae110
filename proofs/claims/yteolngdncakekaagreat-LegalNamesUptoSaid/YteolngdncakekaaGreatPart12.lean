/- Part 12. -/
import Derived.Test.YteolngdncakekaaGreatPart11
import Derived.KernelRfl
set_option linter.unusedVariables false
set_option linter.unusedSimpArgs false
section
namespace Go.Px
set_option maxRecDepth 100000
theorem aB {N:Nat} (l:Int):BL N [.int l]=BL 0 [.int l]:=rfl
def J6 (l:Int):ByteArray:=match BL 0 [.int l] with
 | some [.str s]=>s
 | _=>ByteArray.empty
theorem SC {N:Nat} (l:Int):BL N [.int l]=some [.str (J6 l)]:=by
 rw [aB]
 have:∃ s,BL 0 [.int l]=some [.str s]:=by
  show ∃ s,Jg (std (Pn 0) 0) (xOf _)=some [.str s]
  simp only [Jg,std,xOf,PXb,PXc,PXn,PXm,Nat.reduceAdd,Int.reduceBEq]
  cases h:(iLt l 0||iLe ((27:Nat):Int) l) with
  | true=>exact ⟨_,by simp only [List.length_cons,List.length_nil,Nat.reduceAdd,h,cond_true];rfl⟩
  | false =>
   have hi:iIn l ((27:Nat):Int)=true:=by
    simp only [iLt,iLe,Bool.or_eq_false_iff,decide_eq_false_iff_not] at h
    simp only [iIn,decide_eq_true_eq]
    omega
   exact ⟨_,by simp only [List.length_cons,List.length_nil,Nat.reduceAdd,h,cond_false,hi,cond_true];rfl⟩
 obtain ⟨s,hs⟩:=this
 unfold J6
 rw [hs]
def WD:Rul:=⟨⟨#[84,87,79]⟩,2,1,1,4,0,1,1,false,0,0,0,0,[]⟩
def UF:Mat:=⟨WD,1,0,false,[],0,0,0,0,0⟩
def UN:Mat:=⟨WD,2,1,false,[],0,0,0,0,0⟩
def evN (k s p o:Int) (y:Bool):List PV:=[.int k,.int s,.int p,.int o,.bool y,.int 0,.int 0,.int 0,.int 0,.int 0,.int 0,.int 0,.bool false,.int 0,.int 0,.int 0,.int 0,.bool false,.int 0]
theorem em:X0 WD=(UF,0):=by kernel_rfl
theorem eS:Sa UF=[evN 1 1 0 0 false,evN 1 1 0 0 true,evN 1 2 0 0 false,evN 1 2 0 0 true,evN 16 0 0 0 false]:=by kernel_rfl
theorem eU:Gp UF (evK 1 1 0 0 true 0)=(UN,0):=by kernel_rfl
theorem cx:Sa UN=[evN 2 0 1 2 false,evN 2 0 2 1 false,evN 16 0 0 0 false]:=by kernel_rfl
theorem eu:(Gp UN (evK 1 1 0 0 true 0)).2=1:=by kernel_rfl
theorem eJ {N:Nat}:Lr N []=some [.str ⟨#[84,87,79]⟩,.int 2,.int 1,.int 1,.int 4,.int 0,.int 1,.int 1,.bool false,.int 0,.int 0,.int 0,.int 0,.rows []]:=rfl
theorem dk:J6 1=⟨#[80,72,65,83,69]⟩:=by kernel_rfl
set_option maxHeartbeats 1000000 in
theorem Yk:GY 4194304 []=some [.bool true]:=by
 have hN:2097152<4194304:=by omega
 have hs:WD.name.size≤1048576:=by decide
 have hf:HP ([]:List Inn):=fun i hi=>absurd hi (Nat.not_lt_zero _)
 have k1:Es 4194304 WD.ls=some (QI (X0 WD)):=Yl hN hs (Nat.zero_le _)
 have k2:CD 4194304 UF.ls=some [.rows (Sa UF)]:=Rg hN hf (Nat.zero_le _) hs (Nat.zero_le _)
 have k3:Bs 4194304 (UF.ls++evN 1 1 0 0 true)=some (QI (Gp UF (evK 1 1 0 0 true 0))):=RY hN hf (Nat.zero_le _) hs (Nat.zero_le _)
 have k4:CD 4194304 UN.ls=some [.rows (Sa UN)]:=Rg hN hf (Nat.zero_le _) hs (Nat.zero_le _)
 have k5:CB 4194304 (UN.ls++evN 1 1 0 0 true)=some [.int (Gp UN (evK 1 1 0 0 true 0)).2]:=TF hN hf (Nat.zero_le _) hs (Nat.zero_le _)
 have k6:=SC (N:=4194304) 1
 rw [em] at k1
 rw [eS] at k2
 rw [eU] at k3
 rw [cx] at k4
 rw [eu] at k5
 rw [dk] at k6
 obtain ⟨R,hR⟩:∃ R:Rows,R=[evN 1 1 0 0 false,evN 1 1 0 0 true,evN 1 2 0 0 false,evN 1 2 0 0 true,evN 16 0 0 0 false]:=⟨_,rfl⟩
 obtain ⟨Q,hQ⟩:∃ Q:Rows,Q=[evN 2 0 1 2 false,evN 2 0 2 1 false,evN 16 0 0 0 false]:=⟨_,rfl⟩
 rw [← hR] at k2
 rw [← hQ] at k4
 have lR:R.length=5:=by rw [hR];rfl
 have lQ:Q.length=3:=by rw [hQ];rfl
 have f0_0:pvI (AD R 0 0)=1:=by rw [hR];rfl
 have f0_1:pvI (AD R 0 1)=1:=by rw [hR];rfl
 have f0_2:pvI (AD R 0 2)=0:=by rw [hR];rfl
 have f0_3:pvI (AD R 0 3)=0:=by rw [hR];rfl
 have f0_4:pvB (AD R 0 4)=false:=by rw [hR];rfl
 have f0_5:pvI (AD R 0 5)=0:=by rw [hR];rfl
 have f0_6:pvI (AD R 0 6)=0:=by rw [hR];rfl
 have f0_7:pvI (AD R 0 7)=0:=by rw [hR];rfl
 have f0_8:pvI (AD R 0 8)=0:=by rw [hR];rfl
 have f0_9:pvI (AD R 0 9)=0:=by rw [hR];rfl
 have f0_10:pvI (AD R 0 10)=0:=by rw [hR];rfl
 have f0_11:pvI (AD R 0 11)=0:=by rw [hR];rfl
 have f0_12:pvB (AD R 0 12)=false:=by rw [hR];rfl
 have f0_13:pvI (AD R 0 13)=0:=by rw [hR];rfl
 have f0_14:pvI (AD R 0 14)=0:=by rw [hR];rfl
 have f0_15:pvI (AD R 0 15)=0:=by rw [hR];rfl
 have f0_16:pvI (AD R 0 16)=0:=by rw [hR];rfl
 have f0_17:pvB (AD R 0 17)=false:=by rw [hR];rfl
 have f0_18:pvI (AD R 0 18)=0:=by rw [hR];rfl
 have f1_0:pvI (AD R 1 0)=1:=by rw [hR];rfl
 have f1_1:pvI (AD R 1 1)=1:=by rw [hR];rfl
 have f1_2:pvI (AD R 1 2)=0:=by rw [hR];rfl
 have f1_3:pvI (AD R 1 3)=0:=by rw [hR];rfl
 have f1_4:pvB (AD R 1 4)=true:=by rw [hR];rfl
 have f1_5:pvI (AD R 1 5)=0:=by rw [hR];rfl
 have f1_6:pvI (AD R 1 6)=0:=by rw [hR];rfl
 have f1_7:pvI (AD R 1 7)=0:=by rw [hR];rfl
 have f1_8:pvI (AD R 1 8)=0:=by rw [hR];rfl
 have f1_9:pvI (AD R 1 9)=0:=by rw [hR];rfl
 have f1_10:pvI (AD R 1 10)=0:=by rw [hR];rfl
 have f1_11:pvI (AD R 1 11)=0:=by rw [hR];rfl
 have f1_12:pvB (AD R 1 12)=false:=by rw [hR];rfl
 have f1_13:pvI (AD R 1 13)=0:=by rw [hR];rfl
 have f1_14:pvI (AD R 1 14)=0:=by rw [hR];rfl
 have f1_15:pvI (AD R 1 15)=0:=by rw [hR];rfl
 have f1_16:pvI (AD R 1 16)=0:=by rw [hR];rfl
 have f1_17:pvB (AD R 1 17)=false:=by rw [hR];rfl
 have f1_18:pvI (AD R 1 18)=0:=by rw [hR];rfl
 have f4_0:pvI (AD R 4 0)=16:=by rw [hR];rfl
 have f4_1:pvI (AD R 4 1)=0:=by rw [hR];rfl
 have f4_2:pvI (AD R 4 2)=0:=by rw [hR];rfl
 have f4_3:pvI (AD R 4 3)=0:=by rw [hR];rfl
 have f4_4:pvB (AD R 4 4)=false:=by rw [hR];rfl
 have f4_5:pvI (AD R 4 5)=0:=by rw [hR];rfl
 have f4_6:pvI (AD R 4 6)=0:=by rw [hR];rfl
 have f4_7:pvI (AD R 4 7)=0:=by rw [hR];rfl
 have f4_8:pvI (AD R 4 8)=0:=by rw [hR];rfl
 have f4_9:pvI (AD R 4 9)=0:=by rw [hR];rfl
 have f4_10:pvI (AD R 4 10)=0:=by rw [hR];rfl
 have f4_11:pvI (AD R 4 11)=0:=by rw [hR];rfl
 have f4_12:pvB (AD R 4 12)=false:=by rw [hR];rfl
 have f4_13:pvI (AD R 4 13)=0:=by rw [hR];rfl
 have f4_14:pvI (AD R 4 14)=0:=by rw [hR];rfl
 have f4_15:pvI (AD R 4 15)=0:=by rw [hR];rfl
 have f4_16:pvI (AD R 4 16)=0:=by rw [hR];rfl
 have f4_17:pvB (AD R 4 17)=false:=by rw [hR];rfl
 have f4_18:pvI (AD R 4 18)=0:=by rw [hR];rfl
 clear hR hQ
 change Es 4194304 [.str ⟨#[84,87,79]⟩,.int 2,.int 1,.int 1,.int 4,.int 0,.int 1,.int 1,.bool false,.int 0,.int 0,.int 0,.int 0,.rows []]=some [.str ⟨#[84,87,79]⟩,.int 2,.int 1,.int 1,.int 4,.int 0,.int 1,.int 1,.bool false,.int 0,.int 0,.int 0,.int 0,.rows [],.int 1,.int 0,.bool false,.rows [],.int 0,.int 0,.int 0,.int 0,.int 0,.int 0] at k1
 change CD 4194304 [.str ⟨#[84,87,79]⟩,.int 2,.int 1,.int 1,.int 4,.int 0,.int 1,.int 1,.bool false,.int 0,.int 0,.int 0,.int 0,.rows [],.int 1,.int 0,.bool false,.rows [],.int 0,.int 0,.int 0,.int 0,.int 0]=some [.rows R] at k2
 change Bs 4194304 [.str ⟨#[84,87,79]⟩,.int 2,.int 1,.int 1,.int 4,.int 0,.int 1,.int 1,.bool false,.int 0,.int 0,.int 0,.int 0,.rows [],.int 1,.int 0,.bool false,.rows [],.int 0,.int 0,.int 0,.int 0,.int 0,.int 1,.int 1,.int 0,.int 0,.bool true,.int 0,.int 0,.int 0,.int 0,.int 0,.int 0,.int 0,.bool false,.int 0,.int 0,.int 0,.int 0,.bool false,.int 0]=some [.str ⟨#[84,87,79]⟩,.int 2,.int 1,.int 1,.int 4,.int 0,.int 1,.int 1,.bool false,.int 0,.int 0,.int 0,.int 0,.rows [],.int 2,.int 1,.bool false,.rows [],.int 0,.int 0,.int 0,.int 0,.int 0,.int 0] at k3
 change CD 4194304 [.str ⟨#[84,87,79]⟩,.int 2,.int 1,.int 1,.int 4,.int 0,.int 1,.int 1,.bool false,.int 0,.int 0,.int 0,.int 0,.rows [],.int 2,.int 1,.bool false,.rows [],.int 0,.int 0,.int 0,.int 0,.int 0]=some [.rows Q] at k4
 change CB 4194304 [.str ⟨#[84,87,79]⟩,.int 2,.int 1,.int 1,.int 4,.int 0,.int 1,.int 1,.bool false,.int 0,.int 0,.int 0,.int 0,.rows [],.int 2,.int 1,.bool false,.rows [],.int 0,.int 0,.int 0,.int 0,.int 0,.int 1,.int 1,.int 0,.int 0,.bool true,.int 0,.int 0,.int 0,.int 0,.int 0,.int 0,.int 0,.bool false,.int 0,.int 0,.int 0,.int 0,.bool false,.int 0]=some [.int 1] at k5
 have t0:(0:Int).toNat=0:=rfl
 have t1:(1:Int).toNat=1:=rfl
 have t4:(4:Int).toNat=4:=rfl
 have c5:((5:Nat):Int)=5:=rfl
 have c3:((3:Nat):Int)=3:=rfl
 have i0:iIn 0 5=true:=by decide
 have i1:iIn 1 5=true:=by decide
 have i4:iIn 4 5=true:=by decide
 show LR (std (CM 4194304) 4194304) (xOf [])=_
 simp only [LR,O6,PB,O3,PL,PY,Q7,std,xOf,PXb,PXc,PXn,PXm,Nat.reduceAdd,Int.reduceBEq,eJ,k1,k2,lR,lQ,t0,t1,t4,c5,c3,i0,i1,i4,f0_0,f0_1,f0_2,f0_3,f0_4,f0_5,f0_6,f0_7,f0_8,f0_9,f0_10,f0_11,f0_12,f0_13,f0_14,f0_15,f0_16,f0_17,f0_18,f1_0,f1_1,f1_2,f1_3,f1_4,f1_5,f1_6,f1_7,f1_8,f1_9,f1_10,f1_11,f1_12,f1_13,f1_14,f1_15,f1_16,f1_17,f1_18,f4_0,f4_1,f4_2,f4_3,f4_4,f4_5,f4_6,f4_7,f4_8,f4_9,f4_10,f4_11,f4_12,f4_13,f4_14,f4_15,f4_16,f4_17,f4_18,k3,k4,k5,k6,beq_self_eq_true,Int.reduceBEq]
end Go.Px
end
section
namespace Go.Px
set_option maxRecDepth 100000
def Xr:ByteArray:=⟨#[]⟩
def cW:Bool:=(List.range 27).all fun x => !((J6 (x:Int)).toList==Xr.toList)&&(List.range 27).all fun y=>((J6 (x:Int)).toList==(J6 (y:Int)).toList)==((x:Int)==(y:Int))
theorem eI:cW=true:=by kernel_rfl
theorem ck:J6 27=Xr:=by kernel_rfl
theorem eC:J6 (-1)=Xr:=by kernel_rfl
theorem dD {x y:Int} (hx:0≤x∧x<27) (hy:0≤y∧y<27):((J6 x).toList==Xr.toList)=false∧(((J6 x).toList==(J6 y).toList)==(x==y))=true:=by
 have t:=eI
 unfold cW at t
 rw [List.all_eq_true] at t
 have t1:=t x.toNat (List.mem_range.2 (by omega))
 rw [show ((x.toNat:Nat):Int)=x by omega,Bool.and_eq_true,Bool.not_eq_true',List.all_eq_true] at t1
 have t2:=t1.2 y.toNat (List.mem_range.2 (by omega))
 rw [show ((y.toNat:Nat):Int)=y by omega] at t2
 exact ⟨t1.1,t2⟩
theorem cU {a:Int} (h:0≤a):0≤IntKind.i64.wrap (a.tmod 27)∧IntKind.i64.wrap (a.tmod 27)<27:=by
 rw [Int.tmod_eq_emod_of_nonneg h,F8 (by omega) (by omega)]
 omega
set_option maxHeartbeats 1000000 in
theorem To {N:Nat} {a:Int} {b:Int} (ha:GY N []=some [.bool true]) (ra:0≤a∧a≤255) (rb:0≤b∧b≤255):Fx N [.int a,.int b]=some [.bool true]:=by
 show F1 (std (En N) N) (xOf _)=_
 have nz:(⟨#[]⟩:ByteArray)=Xr:=rfl
 simp only [F1,MA,Ls,std,xOf,PXb,PXc,PXn,PXm,Nat.reduceAdd,Int.reduceBEq,ha,SC,ck,eC,nz]
 have x:=cU ra.1
 have y:=cU rb.1
 generalize IntKind.i64.wrap (a.tmod 27)=X at *
 generalize IntKind.i64.wrap (b.tmod 27)=Y at *
 obtain ⟨n1,n2⟩:=dD x y
 simp only [n1,Bool.not_false,cond_true,n2,beq_self_eq_true,Bool.and_self]
end Go.Px
end
