/- Part 14. -/
import Derived.Test.YteolngdncakekaaGreatPart13
import Derived.KernelRfl
set_option linter.unusedVariables false
set_option linter.unusedSimpArgs false
section
namespace Go.Px
set_option maxRecDepth 100000
theorem sX {N:Nat} (l:Int):DE N [.int l]=DE 0 [.int l]:=rfl
def rJ (l:Int):ByteArray:=match DE 0 [.int l] with
 | some [.str s]=>s
 | _=>ByteArray.empty
theorem ni {N:Nat} (l:Int):DE N [.int l]=some [.str (rJ l)]:=by
 rw [sX]
 have:∃ s,DE 0 [.int l]=some [.str s]:=by
  show ∃ s,Ob (std (W5 0) 0) (xOf _)=some [.str s]
  simp only [Ob,std,xOf,PXb,PXc,PXn,PXm,Nat.reduceAdd,Int.reduceBEq]
  cases h:(iLt l 0||iLe ((27:Nat):Int) l) with
  | true=>exact ⟨_,by simp only [List.length_cons,List.length_nil,Nat.reduceAdd,h,cond_true];rfl⟩
  | false =>
   have hi:iIn l ((27:Nat):Int)=true:=by
    simp only [iLt,iLe,Bool.or_eq_false_iff,decide_eq_false_iff_not] at h
    simp only [iIn,decide_eq_true_eq]
    omega
   exact ⟨_,by simp only [List.length_cons,List.length_nil,Nat.reduceAdd,h,cond_false,hi,cond_true];rfl⟩
 obtain ⟨s,hs⟩:=this
 unfold rJ
 rw [hs]
def jc:Rul:=⟨⟨#[84,87,79]⟩,2,1,1,4,0,1,1,false,0,0,0,0,[]⟩
def fA:Mat:=⟨jc,1,0,false,[],0,0,0,0,0⟩
def fP:Mat:=⟨jc,2,1,false,[],0,0,0,0,0⟩
def evN (k s p o:Int) (y:Bool):List PV:=[.int k,.int s,.int p,.int o,.bool y,.int 0,.int 0,.int 0,.int 0,.int 0,.int 0,.int 0,.bool false,.int 0,.int 0,.int 0,.int 0,.bool false,.int 0]
theorem xM:oX jc=(fA,0):=by kernel_rfl
theorem we:cM fA=[evN 1 1 0 0 false,evN 1 1 0 0 true,evN 1 2 0 0 false,evN 1 2 0 0 true,evN 16 0 0 0 false]:=by kernel_rfl
theorem xA:CG fA (evK 1 1 0 0 true 0)=(fP,0):=by kernel_rfl
theorem v4:cM fP=[evN 2 0 1 2 false,evN 2 0 2 1 false,evN 16 0 0 0 false]:=by kernel_rfl
theorem xH:(CG fP (evK 1 1 0 0 true 0)).2=1:=by kernel_rfl
theorem wz {N:Nat}:Qm N []=some [.str ⟨#[84,87,79]⟩,.int 2,.int 1,.int 1,.int 4,.int 0,.int 1,.int 1,.bool false,.int 0,.int 0,.int 0,.int 0,.rows []]:=rfl
theorem wd:rJ 1=⟨#[80,72,65,83,69]⟩:=by kernel_rfl
set_option maxHeartbeats 1000000 in
theorem pG:LP 4194304 []=some [.bool true]:=by
 have hN:2097152<4194304:=by omega
 have hs:jc.name.size≤1048576:=by decide
 have hf:Cr ([]:List Inn):=fun i hi=>absurd hi (Nat.not_lt_zero _)
 have k1:GJ 4194304 jc.ls=some (Li (oX jc)):=og hN hs (Nat.zero_le _)
 have k2:DC 4194304 fA.ls=some [.rows (cM fA)]:=aY hN hf (Nat.zero_le _) hs (Nat.zero_le _)
 have k3:Cp 4194304 (fA.ls++evN 1 1 0 0 true)=some (Li (CG fA (evK 1 1 0 0 true 0))):=bZ hN hf (Nat.zero_le _) hs (Nat.zero_le _)
 have k4:DC 4194304 fP.ls=some [.rows (cM fP)]:=aY hN hf (Nat.zero_le _) hs (Nat.zero_le _)
 have k5:B6 4194304 (fP.ls++evN 1 1 0 0 true)=some [.int (CG fP (evK 1 1 0 0 true 0)).2]:=Vk hN hf (Nat.zero_le _) hs (Nat.zero_le _)
 have k6:=ni (N:=4194304) 1
 rw [xM] at k1
 rw [we] at k2
 rw [xA] at k3
 rw [v4] at k4
 rw [xH] at k5
 rw [wd] at k6
 obtain ⟨R,hR⟩:∃ R:Rows,R=[evN 1 1 0 0 false,evN 1 1 0 0 true,evN 1 2 0 0 false,evN 1 2 0 0 true,evN 16 0 0 0 false]:=⟨_,rfl⟩
 obtain ⟨Q,hQ⟩:∃ Q:Rows,Q=[evN 2 0 1 2 false,evN 2 0 2 1 false,evN 16 0 0 0 false]:=⟨_,rfl⟩
 rw [← hR] at k2
 rw [← hQ] at k4
 have lR:R.length=5:=by rw [hR];rfl
 have lQ:Q.length=3:=by rw [hQ];rfl
 have f0_0:pvI (AD R 0 0)=1:=by rw [hR];rfl
 have f0_1:pvI (AD R 0 1)=1:=by rw [hR];rfl
 have f0_2:pvI (AD R 0 2)=0:=by rw [hR];rfl
 have f0_3:pvI (AD R 0 3)=0:=by rw [hR];rfl
 have f0_4:pvB (AD R 0 4)=false:=by rw [hR];rfl
 have f0_5:pvI (AD R 0 5)=0:=by rw [hR];rfl
 have f0_6:pvI (AD R 0 6)=0:=by rw [hR];rfl
 have f0_7:pvI (AD R 0 7)=0:=by rw [hR];rfl
 have f0_8:pvI (AD R 0 8)=0:=by rw [hR];rfl
 have f0_9:pvI (AD R 0 9)=0:=by rw [hR];rfl
 have f0_10:pvI (AD R 0 10)=0:=by rw [hR];rfl
 have f0_11:pvI (AD R 0 11)=0:=by rw [hR];rfl
 have f0_12:pvB (AD R 0 12)=false:=by rw [hR];rfl
 have f0_13:pvI (AD R 0 13)=0:=by rw [hR];rfl
 have f0_14:pvI (AD R 0 14)=0:=by rw [hR];rfl
 have f0_15:pvI (AD R 0 15)=0:=by rw [hR];rfl
 have f0_16:pvI (AD R 0 16)=0:=by rw [hR];rfl
 have f0_17:pvB (AD R 0 17)=false:=by rw [hR];rfl
 have f0_18:pvI (AD R 0 18)=0:=by rw [hR];rfl
 have f1_0:pvI (AD R 1 0)=1:=by rw [hR];rfl
 have f1_1:pvI (AD R 1 1)=1:=by rw [hR];rfl
 have f1_2:pvI (AD R 1 2)=0:=by rw [hR];rfl
 have f1_3:pvI (AD R 1 3)=0:=by rw [hR];rfl
 have f1_4:pvB (AD R 1 4)=true:=by rw [hR];rfl
 have f1_5:pvI (AD R 1 5)=0:=by rw [hR];rfl
 have f1_6:pvI (AD R 1 6)=0:=by rw [hR];rfl
 have f1_7:pvI (AD R 1 7)=0:=by rw [hR];rfl
 have f1_8:pvI (AD R 1 8)=0:=by rw [hR];rfl
 have f1_9:pvI (AD R 1 9)=0:=by rw [hR];rfl
 have f1_10:pvI (AD R 1 10)=0:=by rw [hR];rfl
 have f1_11:pvI (AD R 1 11)=0:=by rw [hR];rfl
 have f1_12:pvB (AD R 1 12)=false:=by rw [hR];rfl
 have f1_13:pvI (AD R 1 13)=0:=by rw [hR];rfl
 have f1_14:pvI (AD R 1 14)=0:=by rw [hR];rfl
 have f1_15:pvI (AD R 1 15)=0:=by rw [hR];rfl
 have f1_16:pvI (AD R 1 16)=0:=by rw [hR];rfl
 have f1_17:pvB (AD R 1 17)=false:=by rw [hR];rfl
 have f1_18:pvI (AD R 1 18)=0:=by rw [hR];rfl
 have f4_0:pvI (AD R 4 0)=16:=by rw [hR];rfl
 have f4_1:pvI (AD R 4 1)=0:=by rw [hR];rfl
 have f4_2:pvI (AD R 4 2)=0:=by rw [hR];rfl
 have f4_3:pvI (AD R 4 3)=0:=by rw [hR];rfl
 have f4_4:pvB (AD R 4 4)=false:=by rw [hR];rfl
 have f4_5:pvI (AD R 4 5)=0:=by rw [hR];rfl
 have f4_6:pvI (AD R 4 6)=0:=by rw [hR];rfl
 have f4_7:pvI (AD R 4 7)=0:=by rw [hR];rfl
 have f4_8:pvI (AD R 4 8)=0:=by rw [hR];rfl
 have f4_9:pvI (AD R 4 9)=0:=by rw [hR];rfl
 have f4_10:pvI (AD R 4 10)=0:=by rw [hR];rfl
 have f4_11:pvI (AD R 4 11)=0:=by rw [hR];rfl
 have f4_12:pvB (AD R 4 12)=false:=by rw [hR];rfl
 have f4_13:pvI (AD R 4 13)=0:=by rw [hR];rfl
 have f4_14:pvI (AD R 4 14)=0:=by rw [hR];rfl
 have f4_15:pvI (AD R 4 15)=0:=by rw [hR];rfl
 have f4_16:pvI (AD R 4 16)=0:=by rw [hR];rfl
 have f4_17:pvB (AD R 4 17)=false:=by rw [hR];rfl
 have f4_18:pvI (AD R 4 18)=0:=by rw [hR];rfl
 clear hR hQ
 change GJ 4194304 [.str ⟨#[84,87,79]⟩,.int 2,.int 1,.int 1,.int 4,.int 0,.int 1,.int 1,.bool false,.int 0,.int 0,.int 0,.int 0,.rows []]=some [.str ⟨#[84,87,79]⟩,.int 2,.int 1,.int 1,.int 4,.int 0,.int 1,.int 1,.bool false,.int 0,.int 0,.int 0,.int 0,.rows [],.int 1,.int 0,.bool false,.rows [],.int 0,.int 0,.int 0,.int 0,.int 0,.int 0] at k1
 change DC 4194304 [.str ⟨#[84,87,79]⟩,.int 2,.int 1,.int 1,.int 4,.int 0,.int 1,.int 1,.bool false,.int 0,.int 0,.int 0,.int 0,.rows [],.int 1,.int 0,.bool false,.rows [],.int 0,.int 0,.int 0,.int 0,.int 0]=some [.rows R] at k2
 change Cp 4194304 [.str ⟨#[84,87,79]⟩,.int 2,.int 1,.int 1,.int 4,.int 0,.int 1,.int 1,.bool false,.int 0,.int 0,.int 0,.int 0,.rows [],.int 1,.int 0,.bool false,.rows [],.int 0,.int 0,.int 0,.int 0,.int 0,.int 1,.int 1,.int 0,.int 0,.bool true,.int 0,.int 0,.int 0,.int 0,.int 0,.int 0,.int 0,.bool false,.int 0,.int 0,.int 0,.int 0,.bool false,.int 0]=some [.str ⟨#[84,87,79]⟩,.int 2,.int 1,.int 1,.int 4,.int 0,.int 1,.int 1,.bool false,.int 0,.int 0,.int 0,.int 0,.rows [],.int 2,.int 1,.bool false,.rows [],.int 0,.int 0,.int 0,.int 0,.int 0,.int 0] at k3
 change DC 4194304 [.str ⟨#[84,87,79]⟩,.int 2,.int 1,.int 1,.int 4,.int 0,.int 1,.int 1,.bool false,.int 0,.int 0,.int 0,.int 0,.rows [],.int 2,.int 1,.bool false,.rows [],.int 0,.int 0,.int 0,.int 0,.int 0]=some [.rows Q] at k4
 change B6 4194304 [.str ⟨#[84,87,79]⟩,.int 2,.int 1,.int 1,.int 4,.int 0,.int 1,.int 1,.bool false,.int 0,.int 0,.int 0,.int 0,.rows [],.int 2,.int 1,.bool false,.rows [],.int 0,.int 0,.int 0,.int 0,.int 0,.int 1,.int 1,.int 0,.int 0,.bool true,.int 0,.int 0,.int 0,.int 0,.int 0,.int 0,.int 0,.bool false,.int 0,.int 0,.int 0,.int 0,.bool false,.int 0]=some [.int 1] at k5
 have t0:(0:Int).toNat=0:=rfl
 have t1:(1:Int).toNat=1:=rfl
 have t4:(4:Int).toNat=4:=rfl
 have c5:((5:Nat):Int)=5:=rfl
 have c3:((3:Nat):Int)=3:=rfl
 have i0:iIn 0 5=true:=by decide
 have i1:iIn 1 5=true:=by decide
 have i4:iIn 4 5=true:=by decide
 show P9 (std (DL 4194304) 4194304) (xOf [])=_
 simp only [P9,WS,V1,Vt,Xa,WV,Zf,std,xOf,PXb,PXc,PXn,PXm,Nat.reduceAdd,Int.reduceBEq,wz,k1,k2,lR,lQ,t0,t1,t4,c5,c3,i0,i1,i4,f0_0,f0_1,f0_2,f0_3,f0_4,f0_5,f0_6,f0_7,f0_8,f0_9,f0_10,f0_11,f0_12,f0_13,f0_14,f0_15,f0_16,f0_17,f0_18,f1_0,f1_1,f1_2,f1_3,f1_4,f1_5,f1_6,f1_7,f1_8,f1_9,f1_10,f1_11,f1_12,f1_13,f1_14,f1_15,f1_16,f1_17,f1_18,f4_0,f4_1,f4_2,f4_3,f4_4,f4_5,f4_6,f4_7,f4_8,f4_9,f4_10,f4_11,f4_12,f4_13,f4_14,f4_15,f4_16,f4_17,f4_18,k3,k4,k5,k6,beq_self_eq_true,Int.reduceBEq]
end Go.Px
end
section
namespace Go.Px
set_option maxRecDepth 100000
def evB (d:Del):Ev:=⟨4,0,0,0,false,0,0,d⟩
def Ae (t s n b:Int) (x:Bool) (h v f:Int):Del:=⟨t,s,n,0,b,x,h,v,f,0,false,0⟩
def VT (x:List PV):Del:=⟨pvI (AH x 0),pvI (AH x 1),pvI (AH x 2),pvI (AH x 3),pvI (AH x 4),pvB (AH x 5),pvI (AH x 6),pvI (AH x 7),pvI (AH x 8),pvI (AH x 9),pvB (AH x 10),pvI (AH x 11)⟩
def GQ (m:Mat) (d:Del):Bool:=(CG m (evB d)).2==0
structure AccD (m:Mat) (d:Del):Prop where
 stage:(m.stage==3)=true
 some':((m.inns.length:Int)==0)=false
 valid:Bi m=true
 legal:(Au d==0)=true
 poss:(A5 d (BC m).freehit==0)=true
 poss0:(A5 d false==0)=true
 type:1≤d.type∧d.type≤3
 source:d.source≤3
 how:d.how≤10
 runs:0≤d.runs∧d.runs≤7
 boundary:d.boundary=0∨d.boundary=4∨d.boundary=6
 victim:0≤d.victim∧d.victim≤2
 fielder:0≤d.fielder∧d.fielder≤11
theorem sN {d:Del} {b:Bool} (h:(A5 d b==0)=true):(A5 d false==0)=true:=by
 unfold A5 at h ⊢
 cases h0:d.how==0 with
 | true=>rw [h0] at h;exact h
 | false =>
  rw [h0] at h
  simp only [cond_false] at h ⊢
  cases ho:onS d.how d.type with
  | false=>rw [ho] at h;cases h
  | true =>
   rw [ho] at h
   cases hb:(b && !YD d.how) with
   | true=>rw [hb] at h;cases h
   | false =>
    rw [hb] at h
    exact h
theorem gq {m:Mat} {d:Del} (h:GQ m d=true):AccD m d:=by
 obtain ⟨h1,h2,h3,h4,h5⟩:=oB h
 obtain ⟨g1,g2,g3,g4⟩:=qf h rfl
 obtain ⟨hv,he,hn,hw,hp,hs⟩:=wE g3
 have hpb:B9 m.rules (BC m) (evB d)=Kc m.rules (BC m) d:=rfl
 rw [hpb] at hp
 obtain ⟨q1,q2,q3,q4,q5,q6⟩:=tW (wJ hp).1
 have ne:=beq_iff_eq.1 h2
 unfold evS at ne
 have z:(cond (Zu (evB d)) 1 (cond (V3 (evB d)) 2 (Qa d)):Int)=0:=ne
 have no:Qa d=0:=by
  cases e1:Zu (evB d) with
  | true=>rw [e1] at z;cases z
  | false =>
   cases e2:V3 (evB d) with
   | true=>rw [e1,e2] at z;cases z
   | false=>rw [e1,e2] at z;exact z
 unfold Qa at no
 cases k1:(iLt d.type 1||iLt 3 d.type||iLt 3 d.source||iLt 10 d.how) with
 | true=>rw [k1] at no;cases no
 | false =>
  rw [k1] at no
  cases k2:(!btw d.runs 0 7 || !btw d.short 0 d.runs||(!(d.boundary==0) && !(d.boundary==4) && !(d.boundary==6)) || !btw d.victim 0 2 || !btw d.fielder 0 11 || !btw d.second 0 11 || !btw d.sector 0 8) with
  | true=>rw [k2] at no;cases no
  | false =>
   simp only [Bool.or_eq_false_iff,Bool.and_eq_false_iff,Bool.not_eq_false',beq_iff_eq,iLt,iLe,btw,Bool.and_eq_true,decide_eq_true_eq,decide_eq_false_iff_not] at k1 k2
   refine ⟨g1,g2,h1,q4,q5,sN q5,by omega,by omega,by omega,by omega,?_,by omega,by omega⟩
   rcases k2.1.1.1.1.2 with (k | k) | k
   ·exact Or.inl k
   ·exact Or.inr (Or.inl k)
   ·exact Or.inr (Or.inr k)
def J7 (m:Mat) (t s n b:Int) (x:Bool) (h v f:Int):Rows:=cond (GQ m (Ae t s n b x h v f)) [(Ae t s n b x h v f).ls] []
def V6 (g:Int→Int→Int→Rows):Rows:=fm (fun h=>fm (fun v=>fm (fun f=>g h v f) 0 12) 0 3) 0 11
def Va (m:Mat) (R:Nat):Rows:=fm (fun t=>fm (fun s=>fm (fun n=>fm (fun b=>yF true fun x=>V6 (J7 m t s n b x)) 0 7) 0 R) 0 4) 1 3
def flt (q:List PV→Bool):Rows→Rows
 | []=>[]
 | x::D=>cond (q x) [x] []++flt q D
theorem jq (q:List PV→Bool):∀ A B,flt q (A++B)=flt q A++flt q B
 | [],B=>rfl
 | x::A,B=>by
  show cond (q x) [x] []++flt q (A++B)=cond (q x) [x] []++flt q A++flt q B
  rw [jq q A B,List.append_assoc]
theorem iz (q:List PV→Bool) (f:Int→Rows) (lo:Int):∀ n:Nat,flt q (fm f lo n)=fm (fun i=>flt q (f i)) lo n
 | 0=>rfl
 | n+1=>by rw [M7,M7,jq,iz q f lo n]
theorem tF {D:Rows} {i:Nat} (h:i<D.length):D.take (i+1)=D.take i++[Aj D i]:=by
 rw [List.take_add_one,List.getElem?_eq_getElem h]
 unfold Aj
 rw [List.getD_eq_getElem?_getD,List.getElem?_eq_getElem h]
 rfl
theorem uA (q:List PV→Bool) {D:Rows} {i:Nat} (h:i<D.length):flt q (D.take (i+1))=flt q (D.take i)++cond (q (Aj D i)) [Aj D i] []:=by
 rw [tF h,jq]
 show _++(cond (q (Aj D i)) [Aj D i] []++[])=_
 rw [List.append_nil]
def MX (t s n b:Int) (x:Bool) (free:Bool):Rows:=V6 fun h v f=>cond (Au (Ae t s n b x h v f)==0&&A5 (Ae t s n b x h v f) free==0) [(Ae t s n b x h v f).ls] []
def vR (m:Mat) (R:Nat):Rows:=fm (fun t=>fm (fun s=>fm (fun n=>(fun g:Int→Rows=>g 0++g 4++g 6) fun b=>yF true fun x=>flt (fun y=>GQ m (VT y)) (MX t s n b x (BC m).freehit)) 0 R) 0 4) 1 3
theorem xN {m:Mat} {t s n b:Int} {x:Bool} {h v f:Int}:cond (!(Au (Ae t s n b x h v f)==0) || !(A5 (Ae t s n b x h v f) false==0)) [] (J7 m t s n b x h v f)=J7 m t s n b x h v f:=by
 unfold J7
 cases hx:GQ m (Ae t s n b x h v f) with
 | false=>cases (!(Au (Ae t s n b x h v f)==0) || !(A5 (Ae t s n b x h v f) false==0))<;>rfl
 | true =>
  have a:=gq hx
  rw [a.legal,a.poss0]
  rfl
theorem b3 {g:Int→Rows} (hz:∀ b,¬ (b=0∨b=4∨b=6)→g b=[]):fm g 0 7=g 0++g 4++g 6:=by
 show []++g (0+((0:Nat):Int))++g (0+((1:Nat):Int))++g (0+((2:Nat):Int))++g (0+((3:Nat):Int))++g (0+((4:Nat):Int))++g (0+((5:Nat):Int))++g (0+((6:Nat):Int))=_
 rw [hz (0+((1:Nat):Int)) (by omega),hz (0+((2:Nat):Int)) (by omega),hz (0+((3:Nat):Int)) (by omega),hz (0+((5:Nat):Int)) (by omega)]
 simp only [List.append_nil,List.nil_append]
 rfl
theorem pu (q:List PV→Bool) (x:List PV):flt q [x]=cond (q x) [x] []:=List.append_nil _
theorem xP (m:Mat) (R:Nat):vR m R=Va m R:=by
 unfold vR Va
 refine Th _ fun t _ _=>Th _ fun s _ _=>Th _ fun n _ _=>?_
 have e:∀ b x,flt (fun y=>GQ m (VT y)) (MX t s n b x (BC m).freehit)=V6 (J7 m t s n b x):=fun b x=>by
  unfold MX V6
  rw [iz]
  refine Th _ fun h _ _=>?_
  rw [iz]
  refine Th _ fun v _ _=>?_
  rw [iz]
  refine Th _ fun f _ _=>?_
  show flt (fun y=>GQ m (VT y)) (cond (Au (Ae t s n b x h v f)==0&&A5 (Ae t s n b x h v f) (BC m).freehit==0) [(Ae t s n b x h v f).ls] [])=cond (GQ m (Ae t s n b x h v f)) [(Ae t s n b x h v f).ls] []
  cases hx:GQ m (Ae t s n b x h v f) with
  | false =>
   cases (Au (Ae t s n b x h v f)==0&&A5 (Ae t s n b x h v f) (BC m).freehit==0) with
   | false=>rfl
   | true =>
    rw [cond_true,pu,show GQ m (VT (Ae t s n b x h v f).ls)=GQ m (Ae t s n b x h v f) from rfl,hx]
  | true =>
   have a:=gq hx
   rw [a.legal,a.poss,Bool.and_true,cond_true,pu,show GQ m (VT (Ae t s n b x h v f).ls)=GQ m (Ae t s n b x h v f) from rfl,hx]
   rfl
 show yF true (fun x=>flt _ (MX t s n 0 x _))++yF true (fun x=>flt _ (MX t s n 4 x _))++yF true (fun x=>flt _ (MX t s n 6 x _))=_
 simp only [e]
 refine (b3 (g:=fun b=>yF true fun x=>V6 (J7 m t s n b x)) fun b hb=>tN fun x=>?_).symm
 refine Jk _ fun h _ _=>Jk _ fun v _ _=>Jk _ fun f _ _=>?_
 unfold J7
 cases hx:GQ m (Ae t s n b x h v f) with
 | false=>rfl
 | true=>exact absurd (gq hx).boundary hb
end Go.Px
end
section
namespace Go.Px
set_option maxRecDepth 100000
theorem wL {g:Int→Int→Int→Rows} (h:∀ a b c,(g a b c).length≤1):(V6 g).length≤11 * (3 * (12 * 1)) :=
 Bp (fun a=>Bp (fun b=>Bp (fun c=>h a b c) (Nat.le_refl 12)) (Nat.le_refl 3)) (Nat.le_refl 11)
theorem mb (t s n b:Int) (x free:Bool) (h v f:Int):(cond (Au (Ae t s n b x h v f)==0&&A5 (Ae t s n b x h v f) free==0) [(Ae t s n b x h v f).ls] ([]:Rows)).length≤1:=by
 cases (Au (Ae t s n b x h v f)==0&&A5 (Ae t s n b x h v f) free==0)
 ·exact Nat.zero_le _
 ·exact Nat.le_refl _
set_option maxHeartbeats 4000000 in
theorem gP {N:Nat} {t s n b h0 v0 f0:Int} {x free:Bool} (hN:2097152<N):JJ N [.int t,.int s,.int n,.int 0,.int b,.bool x,.int h0,.int v0,.int f0,.int 0,.bool false,.int 0,.bool free]=some [.rows (MX t s n b x free)]:=by
 show JK (std (Gh N) N) (xOf _)=_
 have LEG:∀ h v f:Int,A9 N [.int t,.int s,.int n,.int 0,.int b,.bool x,.int h,.int v,.int f,.int 0,.bool false,.int 0]=some [.int (Au (Ae t s n b x h v f))]:=fun h v f=>MT
 have POS:∀ h v f:Int,BD N [.int t,.int s,.int n,.int 0,.int b,.bool x,.int h,.int v,.int f,.int 0,.bool false,.int 0,.bool free]=some [.int (A5 (Ae t s n b x h v f) free)]:=fun h v f=>NR hN
 have DLS:∀ h v f:Int,(Ae t s n b x h v f).ls=[.int t,.int s,.int n,.int 0,.int b,.bool x,.int h,.int v,.int f,.int 0,.bool false,.int 0]:=fun h v f=>rfl
 unfold MX V6
 have l1:∀ h v f:Int,(cond (Au (Ae t s n b x h v f)==0&&A5 (Ae t s n b x h v f) free==0) [(Ae t s n b x h v f).ls] ([]:Rows)).length≤1:=mb t s n b x free
 have l2:∀ h v:Int,(fm (fun f=>cond (Au (Ae t s n b x h v f)==0&&A5 (Ae t s n b x h v f) free==0) [(Ae t s n b x h v f).ls] ([]:Rows)) 0 12).length≤12 * 1:=fun h v=>Bp (l1 h v) (Nat.le_refl _)
 have l3:∀ h:Int,(fm (fun v=>fm (fun f=>cond (Au (Ae t s n b x h v f)==0&&A5 (Ae t s n b x h v f) free==0) [(Ae t s n b x h v f).ls] ([]:Rows)) 0 12) 0 3).length≤3 * (12 * 1):=fun h=>Bp (l2 h) (Nat.le_refl _)
 have z0:∀ a:Nat,(0:Int)+(a:Int)=(a:Int):=fun a=>Int.zero_add _
 simp only [JK,F5,EI,std,xOf,PXb]
 rw [← Sz]
 refine AJ (Av (len:=11) (fun i=>[.rows (fmo [] (fun h=>fm (fun v=>fm (fun f=>cond (Au (Ae t s n b x h v f)==0&&A5 (Ae t s n b x h v f) free==0) [(Ae t s n b x h v f).ls] ([]:Rows)) 0 12) 0 3) 0 i),.int (i:Int)]) [.rows (fmo [] (fun h=>fm (fun v=>fm (fun f=>cond (Au (Ae t s n b x h v f)==0&&A5 (Ae t s n b x h v f) free==0) [(Ae t s n b x h v f).ls] ([]:Rows)) 0 12) 0 3) 0 11)] ?_ ?_ N (by omega)) ?_
 ·intro self
  rfl
 ·intro a self ha
  have b1:=CT (out:=[]) (lo:=0) (n:=a) l3 (k:=11) (by omega)
  rw [List.length_nil,Nat.zero_add] at b1
  rw [Br,z0]
  generalize fmo [] (fun h=>fm (fun v=>fm (fun f=>cond (Au (Ae t s n b x h v f)==0&&A5 (Ae t s n b x h v f) free==0) [(Ae t s n b x h v f).ls] ([]:Rows)) 0 12) 0 3) 0 a=out1 at *
  rw [← EW]
  have g1:iLe (a:Int) 10=true:=by simp only [iLe,decide_eq_true_eq];omega
  have w8:IntKind.u8.wrap ((a:Int)+1)=((a+1:Nat):Int):=by rw [Ye (by omega) (by omega)];omega
  simp only [PXb,PXc,PXn,AA,g1,w8]
  generalize (a:Int)=h at *
  refine AJ (Av (len:=3) (fun i=>[.rows (fmo out1 (fun v=>fm (fun f=>cond (Au (Ae t s n b x h v f)==0&&A5 (Ae t s n b x h v f) free==0) [(Ae t s n b x h v f).ls] ([]:Rows)) 0 12) 0 i),.int (i:Int)]) [.rows (fmo out1 (fun v=>fm (fun f=>cond (Au (Ae t s n b x h v f)==0&&A5 (Ae t s n b x h v f) free==0) [(Ae t s n b x h v f).ls] ([]:Rows)) 0 12) 0 3),.int 3] ?_ ?_ N (by omega)) ?_
  ·intro self
   rfl
  ·intro a self ha
   have b2:=CT (out:=out1) (lo:=0) (n:=a) (l2 h) (k:=3) (by omega)
   rw [Br,z0]
   generalize fmo out1 (fun v=>fm (fun f=>cond (Au (Ae t s n b x h v f)==0&&A5 (Ae t s n b x h v f) free==0) [(Ae t s n b x h v f).ls] ([]:Rows)) 0 12) 0 a=out2 at *
   rw [← EW]
   have g2:iLt (a:Int) 3=true:=by simp only [iLt,decide_eq_true_eq];omega
   simp only [PXb,PXc,PXn,AA,g2,DJ (show a≤1099511627776 by omega)]
   generalize (a:Int)=v at *
   refine AJ (Av (len:=12) (fun i=>[.rows (fmo out2 (fun f=>cond (Au (Ae t s n b x h v f)==0&&A5 (Ae t s n b x h v f) free==0) [(Ae t s n b x h v f).ls] ([]:Rows)) 0 i),.int (i:Int)]) [.rows (fmo out2 (fun f=>cond (Au (Ae t s n b x h v f)==0&&A5 (Ae t s n b x h v f) free==0) [(Ae t s n b x h v f).ls] ([]:Rows)) 0 12),.int 12] ?_ ?_ N (by omega)) ?_
   ·intro self
    rfl
   ·intro a self ha
    have b3:=CT (out:=out2) (lo:=0) (n:=a) (l1 h v) (k:=12) (by omega)
    rw [Br,z0]
    generalize fmo out2 (fun f=>cond (Au (Ae t s n b x h v f)==0&&A5 (Ae t s n b x h v f) free==0) [(Ae t s n b x h v f).ls] ([]:Rows)) 0 a=out3 at *
    have g3:iLt (a:Int) 12=true:=by simp only [iLt,decide_eq_true_eq];omega
    have sm:iSm ((out3.length+1:Nat):Int) 80=true:=DV (by omega) (by omega)
    simp only [PXb,PXc,PXn,AA,g3,DJ (show a≤1099511627776 by omega),F5,EI,LEG,POS,DLS,List.length_append,List.length_cons,List.length_nil,Nat.zero_add,sm]
    cases Au (Ae t s n b x h v (a:Int))==0 with
    | false=>simp only [Bool.false_and,cond_false,List.append_nil]
    | true =>
     cases hp:A5 (Ae t s n b x h v (a:Int)) free==0 with
     | false=>simp only [cond_true,hp,Bool.and_false,cond_false,List.append_nil]
     | true=>simp only [cond_true,hp,Bool.and_self]
   ·simp only [PXb,PXc,PXn,AA]
  ·simp only [PXb,PXc,PXn,AA]
 ·rfl
end Go.Px
end
section
namespace Go.Px
set_option maxRecDepth 100000
def xG:List PV:=[.int 0,.int 0,.int 0,.int 0,.int 0,.int 0,.int 0,.int 0,.int 0,.int 0,.int 0,.int 0,.int 0,.int 0,.rows [],.int 0,.rows [],.rows [],.bool false,.rows [],.bool false,.int 0,.int 0,.int 0,.rows [],.int 0,.int 0,.int 0,.bool false]
def rU (s:Inn):List PV:=[.int s.side,.int s.target,.int s.overs,.int s.runs,.int s.wickets,.int s.wides,.int s.noballs,.int s.byes,.int s.legbyes,.int s.pens,.int s.complete,.int s.inover,.int s.striker,.int s.other,.rows s.batters,.int s.bowler,.rows s.bowlers,.rows s.before,.bool s.fresh,.rows s.bowled,.bool s.freehit,.int s.ballage,.int s.keeper,.int s.outside,.rows s.subs,.int s.rev1,.int s.rev2,.int s.ending,.bool true]
theorem iP {N:Nat} {m1 m2 m3 m4 m5 m6 m7 m9 m10 m11 m12 m14 m15 m18 m19 m20 m21 m22:Int} {m8 m16:Bool} {m0:ByteArray} {m13:Rows} {m17:List Inn} (hl:m17.length≤1000000):Fy N [.str m0,.int m1,.int m2,.int m3,.int m4,.int m5,.int m6,.int m7,.bool m8,.int m9,.int m10,.int m11,.int m12,.rows m13,.int m14,.int m15,.bool m16,.rows (AL m17),.int m18,.int m19,.int m20,.int m21,.int m22]=some (cond (!(m14==3)||(m17.length:Int)==0) xG (rU (BC (⟨⟨m0,m1,m2,m3,m4,m5,m6,m7,m8,m9,m10,m11,m12,m13⟩,m14,m15,m16,m17,m18,m19,m20,m21,m22⟩:Mat)))):=by
 show Fi (std (EP N) N) (xOf _)=_
 simp only [Fi,std,xOf,PXb,PXi]
 cases h3:m14==3 with
 | false=>rfl
 | true =>
  cases h0:(m17.length:Int)==0 with
  | true=>rfl
  | false =>
   simp only [PXb,PXc,PXn,PXm,Nat.reduceAdd,Int.reduceBEq,PXi,Bool.not_true,Bool.or_self,Mt h0 hl,rU,BC,lnx]
theorem qC {m:Mat} (h:∀ d,GQ m d=false) (R:Nat):Va m R=[]:=by
 unfold Va V6
 refine Jk _ fun t _ _=>Jk _ fun s _ _=>Jk _ fun n _ _=>Jk _ fun b _ _=>tN fun x=>Jk _ fun a _ _=>Jk _ fun v _ _=>Jk _ fun f _ _=>?_
 unfold J7
 rw [h]
 rfl
theorem i5 (q:List PV→Bool):∀ D,(flt q D).length≤D.length
 | []=>Nat.le_refl _
 | x::D=>by
  have:=i5 q D
  show (cond (q x) [x] []++flt q D).length≤D.length+1
  rw [List.length_append]
  cases q x
  ·show 0+_≤_
   omega
  ·show 1+_≤_
   omega
theorem wh {t s n b:Int} {x free:Bool} {r:List PV} (h:r∈MX t s n b x free):∃ d:Del,r=d.ls:=by
 unfold MX V6 at h
 obtain ⟨a,_,_,h⟩:=i3 _ h
 obtain ⟨v,_,_,h⟩:=i3 _ h
 obtain ⟨f,_,_,h⟩:=i3 _ h
 change r∈cond (Au (Ae t s n b x a v f)==0&&A5 (Ae t s n b x a v f) free==0) [(Ae t s n b x a v f).ls] [] at h
 cases hc:(Au (Ae t s n b x a v f)==0&&A5 (Ae t s n b x a v f) free==0) with
 | false=>rw [hc] at h;exact absurd h List.not_mem_nil
 | true =>
  rw [hc] at h
  exact ⟨_,List.mem_singleton.1 h⟩
theorem wQ {D:Rows} {i:Nat} (h:i<D.length):Aj D i∈D:=by
 unfold Aj
 rw [List.getD_eq_getElem?_getD,List.getElem?_eq_getElem h]
 exact List.getElem_mem h
def b3o (g:Int→Rows) (out:Rows):Nat→Rows
 | 0=>out
 | 1=>out++g 0
 | 2=>out++g 0++g 4
 | _=>out++g 0++g 4++g 6
theorem wY (g:Int→Rows) (out:Rows):b3o g out 3=out++(g 0++g 4++g 6):=by
 show out++g 0++g 4++g 6=_
 simp only [List.append_assoc]
theorem lt3 {i:Nat} (h:i<3):i=0∨i=1∨i=2:=by omega
theorem uc {N : Nat} {V : Rows} {q : List PV → Bool} {out : Rows} (hN : 2097152 < N) (hV : V.length ≤ 396) (ho : out.length ≤ 1000000) {F : (List AS → Option (List PV)) → List PV → Option (List PV)}
    (h0:∀ o self,F self [.rows o,.int (V.length:Int)]=some [.rows o,.int (V.length:Int)])
    (h1:∀ (i:Nat) o self,i<V.length→o.length≤1000396→F self [.rows o,.int (i:Int)]=self [.rows (o++cond (q (Aj V i)) [Aj V i] []),.int ((i+1:Nat):Int)]):EF F N [.rows out,.int 0]=some [.rows (out++flt q V),.int (V.length:Int)]:=by
  have:=pw (F:=F) (len:=V.length) (fun i=>[.rows (out++flt q (V.take i)),.int (i:Int)]) [.rows (out++flt q V),.int (V.length:Int)] (x:=[.rows out,.int 0]) (by
    show _=[PV.rows (out++[]),_]
    rw [List.append_nil]
    rfl) (fun self=>by
    rw [List.take_length]
    exact h0 _ self) (fun i self hi=>by
    have hl:=i5 q (V.take i)
    rw [List.length_take] at hl
    rw [uA q hi,← List.append_assoc]
    exact h1 i _ self hi (by rw [List.length_append];omega)) N (by omega)
  exact this
theorem oK (t s n b:Int) (x free:Bool):(MX t s n b x free).length≤396:=wL (mb t s n b x free)
theorem wZ {g:Int→Rows} {c:Nat} (h:∀ b,(g b).length≤c):(g 0++g 4++g 6).length≤3 * c:=by
 have:=h 0
 have:=h 4
 have:=h 6
 rw [List.length_append,List.length_append]
 omega
end Go.Px
end
section
namespace Go.Px
set_option maxRecDepth 100000
def gF (m:Mat) (free:Bool) (t s n b:Int) (x:Bool):Rows:=flt (fun y=>GQ m (VT y)) (MX t s n b x free)
def gX (m:Mat) (free:Bool) (t s n b:Int):Rows:=yF true (gF m free t s n b)
def gN (m:Mat) (free:Bool) (t s n:Int):Rows:=gX m free t s n 0++gX m free t s n 4++gX m free t s n 6
def gS (m:Mat) (free:Bool) (R:Nat) (t s:Int):Rows:=fm (gN m free t s) 0 R
def gT (m:Mat) (free:Bool) (R:Nat) (t:Int):Rows:=fm (gS m free R t) 0 4
theorem wv (m:Mat) (R:Nat):vR m R=fm (gT m (BC m).freehit R) 1 3:=rfl
theorem tD (m:Mat) (free:Bool) (t s n b:Int) (x:Bool):(gF m free t s n b x).length≤396:=Nat.le_trans (i5 _ _) (oK t s n b x free)
theorem nX (m:Mat) (free:Bool) (t s n b:Int):(gX m free t s n b).length≤2 * 396:=oV (tD m free t s n b)
theorem tE (m:Mat) (free:Bool) (t s n:Int):(gN m free t s n).length≤3 * (2 * 396):=wZ (g:=gX m free t s n) (nX m free t s n)
theorem tH (m:Mat) (free:Bool) {R:Nat} (hR:R≤8) (t s:Int):(gS m free R t s).length≤8 * (3 * (2 * 396)):=Bp (tE m free t s) hR
theorem w9 (m:Mat) (free:Bool) {R:Nat} (hR:R≤8) (t:Int):(gT m free R t).length≤4 * (8 * (3 * (2 * 396))):=Bp (tH m free hR t) (Nat.le_refl _)
def bv:Nat→Int
 | 0=>0
 | 1=>4
 | _=>6
theorem u0 (g:Int→Rows) (out:Rows) {i:Nat} (h:i<3):b3o g out (i+1)=b3o g out i++g (bv i):=by
 rcases lt3 h with e | e | e<;>subst e<;>rfl
def yv:Nat→Bool
 | 0=>false
 | _=>true
theorem uf (f:Bool→Rows) (out:Rows) {u:Nat} (h:u<2):yfo true f out (u+1)=yfo true f out u++f (yv u):=by
 rcases lt2 h with e | e<;>subst e<;>rfl
theorem ur {V:Rows} {i:Nat} (h:∃ d:Del,Aj V i=d.ls):[PV.int (pvI (AD V i 0)),.int (pvI (AD V i 1)),.int (pvI (AD V i 2)),.int (pvI (AD V i 3)),.int (pvI (AD V i 4)),.bool (pvB (AD V i 5)),.int (pvI (AD V i 6)),.int (pvI (AD V i 7)),.int (pvI (AD V i 8)),.int (pvI (AD V i 9)),.bool (pvB (AD V i 10)),.int (pvI (AD V i 11))]=Aj V i:=by
 obtain ⟨d,hd⟩:=h
 unfold AD
 rw [hd]
 rfl
set_option maxHeartbeats 1000000 in
theorem au {N:Nat} {m1 m2 m3 m4 m5 m6 m7 m9 m10 m11 m12 m14 m15 m18 m19 m20 m21 m22:Int} {m8 m16:Bool} {m0:ByteArray} {m13:Rows} {m17:List Inn} {r:Int} (hN:2097152<N) (hf:Cr m17) (hl:m17.length≤1000000) (hs:m0.size≤1048576) (h13:m13.length≤1048576) (hr : -1≤r∧r≤7):Du N [.str m0,.int m1,.int m2,.int m3,.int m4,.int m5,.int m6,.int m7,.bool m8,.int m9,.int m10,.int m11,.int m12,.rows m13,.int m14,.int m15,.bool m16,.rows (AL m17),.int m18,.int m19,.int m20,.int m21,.int m22,.int r]=some [.rows (Va (⟨⟨m0,m1,m2,m3,m4,m5,m6,m7,m8,m9,m10,m11,m12,m13⟩,m14,m15,m16,m17,m18,m19,m20,m21,m22⟩:Mat) (r+1).toNat)]:=by
 show Dj (std (BB N) N) (xOf _)=_
 simp only [Dj,O3,G4,Me,Es,std,xOf,PXb,iP hl,Lr hf hN hl hs]
 cases hp:(!(m14==3)||(m17.length:Int)==0) with
 | true =>
  rw [qC fun d=>by
   cases hx:GQ (⟨⟨m0,m1,m2,m3,m4,m5,m6,m7,m8,m9,m10,m11,m12,m13⟩,m14,m15,m16,m17,m18,m19,m20,m21,m22⟩:Mat) d with
   | false=>rfl
   | true =>
    have a:=gq hx
    have a1:=a.stage
    have a2:=a.some'
    change (m14==3)=true at a1
    change ((m17.length:Int)==0)=false at a2
    rw [a1,a2] at hp
    cases hp]
  rfl
 | false =>
  cases hv:Bi (⟨⟨m0,m1,m2,m3,m4,m5,m6,m7,m8,m9,m10,m11,m12,m13⟩,m14,m15,m16,m17,m18,m19,m20,m21,m22⟩:Mat) with
  | false =>
   rw [qC fun d=>by
    cases hx:GQ (⟨⟨m0,m1,m2,m3,m4,m5,m6,m7,m8,m9,m10,m11,m12,m13⟩,m14,m15,m16,m17,m18,m19,m20,m21,m22⟩:Mat) d with
    | false=>rfl
    | true =>
     have a:=(gq hx).valid
     rw [hv] at a
     cases a]
   rfl
  | true =>
   obtain ⟨R,hR⟩:∃ R:Nat,(r+1).toNat=R:=⟨_,rfl⟩
   have r7:(cond (iLt 7 r) 7 r:Int)=(R:Int) - 1:=by
    have:iLt 7 r=false:=by simp only [iLt,decide_eq_false_iff_not];omega
    rw [this]
    show r=_
    omega
   have R8:R≤8:=by omega
   have WHY:∀ d:Del,B6 N [.str m0,.int m1,.int m2,.int m3,.int m4,.int m5,.int m6,.int m7,.bool m8,.int m9,.int m10,.int m11,.int m12,.rows m13,.int m14,.int m15,.bool m16,.rows (AL m17),.int m18,.int m19,.int m20,.int m21,.int m22,.int 4,.int 0,.int 0,.int 0,.bool false,.int 0,.int 0,.int d.type,.int d.source,.int d.runs,.int d.short,.int d.boundary,.bool d.crossed,.int d.how,.int d.victim,.int d.fielder,.int d.second,.bool d.sub,.int d.sector]=some [.int (CG (⟨⟨m0,m1,m2,m3,m4,m5,m6,m7,m8,m9,m10,m11,m12,m13⟩,m14,m15,m16,m17,m18,m19,m20,m21,m22⟩:Mat) (evB d)).2]:=fun d=>Vk hN hf hl hs h13
   rw [hR,← xP,wv,← Sz]
   simp only [PXb,Bool.not_true,r7,rU]
   generalize (BC (⟨⟨m0,m1,m2,m3,m4,m5,m6,m7,m8,m9,m10,m11,m12,m13⟩,m14,m15,m16,m17,m18,m19,m20,m21,m22⟩:Mat)).freehit=free at *
   generalize hm:(⟨⟨m0,m1,m2,m3,m4,m5,m6,m7,m8,m9,m10,m11,m12,m13⟩,m14,m15,m16,m17,m18,m19,m20,m21,m22⟩:Mat)=mm at *
   have z0:∀ a:Nat,(0:Int)+(a:Int)=(a:Int):=fun a=>Int.zero_add _
   generalize hL3:([[PV.int 0],[PV.int 4],[PV.int 6]]:Rows)=L3
   generalize hL2:([[PV.bool false],[PV.bool true]]:Rows)=L2
   have n3:L3.length=3:=by rw [← hL3];rfl
   have n2:L2.length=2:=by rw [← hL2];rfl
   have a3:∀ i:Nat,i<3→pvI (AD L3 i 0)=bv i:=fun i hi=>by rw [← hL3];rcases lt3 hi with e | e | e<;>subst e<;>rfl
   have a2:∀ i:Nat,i<2→pvB (AD L2 i 0)=yv i:=fun i hi=>by rw [← hL2];rcases lt2 hi with e | e<;>subst e<;>rfl
   clear hL3 hL2
   refine AJ (Av (len:=3) (fun i=>[.rows (fmo [] (gT mm free R) 1 i),.int (1+(i:Int))]) [.rows (fmo [] (gT mm free R) 1 3)] ?_ ?_ N (by omega)) ?_
   ·intro self
    rfl
   ·intro a self ha
    have b1:=CT (out:=[]) (lo:=1) (n:=a) (w9 mm free R8) (k:=3) (by omega)
    rw [List.length_nil,Nat.zero_add] at b1
    rw [Br]
    generalize fmo [] (gT mm free R) 1 a=out1 at *
    have g1:iLe (1+(a:Int)) 3=true:=by simp only [iLe,decide_eq_true_eq];omega
    have w8:IntKind.u8.wrap (1+(a:Int)+1)=1+((a+1:Nat):Int):=by rw [Ye (by omega) (by omega)];omega
    simp only [PXb,PXc,PXn,AA,g1,w8]
    generalize (1+(a:Int))=t at *
    rw [show out1++gT mm free R t=fmo out1 (gS mm free R t) 0 4 from (EW _ _ _ _).symm]
    refine AJ (Av (len:=4) (fun i=>[.rows (fmo out1 (gS mm free R t) 0 i),.int (i:Int)]) [.rows (fmo out1 (gS mm free R t) 0 4),.int 4] ?_ ?_ N (by omega)) ?_
    ·intro self
     rfl
    ·intro a self ha
     have b2:=CT (out:=out1) (lo:=0) (n:=a) (tH mm free R8 t) (k:=4) (by omega)
     rw [Br,z0]
     generalize fmo out1 (gS mm free R t) 0 a=out2 at *
     have g2:iLe (a:Int) 3=true:=by simp only [iLe,decide_eq_true_eq];omega
     have w8:IntKind.u8.wrap ((a:Int)+1)=((a+1:Nat):Int):=by rw [Ye (by omega) (by omega)];omega
     simp only [PXb,PXc,PXn,AA,g2,w8]
     generalize (a:Int)=s at *
     rw [show out2++gS mm free R t s=fmo out2 (gN mm free t s) 0 R from (EW _ _ _ _).symm]
     refine AJ (Av (len:=R) (fun i=>[.rows (fmo out2 (gN mm free t s) 0 i),.int (i:Int)]) [.rows (fmo out2 (gN mm free t s) 0 R),.int (R:Int)] ?_ ?_ N (by omega)) ?_
     ·intro self
      simp only [PXb,PXc,PXn,AA,tZ]
     ·intro a self ha
      have b3:=CT (out:=out2) (lo:=0) (n:=a) (tE mm free t s) (k:=8) (by omega)
      rw [Br,z0]
      generalize fmo out2 (gN mm free t s) 0 a=out3 at *
      simp only [PXb,PXc,PXn,AA,vY ha,DJ (show a≤1099511627776 by omega)]
      generalize (a:Int)=n at *
      rw [show out3++gN mm free t s n=b3o (gX mm free t s n) out3 3 from (wY _ _).symm]
      refine AJ (Av (len:=3) (fun i=>[.rows (b3o (gX mm free t s n) out3 i),.int (i:Int)]) [.rows (b3o (gX mm free t s n) out3 3),.int 3] ?_ ?_ N (by omega)) ?_
      ·intro self
       simp only [PXb,PXc,PXn,AA,n3,show iLt ((3:Nat):Int) ((3:Nat):Int)=false from rfl]
       rfl
      ·intro a self ha
       have b4:(b3o (gX mm free t s n) out3 a).length≤out3.length+3 * (2 * 396):=by
        have x0:=nX mm free t s n 0
        have x4:=nX mm free t s n 4
        rcases lt3 ha with e | e | e<;>subst e
        ·show out3.length≤_
         omega
        ·show (out3++gX mm free t s n 0).length≤_
         rw [List.length_append]
         omega
        ·show (out3++gX mm free t s n 0++gX mm free t s n 4).length≤_
         rw [List.length_append,List.length_append]
         omega
       rw [u0 _ _ ha]
       generalize b3o (gX mm free t s n) out3 a=out4 at *
       simp only [PXb,PXc,PXn,AA,n3,Ah ha,AP ha,Int.toNat_natCast,a3 a ha,DJ (show a≤1099511627776 by omega)]
       generalize bv a=b at *
       rw [show out4++gX mm free t s n b=yfo true (gF mm free t s n b) out4 2 from (sT _ _ _).symm]
       refine AJ (Av (len:=2) (fun i=>[.rows (yfo true (gF mm free t s n b) out4 i),.int (i:Int)]) [.rows (yfo true (gF mm free t s n b) out4 2),.int 2] ?_ ?_ N (by omega)) ?_
       ·intro self
        simp only [PXb,PXc,PXn,AA,n2,show iLt ((2:Nat):Int) ((2:Nat):Int)=false from rfl]
        rfl
       ·intro a self ha
        have b5:(yfo true (gF mm free t s n b) out4 a).length≤out4.length+396:=by
         have x0:=tD mm free t s n b false
         rcases lt2 ha with e | e<;>subst e
         ·show out4.length≤_
          omega
         ·show (out4++gF mm free t s n b false).length≤_
          rw [List.length_append]
          omega
        rw [uf _ _ ha]
        generalize yfo true (gF mm free t s n b) out4 a=out5 at *
        simp only [PXb,PXc,PXn,AA,n2,Ah ha,AP ha,Int.toNat_natCast,a2 a ha,DJ (show a≤1099511627776 by omega),Es,gP hN]
        generalize yv a=x at *
        unfold gF
        have VL:=oK t s n b x free
        have CA:∀ i,i<(MX t s n b x free).length→∃ d:Del,Aj (MX t s n b x free) i=d.ls:=fun i hi=>wh (wQ hi)
        generalize MX t s n b x free=V at *
        refine AJ (uc (q:=fun y=>GQ mm (VT y)) hN VL (by omega) ?_ ?_) ?_
        ·intro o self
         simp only [PXb,PXc,PXn,AA,Ap]
        ·intro i o self hi ho
         have sm:iSm ((o.length+1:Nat):Int) 80=true:=DV (by omega) (by omega)
         have W:=WHY (VT (Aj V i))
         have RB:=ur (CA i hi)
         simp only [PXb,PXc,PXn,PXm,Nat.reduceAdd,Int.reduceBEq,Ah hi,AP hi,Int.toNat_natCast,DJ (show i≤1099511627776 by omega),G4]
         refine bind_ok W ?_
         rw [RB]
         show cond (GQ mm (VT (Aj V i))) _ _=_
         cases GQ mm (VT (Aj V i)) with
         | false=>rw [cond_false,cond_false,List.append_nil]
         | true=>rw [cond_true,cond_true,List.length_append,List.length_cons,List.length_nil,Nat.zero_add,sm,cond_true]
        ·simp only [PXb,PXc,PXn,AA]
       ·simp only [PXb,PXc,PXn,AA]
      ·simp only [PXb,PXc,PXn,AA]
     ·simp only [PXb,PXc,PXn,AA]
    ·simp only [PXb,PXc,PXn,AA]
   ·rfl
end Go.Px
end
section
namespace Go.Px
set_option maxRecDepth 100000
theorem VP {F : (List AS → Option (List PV)) → List PV → Option (List PV)} {J : Type} {len : Nat} (enc : Nat → J → List AS) (fin : J → List PV)
    (h0:∀ j self,F self ((enc len j).map Leaf.pv)=some (fin j)) (h1:∀ i j,i<len→∃ j',∀ self,F self ((enc i j).map Leaf.pv)=self (enc (i+1) j')) (n:Nat) (hn:len<n) (j:J) :
    ∃ j',EF F n ((enc 0 j).map Leaf.pv)=some (fin j'):=by
  have main:∀ (k i n:Nat) (j:J),i+k=len→k<n→∃ j',EF F n ((enc i j).map Leaf.pv)=some (fin j'):=by
    intro k
    induction k with
    | zero =>
      intro i n j hk hn
      obtain ⟨n,rfl⟩:∃ m,n=m+1:=⟨n - 1,by omega⟩
      obtain rfl:i=len:=by omega
      exact ⟨j,h0 j _⟩
    | succ k ih =>
      intro i n j hk hn
      obtain ⟨n,rfl⟩:∃ m,n=m+1:=⟨n - 1,by omega⟩
      obtain ⟨j1,hj⟩:=h1 i j (by omega)
      obtain ⟨j2,hj2⟩:=ih (i+1) n j1 (by omega) (by omega)
      exact ⟨j2,(hj _).trans hj2⟩
  exact main len 0 n j (by omega) hn
theorem ej {F : (List AS → Option (List PV)) → List PV → Option (List PV)} {J J2 : Type} {N : Nat} {x : List PV} {k : (List AS → Option (List PV)) → List PV → Option (List PV)} {fin : J2 → List PV} {G : J → List AS}
    (h:∃ j',EF F N x=some (fin j')) (hk:∀ j',∃ j'',∀ self,k self (fin j')=self (G j'')):∃ j'',∀ self,(EF F N x).bind (k self)=self (G j''):=by
  obtain ⟨j1,h1⟩:=h
  obtain ⟨j2,h2⟩:=hk j1
  refine ⟨j2,fun self=>?_⟩
  rw [h1]
  exact h2 self
theorem pT {F : (List AS → Option (List PV)) → List PV → Option (List PV)} {J : Type} {len : Nat} (enc : Nat → J → List AS) (fin : List PV)
    (h0:∀ j self,F self ((enc len j).map Leaf.pv)=some fin) (h1:∀ i j,i<len→∃ j',∀ self,F self ((enc i j).map Leaf.pv)=self (enc (i+1) j')) (n:Nat) (hn:len<n) (j:J):EF F n ((enc 0 j).map Leaf.pv)=some fin:=by
  obtain ⟨_,h⟩:=VP enc (fun _=>fin) h0 h1 n hn j
  exact h
abbrev JT:=Bool×Int×Int×Int
def dSt (t s n b:Int) (out:Rows) (i:Int) (j:JT):List AS:=[.rows out,.int i,.int t,.int s,.int n,.int 0,.int b,.bool j.1,.int j.2.1,.int j.2.2.1,.int j.2.2.2,.int 0,.bool false,.int 0]
def un (t s n b:Int) (out:Rows) (i:Int) (j:JT):List PV:=[.rows out,.int i,.int t,.int s,.int n,.int 0,.int b,.bool j.1,.int j.2.1,.int j.2.2.1,.int j.2.2.2,.int 0,.bool false,.int 0]
theorem nW (m:Mat) (t s n b:Int) (x:Bool) (h v f:Int):(J7 m t s n b x h v f).length≤1:=by
 unfold J7
 cases GQ m (Ae t s n b x h v f)
 ·exact Nat.zero_le _
 ·exact Nat.le_refl _
def w1 (m:Mat) (t s n b:Int) (x:Bool) (h v:Int):Rows:=fm (J7 m t s n b x h v) 0 12
def w2 (m:Mat) (t s n b:Int) (x:Bool) (h:Int):Rows:=fm (w1 m t s n b x h) 0 3
def w3 (m:Mat) (t s n b:Int) (x:Bool):Rows:=fm (w2 m t s n b x) 0 11
theorem sP (m:Mat) (t s n b:Int) (x:Bool) (h v:Int):(w1 m t s n b x h v).length≤12 * 1:=Bp (nW m t s n b x h v) (Nat.le_refl _)
theorem sC (m:Mat) (t s n b:Int) (x:Bool) (h:Int):(w2 m t s n b x h).length≤3 * (12 * 1):=Bp (sP m t s n b x h) (Nat.le_refl _)
theorem tO (m:Mat) (t s n b:Int) (x:Bool):(w3 m t s n b x).length≤11 * (3 * (12 * 1)):=Bp (sC m t s n b x) (Nat.le_refl _)
def w4 (m:Mat) (t s n b:Int):Rows:=fm (fun x=>w3 m t s n b (x==1)) 0 2
theorem xW (m:Mat) (t s n b:Int):w4 m t s n b=yF true fun x=>V6 (J7 m t s n b x):=yfm true (w3 m t s n b)
set_option maxHeartbeats 2000000 in
theorem qW {N:Nat} {m1 m2 m3 m4 m5 m6 m7 m9 m10 m11 m12 m14 m15 m18 m19 m20 m21 m22:Int} {m8 m16:Bool} {m0:ByteArray} {m13:Rows} {m17:List Inn} {t s n b h0 v0 f0:Int} {c:Bool} (hN:2097152<N) (hf:Cr m17) (hl:m17.length≤1000000) (hs:m0.size≤1048576) (h13:m13.length≤1048576):Km N [.str m0,.int m1,.int m2,.int m3,.int m4,.int m5,.int m6,.int m7,.bool m8,.int m9,.int m10,.int m11,.int m12,.rows m13,.int m14,.int m15,.bool m16,.rows (AL m17),.int m18,.int m19,.int m20,.int m21,.int m22,.int t,.int s,.int n,.int 0,.int b,.bool c,.int h0,.int v0,.int f0,.int 0,.bool false,.int 0]=some [.rows (w4 (⟨⟨m0,m1,m2,m3,m4,m5,m6,m7,m8,m9,m10,m11,m12,m13⟩,m14,m15,m16,m17,m18,m19,m20,m21,m22⟩:Mat) t s n b)]:=by
 show Sa (std (KA N) N) (xOf _)=_
 have WHY:∀ d:Del,Hb N [.str m0,.int m1,.int m2,.int m3,.int m4,.int m5,.int m6,.int m7,.bool m8,.int m9,.int m10,.int m11,.int m12,.rows m13,.int m14,.int m15,.bool m16,.rows (AL m17),.int m18,.int m19,.int m20,.int m21,.int m22,.int 4,.int 0,.int 0,.int 0,.bool false,.int 0,.int 0,.int d.type,.int d.source,.int d.runs,.int d.short,.int d.boundary,.bool d.crossed,.int d.how,.int d.victim,.int d.fielder,.int d.second,.bool d.sub,.int d.sector]=some [.int (CG (⟨⟨m0,m1,m2,m3,m4,m5,m6,m7,m8,m9,m10,m11,m12,m13⟩,m14,m15,m16,m17,m18,m19,m20,m21,m22⟩:Mat) (evB d)).2]:=fun d=>sw hN hf hl hs h13
 have WHK:∀ (x:Bool) (h v f:Int),Hb N [.str m0,.int m1,.int m2,.int m3,.int m4,.int m5,.int m6,.int m7,.bool m8,.int m9,.int m10,.int m11,.int m12,.rows m13,.int m14,.int m15,.bool m16,.rows (AL m17),.int m18,.int m19,.int m20,.int m21,.int m22,.int 4,.int 0,.int 0,.int 0,.bool false,.int 0,.int 0,.int t,.int s,.int n,.int 0,.int b,.bool x,.int h,.int v,.int f,.int 0,.bool false,.int 0]=some [.int (CG (⟨⟨m0,m1,m2,m3,m4,m5,m6,m7,m8,m9,m10,m11,m12,m13⟩,m14,m15,m16,m17,m18,m19,m20,m21,m22⟩:Mat) (evB (Ae t s n b x h v f))).2]:=fun x h v f=>WHY (Ae t s n b x h v f)
 have LEG:∀ (x:Bool) (h v f:Int),Co N [.int t,.int s,.int n,.int 0,.int b,.bool x,.int h,.int v,.int f,.int 0,.bool false,.int 0]=some [.int (Au (Ae t s n b x h v f))]:=fun x h v f=>V5
 have POS:∀ (x:Bool) (h v f:Int),C1 N [.int t,.int s,.int n,.int 0,.int b,.bool x,.int h,.int v,.int f,.int 0,.bool false,.int 0,.bool false]=some [.int (A5 (Ae t s n b x h v f) false)]:=fun x h v f=>Wk
 clear WHY
 generalize hm:(⟨⟨m0,m1,m2,m3,m4,m5,m6,m7,m8,m9,m10,m11,m12,m13⟩,m14,m15,m16,m17,m18,m19,m20,m21,m22⟩:Mat)=mm at *
 have z0:∀ a:Nat,(0:Int)+(a:Int)=(a:Int):=fun a=>Int.zero_add _
 unfold w4
 rw [← Sz]
 simp only [Sa,RN,Oq,Kv,std,xOf,PXb]
 refine AJ (pT (len:=2) (fun i j=>dSt t s n b (fmo [] (fun x=>w3 mm t s n b (x==1)) 0 i) (i:Int) j) [.rows (fmo [] (fun x=>w3 mm t s n b (x==1)) 0 2)] ?_ ?_ N (by omega) (c,h0,v0,f0)) ?_
 ·intro j self
  rfl
 ·intro a j ha
  have b1:=CT (out:=[]) (f:=fun x=>w3 mm t s n b (x==1)) (lo:=0) (n:=a) (fun x=>tO mm t s n b (x==1)) (k:=2) (by omega)
  rw [List.length_nil,Nat.zero_add] at b1
  rw [Br,z0]
  generalize fmo [] (fun x=>w3 mm t s n b (x==1)) 0 a=out1 at *
  have g1:iLe (a:Int) 1=true:=by simp only [iLe,decide_eq_true_eq];omega
  simp only [dSt,PXb,PXc,PXn,AA,g1,DJ (show a≤1099511627776 by omega)]
  generalize ((a:Int)==1)=x at *
  rw [show out1++w3 mm t s n b x=fmo out1 (w2 mm t s n b x) 0 11 from (EW _ _ _ _).symm]
  refine ej (VP (len:=11) (fun i j=>dSt t s n b (fmo out1 (w2 mm t s n b x) 0 i) (i:Int) j) (fun j=>un t s n b (fmo out1 (w2 mm t s n b x) 0 11) 11 j) ?_ ?_ N (by omega) j) ?_
  ·intro j self
   rfl
  ·intro a j ha
   have b2:=CT (out:=out1) (lo:=0) (n:=a) (sC mm t s n b x) (k:=11) (by omega)
   rw [Br,z0]
   generalize fmo out1 (w2 mm t s n b x) 0 a=out2 at *
   have g2:iLe (a:Int) 10=true:=by simp only [iLe,decide_eq_true_eq];omega
   have w8:IntKind.u8.wrap ((a:Int)+1)=((a+1:Nat):Int):=by rw [Ye (by omega) (by omega)];omega
   simp only [dSt,PXb,PXc,PXn,AA,g2,w8]
   generalize (a:Int)=h at *
   rw [show out2++w2 mm t s n b x h=fmo out2 (w1 mm t s n b x h) 0 3 from (EW _ _ _ _).symm]
   refine ej (VP (len:=3) (fun i j=>dSt t s n b (fmo out2 (w1 mm t s n b x h) 0 i) (i:Int) j) (fun j=>un t s n b (fmo out2 (w1 mm t s n b x h) 0 3) 3 j) ?_ ?_ N (by omega) j) ?_
   ·intro j self
    rfl
   ·intro a j ha
    have b3:=CT (out:=out2) (lo:=0) (n:=a) (sP mm t s n b x h) (k:=3) (by omega)
    rw [Br,z0]
    generalize fmo out2 (w1 mm t s n b x h) 0 a=out3 at *
    have g3:iLe (a:Int) 2=true:=by simp only [iLe,decide_eq_true_eq];omega
    simp only [dSt,PXb,PXc,PXn,AA,g3,DJ (show a≤1099511627776 by omega)]
    generalize (a:Int)=v at *
    rw [show out3++w1 mm t s n b x h v=fmo out3 (J7 mm t s n b x h v) 0 12 from (EW _ _ _ _).symm]
    refine ej (VP (len:=12) (fun i j=>dSt t s n b (fmo out3 (J7 mm t s n b x h v) 0 i) (i:Int) j) (fun j=>un t s n b (fmo out3 (J7 mm t s n b x h v) 0 12) 12 j) ?_ ?_ N (by omega) j) ?_
    ·intro j self
     rfl
    ·intro a j ha
     have b4:=CT (out:=out3) (lo:=0) (n:=a) (nW mm t s n b x h v) (k:=12) (by omega)
     rw [Br,z0]
     generalize fmo out3 (J7 mm t s n b x h v) 0 a=out4 at *
     have g4:iLe (a:Int) 11=true:=by simp only [iLe,decide_eq_true_eq];omega
     have sm:iSm ((out4.length+1:Nat):Int) 80=true:=DV (by omega) (by omega)
     refine ⟨(x,h,v,(a:Int)),fun self=>?_⟩
     rw [← xN]
     have DO:J7 mm t s n b x h v (a:Int)=cond ((CG mm (evB (Ae t s n b x h v (a:Int)))).2==0) [[.int t,.int s,.int n,.int 0,.int b,.bool x,.int h,.int v,.int (a:Int),.int 0,.bool false,.int 0]] []:=rfl
     rw [DO]
     simp only [dSt,PXb,PXc,PXn,PXm,Nat.reduceAdd,Int.reduceBEq,g4,DJ (show a≤1099511627776 by omega),Oq,Kv,RN,LEG,POS,WHK,List.length_append,List.length_cons,List.length_nil,Nat.zero_add,sm]
     cases Au (Ae t s n b x h v (a:Int))==0 with
     | false=>simp only [Bool.not_false,Bool.true_or,cond_true,List.append_nil]
     | true =>
      cases hp:A5 (Ae t s n b x h v (a:Int)) false==0 with
      | false=>simp only [cond_true,hp,Bool.not_false,Bool.not_true,Bool.or_true,Bool.false_or,Bool.and_self,Bool.true_and,cond_true,List.append_nil]
      | true =>
       simp only [cond_true,hp,Bool.not_true,Bool.or_self,Bool.and_false,Bool.true_and,cond_false]
       cases (CG mm (evB (Ae t s n b x h v (a:Int)))).2==0 with
       | false=>simp only [cond_false,List.append_nil]
       | true=>simp only [cond_true]
    ·intro j'
     exact ⟨j',fun self=>rfl⟩
   ·intro j'
    exact ⟨j',fun self=>rfl⟩
  ·intro j'
   exact ⟨j',fun self=>rfl⟩
 ·rfl
def gA (m:Mat) (t s n:Int):Rows:=fm (w4 m t s n) 0 7
def gB (m:Mat) (R:Nat) (t s:Int):Rows:=fm (gA m t s) 0 R
def gC (m:Mat) (R:Nat) (t:Int):Rows:=fm (gB m R t) 0 4
theorem sH (m:Mat) (R:Nat):Va m R=fm (gC m R) 1 3:=by
 unfold Va
 simp only [← xW]
 rfl
theorem nT (m:Mat) (t s n b:Int):(w4 m t s n b).length≤2 * (11 * (3 * (12 * 1))):=Bp (f:=fun x=>w3 m t s n b (x==1)) (fun x=>tO m t s n b (x==1)) (Nat.le_refl _)
theorem tP (m:Mat) (t s n:Int):(gA m t s n).length≤7 * (2 * (11 * (3 * (12 * 1)))):=Bp (nT m t s n) (Nat.le_refl _)
theorem tU (m:Mat) {R:Nat} (hR:R≤8) (t s:Int):(gB m R t s).length≤8 * (7 * (2 * (11 * (3 * (12 * 1))))):=Bp (tP m t s) hR
theorem tx (m:Mat) {R:Nat} (hR:R≤8) (t:Int):(gC m R t).length≤4 * (8 * (7 * (2 * (11 * (3 * (12 * 1)))))):=Bp (tU m hR t) (Nat.le_refl _)
theorem uh (m:Mat) {R:Nat} (hR:R≤8):(Va m R).length≤3 * (4 * (8 * (7 * (2 * (11 * (3 * (12 * 1))))))):=by
 rw [sH]
 exact Bp (tx m hR) (Nat.le_refl _)
set_option maxHeartbeats 1000000 in
theorem fN {N:Nat} {m1 m2 m3 m4 m5 m6 m7 m9 m10 m11 m12 m14 m15 m18 m19 m20 m21 m22:Int} {m8 m16:Bool} {m0:ByteArray} {m13:Rows} {m17:List Inn} {r:Int} (hN:2097152<N) (hf:Cr m17) (hl:m17.length≤1000000) (hs:m0.size≤1048576) (h13:m13.length≤1048576) (hr : -1≤r∧r≤7):H1 N [.str m0,.int m1,.int m2,.int m3,.int m4,.int m5,.int m6,.int m7,.bool m8,.int m9,.int m10,.int m11,.int m12,.rows m13,.int m14,.int m15,.bool m16,.rows (AL m17),.int m18,.int m19,.int m20,.int m21,.int m22,.int r]=some [.rows (Va (⟨⟨m0,m1,m2,m3,m4,m5,m6,m7,m8,m9,m10,m11,m12,m13⟩,m14,m15,m16,m17,m18,m19,m20,m21,m22⟩:Mat) (r+1).toNat)]:=by
 show Ho (std (JX N) N) (xOf _)=_
 simp only [Ho,I8,std,xOf,PXb]
 obtain ⟨R,hR⟩:∃ R:Nat,(r+1).toNat=R:=⟨_,rfl⟩
 have R8:R≤8:=by omega
 have rR:r=(R:Int) - 1:=by omega
 have WITH:∀ t s n b:Int,Km N [.str m0,.int m1,.int m2,.int m3,.int m4,.int m5,.int m6,.int m7,.bool m8,.int m9,.int m10,.int m11,.int m12,.rows m13,.int m14,.int m15,.bool m16,.rows (AL m17),.int m18,.int m19,.int m20,.int m21,.int m22,.int t,.int s,.int n,.int 0,.int b,.bool false,.int 0,.int 0,.int 0,.int 0,.bool false,.int 0]=some [.rows (w4 (⟨⟨m0,m1,m2,m3,m4,m5,m6,m7,m8,m9,m10,m11,m12,m13⟩,m14,m15,m16,m17,m18,m19,m20,m21,m22⟩:Mat) t s n b)]:=fun t s n b=>qW hN hf hl hs h13
 rw [hR,sH,← Sz,rR]
 generalize hm:(⟨⟨m0,m1,m2,m3,m4,m5,m6,m7,m8,m9,m10,m11,m12,m13⟩,m14,m15,m16,m17,m18,m19,m20,m21,m22⟩:Mat)=mm at *
 have z0:∀ a:Nat,(0:Int)+(a:Int)=(a:Int):=fun a=>Int.zero_add _
 refine AJ (Av (len:=3) (fun i=>[.rows (fmo [] (gC mm R) 1 i),.int (1+(i:Int))]) [.rows (fmo [] (gC mm R) 1 3)] ?_ ?_ N (by omega)) ?_
 ·intro self
  rfl
 ·intro a self ha
  have b1:=CT (out:=[]) (lo:=1) (n:=a) (tx mm R8) (k:=3) (by omega)
  rw [List.length_nil,Nat.zero_add] at b1
  rw [Br]
  generalize fmo [] (gC mm R) 1 a=out1 at *
  have g1:iLe (1+(a:Int)) 3=true:=by simp only [iLe,decide_eq_true_eq];omega
  have w8:IntKind.u8.wrap (1+(a:Int)+1)=1+((a+1:Nat):Int):=by rw [Ye (by omega) (by omega)];omega
  simp only [PXb,PXc,PXn,AA,g1,w8]
  generalize (1+(a:Int))=t at *
  rw [show out1++gC mm R t=fmo out1 (gB mm R t) 0 4 from (EW _ _ _ _).symm]
  refine AJ (Av (len:=4) (fun i=>[.rows (fmo out1 (gB mm R t) 0 i),.int (i:Int)]) [.rows (fmo out1 (gB mm R t) 0 4),.int 4] ?_ ?_ N (by omega)) ?_
  ·intro self
   rfl
  ·intro a self ha
   have b2:=CT (out:=out1) (lo:=0) (n:=a) (tU mm R8 t) (k:=4) (by omega)
   rw [Br,z0]
   generalize fmo out1 (gB mm R t) 0 a=out2 at *
   have g2:iLe (a:Int) 3=true:=by simp only [iLe,decide_eq_true_eq];omega
   have w8:IntKind.u8.wrap ((a:Int)+1)=((a+1:Nat):Int):=by rw [Ye (by omega) (by omega)];omega
   simp only [PXb,PXc,PXn,AA,g2,w8]
   generalize (a:Int)=s at *
   rw [show out2++gB mm R t s=fmo out2 (gA mm t s) 0 R from (EW _ _ _ _).symm]
   refine AJ (Av (len:=R) (fun i=>[.rows (fmo out2 (gA mm t s) 0 i),.int (i:Int)]) [.rows (fmo out2 (gA mm t s) 0 R),.int (R:Int)] ?_ ?_ N (by omega)) ?_
   ·intro self
    simp only [PXb,PXc,PXn,AA,tZ,Bool.false_and]
   ·intro a self ha
    have b3:=CT (out:=out2) (lo:=0) (n:=a) (tP mm t s) (k:=8) (by omega)
    rw [Br,z0]
    generalize fmo out2 (gA mm t s) 0 a=out3 at *
    have g7:iLe (a:Int) 7=true:=by simp only [iLe,decide_eq_true_eq];omega
    simp only [PXb,PXc,PXn,AA,vY ha,g7,Bool.and_self,DJ (show a≤1099511627776 by omega)]
    generalize (a:Int)=n at *
    rw [show out3++gA mm t s n=fmo out3 (w4 mm t s n) 0 7 from (EW _ _ _ _).symm]
    refine AJ (Av (len:=7) (fun i=>[.rows (fmo out3 (w4 mm t s n) 0 i),.int (i:Int)]) [.rows (fmo out3 (w4 mm t s n) 0 7),.int 7] ?_ ?_ N (by omega)) ?_
    ·intro self
     rfl
    ·intro a self ha
     have b4:=CT (out:=out3) (lo:=0) (n:=a) (nT mm t s n) (k:=7) (by omega)
     have b5:=nT mm t s n (a:Int)
     rw [Br,z0]
     generalize fmo out3 (w4 mm t s n) 0 a=out4 at *
     have g6:iLe (a:Int) 6=true:=by simp only [iLe,decide_eq_true_eq];omega
     have sm:iSm ((out4.length+(w4 mm t s n (a:Int)).length:Nat):Int) 80=true:=DV (by omega) (by omega)
     simp only [PXb,PXc,PXn,AA,g6,DJ (show a≤1099511627776 by omega),I8,WITH,List.length_append,sm]
    ·simp only [PXb,PXc,PXn,AA]
   ·simp only [PXb,PXc,PXn,AA]
  ·simp only [PXb,PXc,PXn,AA]
 ·rfl
end Go.Px
end
section
namespace Go.Px
set_option maxRecDepth 100000
theorem UL {N:Nat} {L:Rows} (hN:2097152<N) (h:L.length≤1048576):DW N [.rows L,.rows L]=some [.bool true]:=by
 show DT (std (I7 N) N) (xOf _)=_
 simp only [DT,std,xOf,PXb,PXm]
 refine AJ (Av (len:=L.length) (fun i=>[.int (i:Int)]) [.int 1] ?_ ?_ N (by omega)) ?_
 ·intro self
  simp only [PXb,PXc,PXn,AA,Ap]
 ·intro i self hi
  simp only [PXb,PXc,PXn,PXm,Nat.reduceAdd,Int.reduceBEq,AW (show i≤1099511627776 by omega),Ah hi,AP hi]
  rfl
 ·simp only [PXb,PXc,PXn,PXm,Nat.reduceAdd,Int.reduceBEq]
theorem xL {u:Int} (h:0≤u∧u≤255) : -1≤IntKind.i64.wrap ((IntKind.i64.wrap u).tmod 4 - 1)∧IntKind.i64.wrap ((IntKind.i64.wrap u).tmod 4 - 1)≤7:=by
 rw [Dn (n:=u) (by omega) (by omega),Int.tmod_eq_emod_of_nonneg h.1,Dn (by omega) (by omega)]
 omega
set_option maxHeartbeats 1000000 in
theorem XP {N:Nat} {m1 m2 m3 m4 m5 m6 m7 m9 m10 m11 m12 m14 m15 m18 m19 m20 m21 m22:Int} {m8 m16:Bool} {m0:ByteArray} {m13:Rows} {m17:List Inn} {u:Int} (ha:LP N []=some [.bool true]) (hN:2097152<N) (hs:m0.size≤1048576) (ru:0≤u∧u≤255):Cy N [.str m0,.int m1,.int m2,.int m3,.int m4,.int m5,.int m6,.int m7,.bool m8,.int m9,.int m10,.int m11,.int m12,.rows m13,.int m14,.int m15,.bool m16,.rows (AL m17),.int m18,.int m19,.int m20,.int m21,.int m22,.int u]=some [.bool true]:=by
 show C2 (std (Aw N) N) (xOf _)=_
 have nn:(jJ (⟨⟨m0,m1,m2,m3,m4,m5,m6,m7,m8,m9,m10,m11,m12,m13⟩,m14,m15,m16,m17,m18,m19,m20,m21,m22⟩:Mat)).rules.name.size≤1048576:=mD (⟨⟨m0,m1,m2,m3,m4,m5,m6,m7,m8,m9,m10,m11,m12,m13⟩,m14,m15,m16,m17,m18,m19,m20,m21,m22⟩:Mat).rules hs
 have pp:(jJ (⟨⟨m0,m1,m2,m3,m4,m5,m6,m7,m8,m9,m10,m11,m12,m13⟩,m14,m15,m16,m17,m18,m19,m20,m21,m22⟩:Mat)).rules.power.length≤1048576:=lT (⟨⟨m0,m1,m2,m3,m4,m5,m6,m7,m8,m9,m10,m11,m12,m13⟩,m14,m15,m16,m17,m18,m19,m20,m21,m22⟩:Mat).rules
 have ok:=v9 (m:=(⟨⟨m0,m1,m2,m3,m4,m5,m6,m7,m8,m9,m10,m11,m12,m13⟩,m14,m15,m16,m17,m18,m19,m20,m21,m22⟩:Mat))
 have hl:=Nat.le_trans ok.len (show 5≤1000000 by omega)
 have r4:=xL ru
 have dl:=uh (jJ (⟨⟨m0,m1,m2,m3,m4,m5,m6,m7,m8,m9,m10,m11,m12,m13⟩,m14,m15,m16,m17,m18,m19,m20,m21,m22⟩:Mat)) (R:=(IntKind.i64.wrap ((IntKind.i64.wrap u).tmod 4 - 1)+1).toNat) (by omega)
 simp only [C2,NG,PC,Iu,GU,KE,std,xOf,PXb,PXc,PXn,PXm,Nat.reduceAdd,Int.reduceBEq,ha,tG hN,PXk,au hN ok.fit hl nn pp r4,fN hN ok.fit hl nn pp r4,UL hN (show (Va (jJ (⟨⟨m0,m1,m2,m3,m4,m5,m6,m7,m8,m9,m10,m11,m12,m13⟩,m14,m15,m16,m17,m18,m19,m20,m21,m22⟩:Mat)) (IntKind.i64.wrap ((IntKind.i64.wrap u).tmod 4 - 1)+1).toNat).length≤1048576 by omega)]
end Go.Px
end
