/- Part 12. -/
import Derived.Test.YteolngdncakekaaGreatPart11
import Derived.KernelRfl
set_option linter.unusedVariables false
set_option linter.unusedSimpArgs false
section
namespace Go.Px
set_option maxRecDepth 100000
theorem de {N:Nat} (l:Int):Cc N [.int l]=Cc 0 [.int l]:=rfl
def bW (l:Int):ByteArray:=match Cc 0 [.int l] with
 | some [.str s]=>s
 | _=>ByteArray.empty
theorem Zg {N:Nat} (l:Int):Cc N [.int l]=some [.str (bW l)]:=by
 rw [de]
 have:∃ s,Cc 0 [.int l]=some [.str s]:=by
  show ∃ s,Kz (std (Qq 0) 0) (xOf _)=some [.str s]
  simp only [Kz,std,xOf,PXb,PXc,PXn,PXm,Nat.reduceAdd,Int.reduceBEq]
  cases h:(iLt l 0||iLe ((27:Nat):Int) l) with
  | true=>exact ⟨_,by simp only [List.length_cons,List.length_nil,Nat.reduceAdd,h,cond_true];rfl⟩
  | false =>
   have hi:iIn l ((27:Nat):Int)=true:=by
    simp only [iLt,iLe,Bool.or_eq_false_iff,decide_eq_false_iff_not] at h
    simp only [iIn,decide_eq_true_eq]
    omega
   exact ⟨_,by simp only [List.length_cons,List.length_nil,Nat.reduceAdd,h,cond_false,hi,cond_true];rfl⟩
 obtain ⟨s,hs⟩:=this
 unfold bW
 rw [hs]
def Xl:Rul:=⟨⟨#[84,87,79]⟩,2,1,1,4,0,1,1,false,0,0,0,0,[]⟩
def Vi:Mat:=⟨Xl,1,0,false,[],0,0,0,0,0⟩
def Vh:Mat:=⟨Xl,2,1,false,[],0,0,0,0,0⟩
def evN (k s p o:Int) (y:Bool):List PV:=[.int k,.int s,.int p,.int o,.bool y,.int 0,.int 0,.int 0,.int 0,.int 0,.int 0,.int 0,.bool false,.int 0,.int 0,.int 0,.int 0,.bool false,.int 0]
theorem jT:Yl Xl=(Vi,0):=by kernel_rfl
theorem iM:T1 Vi=[evN 1 1 0 0 false,evN 1 1 0 0 true,evN 1 2 0 0 false,evN 1 2 0 0 true,evN 16 0 0 0 false]:=by kernel_rfl
theorem ii:Bb Vi (evK 1 1 0 0 true 0)=(Vh,0):=by kernel_rfl
theorem gf:T1 Vh=[evN 2 0 1 2 false,evN 2 0 2 1 false,evN 16 0 0 0 false]:=by kernel_rfl
theorem je:(Bb Vh (evK 1 1 0 0 true 0)).2=1:=by kernel_rfl
theorem iI {N:Nat}:MZ N []=some [.str ⟨#[84,87,79]⟩,.int 2,.int 1,.int 1,.int 4,.int 0,.int 1,.int 1,.bool false,.int 0,.int 0,.int 0,.int 0,.rows []]:=rfl
theorem iZ:bW 1=⟨#[80,72,65,83,69]⟩:=by kernel_rfl
set_option maxHeartbeats 1000000 in
theorem ah:JB 4194304 []=some [.bool true]:=by
 have hN:2097152<4194304:=by omega
 have hs:Xl.name.size≤1048576:=by decide
 have hf:Gh ([]:List Inn):=fun i hi=>absurd hi (Nat.not_lt_zero _)
 have k1:FU 4194304 Xl.ls=some (Pp (Yl Xl)):=aY hN hs (Nat.zero_le _)
 have k2:Cb 4194304 Vi.ls=some [.rows (T1 Vi)]:=TZ hN hf (Nat.zero_le _) hs (Nat.zero_le _)
 have k3:Bd 4194304 (Vi.ls++evN 1 1 0 0 true)=some (Pp (Bb Vi (evK 1 1 0 0 true 0))):=Ou hN hf (Nat.zero_le _) hs (Nat.zero_le _)
 have k4:Cb 4194304 Vh.ls=some [.rows (T1 Vh)]:=TZ hN hf (Nat.zero_le _) hs (Nat.zero_le _)
 have k5:Bj 4194304 (Vh.ls++evN 1 1 0 0 true)=some [.int (Bb Vh (evK 1 1 0 0 true 0)).2]:=P7 hN hf (Nat.zero_le _) hs (Nat.zero_le _)
 have k6:=Zg (N:=4194304) 1
 rw [jT] at k1
 rw [iM] at k2
 rw [ii] at k3
 rw [gf] at k4
 rw [je] at k5
 rw [iZ] at k6
 obtain ⟨R,hR⟩:∃ R:Rows,R=[evN 1 1 0 0 false,evN 1 1 0 0 true,evN 1 2 0 0 false,evN 1 2 0 0 true,evN 16 0 0 0 false]:=⟨_,rfl⟩
 obtain ⟨Q,hQ⟩:∃ Q:Rows,Q=[evN 2 0 1 2 false,evN 2 0 2 1 false,evN 16 0 0 0 false]:=⟨_,rfl⟩
 rw [← hR] at k2
 rw [← hQ] at k4
 have lR:R.length=5:=by rw [hR];rfl
 have lQ:Q.length=3:=by rw [hQ];rfl
 have f0_0:pvI (AB R 0 0)=1:=by rw [hR];rfl
 have f0_1:pvI (AB R 0 1)=1:=by rw [hR];rfl
 have f0_2:pvI (AB R 0 2)=0:=by rw [hR];rfl
 have f0_3:pvI (AB R 0 3)=0:=by rw [hR];rfl
 have f0_4:pvB (AB R 0 4)=false:=by rw [hR];rfl
 have f0_5:pvI (AB R 0 5)=0:=by rw [hR];rfl
 have f0_6:pvI (AB R 0 6)=0:=by rw [hR];rfl
 have f0_7:pvI (AB R 0 7)=0:=by rw [hR];rfl
 have f0_8:pvI (AB R 0 8)=0:=by rw [hR];rfl
 have f0_9:pvI (AB R 0 9)=0:=by rw [hR];rfl
 have f0_10:pvI (AB R 0 10)=0:=by rw [hR];rfl
 have f0_11:pvI (AB R 0 11)=0:=by rw [hR];rfl
 have f0_12:pvB (AB R 0 12)=false:=by rw [hR];rfl
 have f0_13:pvI (AB R 0 13)=0:=by rw [hR];rfl
 have f0_14:pvI (AB R 0 14)=0:=by rw [hR];rfl
 have f0_15:pvI (AB R 0 15)=0:=by rw [hR];rfl
 have f0_16:pvI (AB R 0 16)=0:=by rw [hR];rfl
 have f0_17:pvB (AB R 0 17)=false:=by rw [hR];rfl
 have f0_18:pvI (AB R 0 18)=0:=by rw [hR];rfl
 have f1_0:pvI (AB R 1 0)=1:=by rw [hR];rfl
 have f1_1:pvI (AB R 1 1)=1:=by rw [hR];rfl
 have f1_2:pvI (AB R 1 2)=0:=by rw [hR];rfl
 have f1_3:pvI (AB R 1 3)=0:=by rw [hR];rfl
 have f1_4:pvB (AB R 1 4)=true:=by rw [hR];rfl
 have f1_5:pvI (AB R 1 5)=0:=by rw [hR];rfl
 have f1_6:pvI (AB R 1 6)=0:=by rw [hR];rfl
 have f1_7:pvI (AB R 1 7)=0:=by rw [hR];rfl
 have f1_8:pvI (AB R 1 8)=0:=by rw [hR];rfl
 have f1_9:pvI (AB R 1 9)=0:=by rw [hR];rfl
 have f1_10:pvI (AB R 1 10)=0:=by rw [hR];rfl
 have f1_11:pvI (AB R 1 11)=0:=by rw [hR];rfl
 have f1_12:pvB (AB R 1 12)=false:=by rw [hR];rfl
 have f1_13:pvI (AB R 1 13)=0:=by rw [hR];rfl
 have f1_14:pvI (AB R 1 14)=0:=by rw [hR];rfl
 have f1_15:pvI (AB R 1 15)=0:=by rw [hR];rfl
 have f1_16:pvI (AB R 1 16)=0:=by rw [hR];rfl
 have f1_17:pvB (AB R 1 17)=false:=by rw [hR];rfl
 have f1_18:pvI (AB R 1 18)=0:=by rw [hR];rfl
 have f4_0:pvI (AB R 4 0)=16:=by rw [hR];rfl
 have f4_1:pvI (AB R 4 1)=0:=by rw [hR];rfl
 have f4_2:pvI (AB R 4 2)=0:=by rw [hR];rfl
 have f4_3:pvI (AB R 4 3)=0:=by rw [hR];rfl
 have f4_4:pvB (AB R 4 4)=false:=by rw [hR];rfl
 have f4_5:pvI (AB R 4 5)=0:=by rw [hR];rfl
 have f4_6:pvI (AB R 4 6)=0:=by rw [hR];rfl
 have f4_7:pvI (AB R 4 7)=0:=by rw [hR];rfl
 have f4_8:pvI (AB R 4 8)=0:=by rw [hR];rfl
 have f4_9:pvI (AB R 4 9)=0:=by rw [hR];rfl
 have f4_10:pvI (AB R 4 10)=0:=by rw [hR];rfl
 have f4_11:pvI (AB R 4 11)=0:=by rw [hR];rfl
 have f4_12:pvB (AB R 4 12)=false:=by rw [hR];rfl
 have f4_13:pvI (AB R 4 13)=0:=by rw [hR];rfl
 have f4_14:pvI (AB R 4 14)=0:=by rw [hR];rfl
 have f4_15:pvI (AB R 4 15)=0:=by rw [hR];rfl
 have f4_16:pvI (AB R 4 16)=0:=by rw [hR];rfl
 have f4_17:pvB (AB R 4 17)=false:=by rw [hR];rfl
 have f4_18:pvI (AB R 4 18)=0:=by rw [hR];rfl
 clear hR hQ
 change FU 4194304 [.str ⟨#[84,87,79]⟩,.int 2,.int 1,.int 1,.int 4,.int 0,.int 1,.int 1,.bool false,.int 0,.int 0,.int 0,.int 0,.rows []]=some [.str ⟨#[84,87,79]⟩,.int 2,.int 1,.int 1,.int 4,.int 0,.int 1,.int 1,.bool false,.int 0,.int 0,.int 0,.int 0,.rows [],.int 1,.int 0,.bool false,.rows [],.int 0,.int 0,.int 0,.int 0,.int 0,.int 0] at k1
 change Cb 4194304 [.str ⟨#[84,87,79]⟩,.int 2,.int 1,.int 1,.int 4,.int 0,.int 1,.int 1,.bool false,.int 0,.int 0,.int 0,.int 0,.rows [],.int 1,.int 0,.bool false,.rows [],.int 0,.int 0,.int 0,.int 0,.int 0]=some [.rows R] at k2
 change Bd 4194304 [.str ⟨#[84,87,79]⟩,.int 2,.int 1,.int 1,.int 4,.int 0,.int 1,.int 1,.bool false,.int 0,.int 0,.int 0,.int 0,.rows [],.int 1,.int 0,.bool false,.rows [],.int 0,.int 0,.int 0,.int 0,.int 0,.int 1,.int 1,.int 0,.int 0,.bool true,.int 0,.int 0,.int 0,.int 0,.int 0,.int 0,.int 0,.bool false,.int 0,.int 0,.int 0,.int 0,.bool false,.int 0]=some [.str ⟨#[84,87,79]⟩,.int 2,.int 1,.int 1,.int 4,.int 0,.int 1,.int 1,.bool false,.int 0,.int 0,.int 0,.int 0,.rows [],.int 2,.int 1,.bool false,.rows [],.int 0,.int 0,.int 0,.int 0,.int 0,.int 0] at k3
 change Cb 4194304 [.str ⟨#[84,87,79]⟩,.int 2,.int 1,.int 1,.int 4,.int 0,.int 1,.int 1,.bool false,.int 0,.int 0,.int 0,.int 0,.rows [],.int 2,.int 1,.bool false,.rows [],.int 0,.int 0,.int 0,.int 0,.int 0]=some [.rows Q] at k4
 change Bj 4194304 [.str ⟨#[84,87,79]⟩,.int 2,.int 1,.int 1,.int 4,.int 0,.int 1,.int 1,.bool false,.int 0,.int 0,.int 0,.int 0,.rows [],.int 2,.int 1,.bool false,.rows [],.int 0,.int 0,.int 0,.int 0,.int 0,.int 1,.int 1,.int 0,.int 0,.bool true,.int 0,.int 0,.int 0,.int 0,.int 0,.int 0,.int 0,.bool false,.int 0,.int 0,.int 0,.int 0,.bool false,.int 0]=some [.int 1] at k5
 have t0:(0:Int).toNat=0:=rfl
 have t1:(1:Int).toNat=1:=rfl
 have t4:(4:Int).toNat=4:=rfl
 have c5:((5:Nat):Int)=5:=rfl
 have c3:((3:Nat):Int)=3:=rfl
 have i0:iIn 0 5=true:=by decide
 have i1:iIn 1 5=true:=by decide
 have i4:iIn 4 5=true:=by decide
 show MP (std (Cj 4194304) 4194304) (xOf [])=_
 simp only [MP,QB,Pz,P9,QZ,Qc,SO,std,xOf,PXb,PXc,PXn,PXm,Nat.reduceAdd,Int.reduceBEq,iI,k1,k2,lR,lQ,t0,t1,t4,c5,c3,i0,i1,i4,f0_0,f0_1,f0_2,f0_3,f0_4,f0_5,f0_6,f0_7,f0_8,f0_9,f0_10,f0_11,f0_12,f0_13,f0_14,f0_15,f0_16,f0_17,f0_18,f1_0,f1_1,f1_2,f1_3,f1_4,f1_5,f1_6,f1_7,f1_8,f1_9,f1_10,f1_11,f1_12,f1_13,f1_14,f1_15,f1_16,f1_17,f1_18,f4_0,f4_1,f4_2,f4_3,f4_4,f4_5,f4_6,f4_7,f4_8,f4_9,f4_10,f4_11,f4_12,f4_13,f4_14,f4_15,f4_16,f4_17,f4_18,k3,k4,k5,k6,beq_self_eq_true,Int.reduceBEq]
end Go.Px
end
section
namespace Go.Px
set_option maxRecDepth 100000
def evB (d:Del):Ev:=⟨4,0,0,0,false,0,0,d⟩
def AP (t s n b:Int) (x:Bool) (h v f:Int):Del:=⟨t,s,n,0,b,x,h,v,f,0,false,0⟩
def QA (x:List PV):Del:=⟨pvI (AD x 0),pvI (AD x 1),pvI (AD x 2),pvI (AD x 3),pvI (AD x 4),pvB (AD x 5),pvI (AD x 6),pvI (AD x 7),pvI (AD x 8),pvI (AD x 9),pvB (AD x 10),pvI (AD x 11)⟩
def DV (m:Mat) (d:Del):Bool:=(Bb m (evB d)).2==0
structure AccD (m:Mat) (d:Del):Prop where
 stage:(m.stage==3)=true
 some':((m.inns.length:Int)==0)=false
 valid:Cw m=true
 legal:(Ay d==0)=true
 poss:(BP d (BB m).freehit==0)=true
 poss0:(BP d false==0)=true
 type:1≤d.type∧d.type≤3
 source:d.source≤3
 how:d.how≤10
 runs:0≤d.runs∧d.runs≤7
 boundary:d.boundary=0∨d.boundary=4∨d.boundary=6
 victim:0≤d.victim∧d.victim≤2
 fielder:0≤d.fielder∧d.fielder≤11
theorem cf {d:Del} {b:Bool} (h:(BP d b==0)=true):(BP d false==0)=true:=by
 unfold BP at h ⊢
 cases h0:d.how==0 with
 | true=>rw [h0] at h;exact h
 | false =>
  rw [h0] at h
  simp only [cond_false] at h ⊢
  cases ho:onS d.how d.type with
  | false=>rw [ho] at h;cases h
  | true =>
   rw [ho] at h
   cases hb:(b && !Yf d.how) with
   | true=>rw [hb] at h;cases h
   | false =>
    rw [hb] at h
    exact h
theorem WL {m:Mat} {d:Del} (h:DV m d=true):AccD m d:=by
 obtain ⟨h1,h2,h3,h4,h5⟩:=VE h
 obtain ⟨g1,g2,g3,g4⟩:=bq h rfl
 obtain ⟨hv,he,hn,hw,hp,hs⟩:=ao g3
 have hpb:CO m.rules (BB m) (evB d)=ML m.rules (BB m) d:=rfl
 rw [hpb] at hp
 obtain ⟨q1,q2,q3,q4,q5,q6⟩:=di (gt hp).1
 have ne:=beq_iff_eq.1 h2
 unfold evS at ne
 have z:(cond (Rm (evB d)) 1 (cond (OQ (evB d)) 2 (RX d)):Int)=0:=ne
 have no:RX d=0:=by
  cases e1:Rm (evB d) with
  | true=>rw [e1] at z;cases z
  | false =>
   cases e2:OQ (evB d) with
   | true=>rw [e1,e2] at z;cases z
   | false=>rw [e1,e2] at z;exact z
 unfold RX at no
 cases k1:(iLt d.type 1||iLt 3 d.type||iLt 3 d.source||iLt 10 d.how) with
 | true=>rw [k1] at no;cases no
 | false =>
  rw [k1] at no
  cases k2:(!btw d.runs 0 7 || !btw d.short 0 d.runs||(!(d.boundary==0) && !(d.boundary==4) && !(d.boundary==6)) || !btw d.victim 0 2 || !btw d.fielder 0 11 || !btw d.second 0 11 || !btw d.sector 0 8) with
  | true=>rw [k2] at no;cases no
  | false =>
   simp only [Bool.or_eq_false_iff,Bool.and_eq_false_iff,Bool.not_eq_false',beq_iff_eq,iLt,iLe,btw,Bool.and_eq_true,decide_eq_true_eq,decide_eq_false_iff_not] at k1 k2
   refine ⟨g1,g2,h1,q4,q5,cf q5,by omega,by omega,by omega,by omega,?_,by omega,by omega⟩
   rcases k2.1.1.1.1.2 with (k | k) | k
   ·exact Or.inl k
   ·exact Or.inr (Or.inl k)
   ·exact Or.inr (Or.inr k)
def FT (m:Mat) (t s n b:Int) (x:Bool) (h v f:Int):Rows:=cond (DV m (AP t s n b x h v f)) [(AP t s n b x h v f).ls] []
def P5 (g:Int→Int→Int→Rows):Rows:=fm (fun h=>fm (fun v=>fm (fun f=>g h v f) 0 12) 0 3) 0 11
def L0 (m:Mat) (R:Nat):Rows:=fm (fun t=>fm (fun s=>fm (fun n=>fm (fun b=>yF true fun x=>P5 (FT m t s n b x)) 0 7) 0 R) 0 4) 1 3
def flt (q:List PV→Bool):Rows→Rows
 | []=>[]
 | x::D=>cond (q x) [x] []++flt q D
theorem XB (q:List PV→Bool):∀ A B,flt q (A++B)=flt q A++flt q B
 | [],B=>rfl
 | x::A,B=>by
  show cond (q x) [x] []++flt q (A++B)=cond (q x) [x] []++flt q A++flt q B
  rw [XB q A B,List.append_assoc]
theorem WT (q:List PV→Bool) (f:Int→Rows) (lo:Int):∀ n:Nat,flt q (fm f lo n)=fm (fun i=>flt q (f i)) lo n
 | 0=>rfl
 | n+1=>by rw [Ep,Ep,XB,WT q f lo n]
theorem dG {D:Rows} {i:Nat} (h:i<D.length):D.take (i+1)=D.take i++[Ac D i]:=by
 rw [List.take_add_one,List.getElem?_eq_getElem h]
 unfold Ac
 rw [List.getD_eq_getElem?_getD,List.getElem?_eq_getElem h]
 rfl
theorem ec (q:List PV→Bool) {D:Rows} {i:Nat} (h:i<D.length):flt q (D.take (i+1))=flt q (D.take i)++cond (q (Ac D i)) [Ac D i] []:=by
 rw [dG h,XB]
 show _++(cond (q (Ac D i)) [Ac D i] []++[])=_
 rw [List.append_nil]
def Jr (t s n b:Int) (x:Bool) (free:Bool):Rows:=P5 fun h v f=>cond (Ay (AP t s n b x h v f)==0&&BP (AP t s n b x h v f) free==0) [(AP t s n b x h v f).ls] []
def eZ (m:Mat) (R:Nat):Rows:=fm (fun t=>fm (fun s=>fm (fun n=>(fun g:Int→Rows=>g 0++g 4++g 6) fun b=>yF true fun x=>flt (fun y=>DV m (QA y)) (Jr t s n b x (BB m).freehit)) 0 R) 0 4) 1 3
theorem b3 {g:Int→Rows} (hz:∀ b,¬ (b=0∨b=4∨b=6)→g b=[]):fm g 0 7=g 0++g 4++g 6:=by
 show []++g (0+((0:Nat):Int))++g (0+((1:Nat):Int))++g (0+((2:Nat):Int))++g (0+((3:Nat):Int))++g (0+((4:Nat):Int))++g (0+((5:Nat):Int))++g (0+((6:Nat):Int))=_
 rw [hz (0+((1:Nat):Int)) (by omega),hz (0+((2:Nat):Int)) (by omega),hz (0+((3:Nat):Int)) (by omega),hz (0+((5:Nat):Int)) (by omega)]
 simp only [List.append_nil,List.nil_append]
 rfl
theorem am (q:List PV→Bool) (x:List PV):flt q [x]=cond (q x) [x] []:=List.append_nil _
theorem jS (m:Mat) (R:Nat):eZ m R=L0 m R:=by
 unfold eZ L0
 refine On _ fun t _ _=>On _ fun s _ _=>On _ fun n _ _=>?_
 have e:∀ b x,flt (fun y=>DV m (QA y)) (Jr t s n b x (BB m).freehit)=P5 (FT m t s n b x):=fun b x=>by
  unfold Jr P5
  rw [WT]
  refine On _ fun h _ _=>?_
  rw [WT]
  refine On _ fun v _ _=>?_
  rw [WT]
  refine On _ fun f _ _=>?_
  show flt (fun y=>DV m (QA y)) (cond (Ay (AP t s n b x h v f)==0&&BP (AP t s n b x h v f) (BB m).freehit==0) [(AP t s n b x h v f).ls] [])=cond (DV m (AP t s n b x h v f)) [(AP t s n b x h v f).ls] []
  cases hx:DV m (AP t s n b x h v f) with
  | false =>
   cases (Ay (AP t s n b x h v f)==0&&BP (AP t s n b x h v f) (BB m).freehit==0) with
   | false=>rfl
   | true =>
    rw [cond_true,am,show DV m (QA (AP t s n b x h v f).ls)=DV m (AP t s n b x h v f) from rfl,hx]
  | true =>
   have a:=WL hx
   rw [a.legal,a.poss,Bool.and_true,cond_true,am,show DV m (QA (AP t s n b x h v f).ls)=DV m (AP t s n b x h v f) from rfl,hx]
   rfl
 show yF true (fun x=>flt _ (Jr t s n 0 x _))++yF true (fun x=>flt _ (Jr t s n 4 x _))++yF true (fun x=>flt _ (Jr t s n 6 x _))=_
 simp only [e]
 refine (b3 (g:=fun b=>yF true fun x=>P5 (FT m t s n b x)) fun b hb=>dk fun x=>?_).symm
 refine Hs _ fun h _ _=>Hs _ fun v _ _=>Hs _ fun f _ _=>?_
 unfold FT
 cases hx:DV m (AP t s n b x h v f) with
 | false=>rfl
 | true=>exact absurd (WL hx).boundary hb
end Go.Px
end
section
namespace Go.Px
set_option maxRecDepth 100000
theorem gE {g:Int→Int→Int→Rows} (h:∀ a b c,(g a b c).length≤1):(P5 g).length≤11 * (3 * (12 * 1)) :=
 BZ (fun a=>BZ (fun b=>BZ (fun c=>h a b c) (Nat.le_refl 12)) (Nat.le_refl 3)) (Nat.le_refl 11)
theorem Zr (t s n b:Int) (x free:Bool) (h v f:Int):(cond (Ay (AP t s n b x h v f)==0&&BP (AP t s n b x h v f) free==0) [(AP t s n b x h v f).ls] ([]:Rows)).length≤1:=by
 cases (Ay (AP t s n b x h v f)==0&&BP (AP t s n b x h v f) free==0)
 ·exact Nat.zero_le _
 ·exact Nat.le_refl _
set_option maxHeartbeats 4000000 in
theorem Vw {N:Nat} {t s n b h0 v0 f0:Int} {x free:Bool} (hN:2097152<N):HW N [.int t,.int s,.int n,.int 0,.int b,.bool x,.int h0,.int v0,.int f0,.int 0,.bool false,.int 0,.bool free]=some [.rows (Jr t s n b x free)]:=by
 show HY (std (Fh N) N) (xOf _)=_
 have LEG:∀ h v f:Int,Ax N [.int t,.int s,.int n,.int 0,.int b,.bool x,.int h,.int v,.int f,.int 0,.bool false,.int 0]=some [.int (Ay (AP t s n b x h v f))]:=fun h v f=>Jv
 have POS:∀ h v f:Int,A2 N [.int t,.int s,.int n,.int 0,.int b,.bool x,.int h,.int v,.int f,.int 0,.bool false,.int 0,.bool free]=some [.int (BP (AP t s n b x h v f) free)]:=fun h v f=>Ke hN
 have DLS:∀ h v f:Int,(AP t s n b x h v f).ls=[.int t,.int s,.int n,.int 0,.int b,.bool x,.int h,.int v,.int f,.int 0,.bool false,.int 0]:=fun h v f=>rfl
 unfold Jr P5
 have l1:∀ h v f:Int,(cond (Ay (AP t s n b x h v f)==0&&BP (AP t s n b x h v f) free==0) [(AP t s n b x h v f).ls] ([]:Rows)).length≤1:=Zr t s n b x free
 have l2:∀ h v:Int,(fm (fun f=>cond (Ay (AP t s n b x h v f)==0&&BP (AP t s n b x h v f) free==0) [(AP t s n b x h v f).ls] ([]:Rows)) 0 12).length≤12 * 1:=fun h v=>BZ (l1 h v) (Nat.le_refl _)
 have l3:∀ h:Int,(fm (fun v=>fm (fun f=>cond (Ay (AP t s n b x h v f)==0&&BP (AP t s n b x h v f) free==0) [(AP t s n b x h v f).ls] ([]:Rows)) 0 12) 0 3).length≤3 * (12 * 1):=fun h=>BZ (l2 h) (Nat.le_refl _)
 have z0:∀ a:Nat,(0:Int)+(a:Int)=(a:Int):=fun a=>Int.zero_add _
 simp only [HY,E5,Dl,std,xOf,PXb]
 rw [← Tz]
 refine AM (BE (len:=11) (fun i=>[.rows (fmo [] (fun h=>fm (fun v=>fm (fun f=>cond (Ay (AP t s n b x h v f)==0&&BP (AP t s n b x h v f) free==0) [(AP t s n b x h v f).ls] ([]:Rows)) 0 12) 0 3) 0 i),.int (i:Int)]) [.rows (fmo [] (fun h=>fm (fun v=>fm (fun f=>cond (Ay (AP t s n b x h v f)==0&&BP (AP t s n b x h v f) free==0) [(AP t s n b x h v f).ls] ([]:Rows)) 0 12) 0 3) 0 11)] ?_ ?_ N (by omega)) ?_
 ·intro self
  rfl
 ·intro a self ha
  have b1:=Fl (out:=[]) (lo:=0) (n:=a) l3 (k:=11) (by omega)
  rw [List.length_nil,Nat.zero_add] at b1
  rw [D9,z0]
  generalize fmo [] (fun h=>fm (fun v=>fm (fun f=>cond (Ay (AP t s n b x h v f)==0&&BP (AP t s n b x h v f) free==0) [(AP t s n b x h v f).ls] ([]:Rows)) 0 12) 0 3) 0 a=out1 at *
  rw [← It]
  have g1:iLe (a:Int) 10=true:=by simp only [iLe,decide_eq_true_eq];omega
  have w8:IntKind.u8.wrap ((a:Int)+1)=((a+1:Nat):Int):=by rw [Yi (by omega) (by omega)];omega
  simp only [PXb,PXc,PXn,AF,g1,w8]
  generalize (a:Int)=h at *
  refine AM (BE (len:=3) (fun i=>[.rows (fmo out1 (fun v=>fm (fun f=>cond (Ay (AP t s n b x h v f)==0&&BP (AP t s n b x h v f) free==0) [(AP t s n b x h v f).ls] ([]:Rows)) 0 12) 0 i),.int (i:Int)]) [.rows (fmo out1 (fun v=>fm (fun f=>cond (Ay (AP t s n b x h v f)==0&&BP (AP t s n b x h v f) free==0) [(AP t s n b x h v f).ls] ([]:Rows)) 0 12) 0 3),.int 3] ?_ ?_ N (by omega)) ?_
  ·intro self
   rfl
  ·intro a self ha
   have b2:=Fl (out:=out1) (lo:=0) (n:=a) (l2 h) (k:=3) (by omega)
   rw [D9,z0]
   generalize fmo out1 (fun v=>fm (fun f=>cond (Ay (AP t s n b x h v f)==0&&BP (AP t s n b x h v f) free==0) [(AP t s n b x h v f).ls] ([]:Rows)) 0 12) 0 a=out2 at *
   rw [← It]
   have g2:iLt (a:Int) 3=true:=by simp only [iLt,decide_eq_true_eq];omega
   simp only [PXb,PXc,PXn,AF,g2,D3 (show a≤1099511627776 by omega)]
   generalize (a:Int)=v at *
   refine AM (BE (len:=12) (fun i=>[.rows (fmo out2 (fun f=>cond (Ay (AP t s n b x h v f)==0&&BP (AP t s n b x h v f) free==0) [(AP t s n b x h v f).ls] ([]:Rows)) 0 i),.int (i:Int)]) [.rows (fmo out2 (fun f=>cond (Ay (AP t s n b x h v f)==0&&BP (AP t s n b x h v f) free==0) [(AP t s n b x h v f).ls] ([]:Rows)) 0 12),.int 12] ?_ ?_ N (by omega)) ?_
   ·intro self
    rfl
   ·intro a self ha
    have b3:=Fl (out:=out2) (lo:=0) (n:=a) (l1 h v) (k:=12) (by omega)
    rw [D9,z0]
    generalize fmo out2 (fun f=>cond (Ay (AP t s n b x h v f)==0&&BP (AP t s n b x h v f) free==0) [(AP t s n b x h v f).ls] ([]:Rows)) 0 a=out3 at *
    have g3:iLt (a:Int) 12=true:=by simp only [iLt,decide_eq_true_eq];omega
    have sm:iSm ((out3.length+1:Nat):Int) 80=true:=Fj (by omega) (by omega)
    simp only [PXb,PXc,PXn,AF,g3,D3 (show a≤1099511627776 by omega),E5,Dl,LEG,POS,DLS,List.length_append,List.length_cons,List.length_nil,Nat.zero_add,sm]
    cases Ay (AP t s n b x h v (a:Int))==0 with
    | false=>simp only [Bool.false_and,cond_false,List.append_nil]
    | true =>
     cases hp:BP (AP t s n b x h v (a:Int)) free==0 with
     | false=>simp only [cond_true,hp,Bool.and_false,cond_false,List.append_nil]
     | true=>simp only [cond_true,hp,Bool.and_self]
   ·simp only [PXb,PXc,PXn,AF]
  ·simp only [PXb,PXc,PXn,AF]
 ·rfl
end Go.Px
end
section
namespace Go.Px
set_option maxRecDepth 100000
def jQ:List PV:=[.int 0,.int 0,.int 0,.int 0,.int 0,.int 0,.int 0,.int 0,.int 0,.int 0,.int 0,.int 0,.int 0,.int 0,.rows [],.int 0,.rows [],.rows [],.bool false,.rows [],.bool false,.int 0,.int 0,.int 0,.rows [],.int 0,.int 0,.int 0,.bool false]
def bk (s:Inn):List PV:=[.int s.side,.int s.target,.int s.overs,.int s.runs,.int s.wickets,.int s.wides,.int s.noballs,.int s.byes,.int s.legbyes,.int s.pens,.int s.complete,.int s.inover,.int s.striker,.int s.other,.rows s.batters,.int s.bowler,.rows s.bowlers,.rows s.before,.bool s.fresh,.rows s.bowled,.bool s.freehit,.int s.ballage,.int s.keeper,.int s.outside,.rows s.subs,.int s.rev1,.int s.rev2,.int s.ending,.bool true]
theorem WZ {N:Nat} {m1 m2 m3 m4 m5 m6 m7 m9 m10 m11 m12 m14 m15 m18 m19 m20 m21 m22:Int} {m8 m16:Bool} {m0:ByteArray} {m13:Rows} {m17:List Inn} (hl:m17.length≤1000000):FA N [.str m0,.int m1,.int m2,.int m3,.int m4,.int m5,.int m6,.int m7,.bool m8,.int m9,.int m10,.int m11,.int m12,.rows m13,.int m14,.int m15,.bool m16,.rows (AK m17),.int m18,.int m19,.int m20,.int m21,.int m22]=some (cond (!(m14==3)||(m17.length:Int)==0) jQ (bk (BB (⟨⟨m0,m1,m2,m3,m4,m5,m6,m7,m8,m9,m10,m11,m12,m13⟩,m14,m15,m16,m17,m18,m19,m20,m21,m22⟩:Mat)))):=by
 show FM (std (Dp N) N) (xOf _)=_
 simp only [FM,std,xOf,PXb,PXi]
 cases h3:m14==3 with
 | false=>rfl
 | true =>
  cases h0:(m17.length:Int)==0 with
  | true=>rfl
  | false =>
   simp only [PXb,PXc,PXn,PXm,Nat.reduceAdd,Int.reduceBEq,PXi,Bool.not_true,Bool.or_self,Qv h0 hl,bk,BB,lnx]
theorem bD {m:Mat} (h:∀ d,DV m d=false) (R:Nat):L0 m R=[]:=by
 unfold L0 P5
 refine Hs _ fun t _ _=>Hs _ fun s _ _=>Hs _ fun n _ _=>Hs _ fun b _ _=>dk fun x=>Hs _ fun a _ _=>Hs _ fun v _ _=>Hs _ fun f _ _=>?_
 unfold FT
 rw [h]
 rfl
theorem XG (q:List PV→Bool):∀ D,(flt q D).length≤D.length
 | []=>Nat.le_refl _
 | x::D=>by
  have:=XG q D
  show (cond (q x) [x] []++flt q D).length≤D.length+1
  rw [List.length_append]
  cases q x
  ·show 0+_≤_
   omega
  ·show 1+_≤_
   omega
theorem iS {t s n b:Int} {x free:Bool} {r:List PV} (h:r∈Jr t s n b x free):∃ d:Del,r=d.ls:=by
 unfold Jr P5 at h
 obtain ⟨a,_,_,h⟩:=CD _ h
 obtain ⟨v,_,_,h⟩:=CD _ h
 obtain ⟨f,_,_,h⟩:=CD _ h
 change r∈cond (Ay (AP t s n b x a v f)==0&&BP (AP t s n b x a v f) free==0) [(AP t s n b x a v f).ls] [] at h
 cases hc:(Ay (AP t s n b x a v f)==0&&BP (AP t s n b x a v f) free==0) with
 | false=>rw [hc] at h;exact absurd h List.not_mem_nil
 | true =>
  rw [hc] at h
  exact ⟨_,List.mem_singleton.1 h⟩
theorem iA {D:Rows} {i:Nat} (h:i<D.length):Ac D i∈D:=by
 unfold Ac
 rw [List.getD_eq_getElem?_getD,List.getElem?_eq_getElem h]
 exact List.getElem_mem h
def b3o (g:Int→Rows) (out:Rows):Nat→Rows
 | 0=>out
 | 1=>out++g 0
 | 2=>out++g 0++g 4
 | _=>out++g 0++g 4++g 6
theorem jH (g:Int→Rows) (out:Rows):b3o g out 3=out++(g 0++g 4++g 6):=by
 show out++g 0++g 4++g 6=_
 simp only [List.append_assoc]
theorem lt3 {i:Nat} (h:i<3):i=0∨i=1∨i=2:=by omega
theorem eW {N : Nat} {V : Rows} {q : List PV → Bool} {out : Rows} (hN : 2097152 < N) (hV : V.length ≤ 396) (ho : out.length ≤ 1000000) {F : (List AY → Option (List PV)) → List PV → Option (List PV)}
    (h0:∀ o self,F self [.rows o,.int (V.length:Int)]=some [.rows o,.int (V.length:Int)])
    (h1:∀ (i:Nat) o self,i<V.length→o.length≤1000396→F self [.rows o,.int (i:Int)]=self [.rows (o++cond (q (Ac V i)) [Ac V i] []),.int ((i+1:Nat):Int)]):Gc F N [.rows out,.int 0]=some [.rows (out++flt q V),.int (V.length:Int)]:=by
  have:=bE (F:=F) (len:=V.length) (fun i=>[.rows (out++flt q (V.take i)),.int (i:Int)]) [.rows (out++flt q V),.int (V.length:Int)] (x:=[.rows out,.int 0]) (by
    show _=[PV.rows (out++[]),_]
    rw [List.append_nil]
    rfl) (fun self=>by
    rw [List.take_length]
    exact h0 _ self) (fun i self hi=>by
    have hl:=XG q (V.take i)
    rw [List.length_take] at hl
    rw [ec q hi,← List.append_assoc]
    exact h1 i _ self hi (by rw [List.length_append];omega)) N (by omega)
  exact this
theorem Zo (t s n b:Int) (x free:Bool):(Jr t s n b x free).length≤396:=gE (Zr t s n b x free)
theorem iX {g:Int→Rows} {c:Nat} (h:∀ b,(g b).length≤c):(g 0++g 4++g 6).length≤3 * c:=by
 have:=h 0
 have:=h 4
 have:=h 6
 rw [List.length_append,List.length_append]
 omega
end Go.Px
end
section
namespace Go.Px
set_option maxRecDepth 100000
def gF (m:Mat) (free:Bool) (t s n b:Int) (x:Bool):Rows:=flt (fun y=>DV m (QA y)) (Jr t s n b x free)
def gX (m:Mat) (free:Bool) (t s n b:Int):Rows:=yF true (gF m free t s n b)
def gN (m:Mat) (free:Bool) (t s n:Int):Rows:=gX m free t s n 0++gX m free t s n 4++gX m free t s n 6
def gS (m:Mat) (free:Bool) (R:Nat) (t s:Int):Rows:=fm (gN m free t s) 0 R
def gT (m:Mat) (free:Bool) (R:Nat) (t:Int):Rows:=fm (gS m free R t) 0 4
theorem ik (m:Mat) (R:Nat):eZ m R=fm (gT m (BB m).freehit R) 1 3:=rfl
theorem cc (m:Mat) (free:Bool) (t s n b:Int) (x:Bool):(gF m free t s n b x).length≤396:=Nat.le_trans (XG _ _) (Zo t s n b x free)
theorem Zl (m:Mat) (free:Bool) (t s n b:Int):(gX m free t s n b).length≤2 * 396:=Yy (cc m free t s n b)
theorem dM (m:Mat) (free:Bool) (t s n:Int):(gN m free t s n).length≤3 * (2 * 396):=iX (g:=gX m free t s n) (Zl m free t s n)
theorem dq (m:Mat) (free:Bool) {R:Nat} (hR:R≤8) (t s:Int):(gS m free R t s).length≤8 * (3 * (2 * 396)):=BZ (dM m free t s) hR
theorem iQ (m:Mat) (free:Bool) {R:Nat} (hR:R≤8) (t:Int):(gT m free R t).length≤4 * (8 * (3 * (2 * 396))):=BZ (dq m free hR t) (Nat.le_refl _)
def bv:Nat→Int
 | 0=>0
 | 1=>4
 | _=>6
theorem eu (g:Int→Rows) (out:Rows) {i:Nat} (h:i<3):b3o g out (i+1)=b3o g out i++g (bv i):=by
 rcases lt3 h with e | e | e<;>subst e<;>rfl
def yv:Nat→Bool
 | 0=>false
 | _=>true
theorem fH (f:Bool→Rows) (out:Rows) {u:Nat} (h:u<2):yfo true f out (u+1)=yfo true f out u++f (yv u):=by
 rcases lt2 h with e | e<;>subst e<;>rfl
theorem eH {V:Rows} {i:Nat} (h:∃ d:Del,Ac V i=d.ls):[PV.int (pvI (AB V i 0)),.int (pvI (AB V i 1)),.int (pvI (AB V i 2)),.int (pvI (AB V i 3)),.int (pvI (AB V i 4)),.bool (pvB (AB V i 5)),.int (pvI (AB V i 6)),.int (pvI (AB V i 7)),.int (pvI (AB V i 8)),.int (pvI (AB V i 9)),.bool (pvB (AB V i 10)),.int (pvI (AB V i 11))]=Ac V i:=by
 obtain ⟨d,hd⟩:=h
 unfold AB
 rw [hd]
 rfl
set_option maxHeartbeats 1000000 in
theorem Mm {N:Nat} {m1 m2 m3 m4 m5 m6 m7 m9 m10 m11 m12 m14 m15 m18 m19 m20 m21 m22:Int} {m8 m16:Bool} {m0:ByteArray} {m13:Rows} {m17:List Inn} {r:Int} (hN:2097152<N) (hf:Gh m17) (hl:m17.length≤1000000) (hs:m0.size≤1048576) (h13:m13.length≤1048576) (hr : -1≤r∧r≤7):CR N [.str m0,.int m1,.int m2,.int m3,.int m4,.int m5,.int m6,.int m7,.bool m8,.int m9,.int m10,.int m11,.int m12,.rows m13,.int m14,.int m15,.bool m16,.rows (AK m17),.int m18,.int m19,.int m20,.int m21,.int m22,.int r]=some [.rows (L0 (⟨⟨m0,m1,m2,m3,m4,m5,m6,m7,m8,m9,m10,m11,m12,m13⟩,m14,m15,m16,m17,m18,m19,m20,m21,m22⟩:Mat) (r+1).toNat)]:=by
 show C6 (std (A1 N) N) (xOf _)=_
 simp only [C6,KL,Fp,Jj,EB,std,xOf,PXb,WZ hl,JY hf hN hl hs]
 cases hp:(!(m14==3)||(m17.length:Int)==0) with
 | true =>
  rw [bD fun d=>by
   cases hx:DV (⟨⟨m0,m1,m2,m3,m4,m5,m6,m7,m8,m9,m10,m11,m12,m13⟩,m14,m15,m16,m17,m18,m19,m20,m21,m22⟩:Mat) d with
   | false=>rfl
   | true =>
    have a:=WL hx
    have a1:=a.stage
    have a2:=a.some'
    change (m14==3)=true at a1
    change ((m17.length:Int)==0)=false at a2
    rw [a1,a2] at hp
    cases hp]
  rfl
 | false =>
  cases hv:Cw (⟨⟨m0,m1,m2,m3,m4,m5,m6,m7,m8,m9,m10,m11,m12,m13⟩,m14,m15,m16,m17,m18,m19,m20,m21,m22⟩:Mat) with
  | false =>
   rw [bD fun d=>by
    cases hx:DV (⟨⟨m0,m1,m2,m3,m4,m5,m6,m7,m8,m9,m10,m11,m12,m13⟩,m14,m15,m16,m17,m18,m19,m20,m21,m22⟩:Mat) d with
    | false=>rfl
    | true =>
     have a:=(WL hx).valid
     rw [hv] at a
     cases a]
   rfl
  | true =>
   obtain ⟨R,hR⟩:∃ R:Nat,(r+1).toNat=R:=⟨_,rfl⟩
   have r7:(cond (iLt 7 r) 7 r:Int)=(R:Int) - 1:=by
    have:iLt 7 r=false:=by simp only [iLt,decide_eq_false_iff_not];omega
    rw [this]
    show r=_
    omega
   have R8:R≤8:=by omega
   have WHY:∀ d:Del,Bj N [.str m0,.int m1,.int m2,.int m3,.int m4,.int m5,.int m6,.int m7,.bool m8,.int m9,.int m10,.int m11,.int m12,.rows m13,.int m14,.int m15,.bool m16,.rows (AK m17),.int m18,.int m19,.int m20,.int m21,.int m22,.int 4,.int 0,.int 0,.int 0,.bool false,.int 0,.int 0,.int d.type,.int d.source,.int d.runs,.int d.short,.int d.boundary,.bool d.crossed,.int d.how,.int d.victim,.int d.fielder,.int d.second,.bool d.sub,.int d.sector]=some [.int (Bb (⟨⟨m0,m1,m2,m3,m4,m5,m6,m7,m8,m9,m10,m11,m12,m13⟩,m14,m15,m16,m17,m18,m19,m20,m21,m22⟩:Mat) (evB d)).2]:=fun d=>P7 hN hf hl hs h13
   rw [hR,← jS,ik,← Tz]
   simp only [PXb,Bool.not_true,r7,bk]
   generalize (BB (⟨⟨m0,m1,m2,m3,m4,m5,m6,m7,m8,m9,m10,m11,m12,m13⟩,m14,m15,m16,m17,m18,m19,m20,m21,m22⟩:Mat)).freehit=free at *
   generalize hm:(⟨⟨m0,m1,m2,m3,m4,m5,m6,m7,m8,m9,m10,m11,m12,m13⟩,m14,m15,m16,m17,m18,m19,m20,m21,m22⟩:Mat)=mm at *
   have z0:∀ a:Nat,(0:Int)+(a:Int)=(a:Int):=fun a=>Int.zero_add _
   generalize hL3:([[PV.int 0],[PV.int 4],[PV.int 6]]:Rows)=L3
   generalize hL2:([[PV.bool false],[PV.bool true]]:Rows)=L2
   have n3:L3.length=3:=by rw [← hL3];rfl
   have n2:L2.length=2:=by rw [← hL2];rfl
   have a3:∀ i:Nat,i<3→pvI (AB L3 i 0)=bv i:=fun i hi=>by rw [← hL3];rcases lt3 hi with e | e | e<;>subst e<;>rfl
   have a2:∀ i:Nat,i<2→pvB (AB L2 i 0)=yv i:=fun i hi=>by rw [← hL2];rcases lt2 hi with e | e<;>subst e<;>rfl
   clear hL3 hL2
   refine AM (BE (len:=3) (fun i=>[.rows (fmo [] (gT mm free R) 1 i),.int (1+(i:Int))]) [.rows (fmo [] (gT mm free R) 1 3)] ?_ ?_ N (by omega)) ?_
   ·intro self
    rfl
   ·intro a self ha
    have b1:=Fl (out:=[]) (lo:=1) (n:=a) (iQ mm free R8) (k:=3) (by omega)
    rw [List.length_nil,Nat.zero_add] at b1
    rw [D9]
    generalize fmo [] (gT mm free R) 1 a=out1 at *
    have g1:iLe (1+(a:Int)) 3=true:=by simp only [iLe,decide_eq_true_eq];omega
    have w8:IntKind.u8.wrap (1+(a:Int)+1)=1+((a+1:Nat):Int):=by rw [Yi (by omega) (by omega)];omega
    simp only [PXb,PXc,PXn,AF,g1,w8]
    generalize (1+(a:Int))=t at *
    rw [show out1++gT mm free R t=fmo out1 (gS mm free R t) 0 4 from (It _ _ _ _).symm]
    refine AM (BE (len:=4) (fun i=>[.rows (fmo out1 (gS mm free R t) 0 i),.int (i:Int)]) [.rows (fmo out1 (gS mm free R t) 0 4),.int 4] ?_ ?_ N (by omega)) ?_
    ·intro self
     rfl
    ·intro a self ha
     have b2:=Fl (out:=out1) (lo:=0) (n:=a) (dq mm free R8 t) (k:=4) (by omega)
     rw [D9,z0]
     generalize fmo out1 (gS mm free R t) 0 a=out2 at *
     have g2:iLe (a:Int) 3=true:=by simp only [iLe,decide_eq_true_eq];omega
     have w8:IntKind.u8.wrap ((a:Int)+1)=((a+1:Nat):Int):=by rw [Yi (by omega) (by omega)];omega
     simp only [PXb,PXc,PXn,AF,g2,w8]
     generalize (a:Int)=s at *
     rw [show out2++gS mm free R t s=fmo out2 (gN mm free t s) 0 R from (It _ _ _ _).symm]
     refine AM (BE (len:=R) (fun i=>[.rows (fmo out2 (gN mm free t s) 0 i),.int (i:Int)]) [.rows (fmo out2 (gN mm free t s) 0 R),.int (R:Int)] ?_ ?_ N (by omega)) ?_
     ·intro self
      simp only [PXb,PXc,PXn,AF,iJ]
     ·intro a self ha
      have b3:=Fl (out:=out2) (lo:=0) (n:=a) (dM mm free t s) (k:=8) (by omega)
      rw [D9,z0]
      generalize fmo out2 (gN mm free t s) 0 a=out3 at *
      simp only [PXb,PXc,PXn,AF,jX ha,D3 (show a≤1099511627776 by omega)]
      generalize (a:Int)=n at *
      rw [show out3++gN mm free t s n=b3o (gX mm free t s n) out3 3 from (jH _ _).symm]
      refine AM (BE (len:=3) (fun i=>[.rows (b3o (gX mm free t s n) out3 i),.int (i:Int)]) [.rows (b3o (gX mm free t s n) out3 3),.int 3] ?_ ?_ N (by omega)) ?_
      ·intro self
       simp only [PXb,PXc,PXn,AF,n3,show iLt ((3:Nat):Int) ((3:Nat):Int)=false from rfl]
       rfl
      ·intro a self ha
       have b4:(b3o (gX mm free t s n) out3 a).length≤out3.length+3 * (2 * 396):=by
        have x0:=Zl mm free t s n 0
        have x4:=Zl mm free t s n 4
        rcases lt3 ha with e | e | e<;>subst e
        ·show out3.length≤_
         omega
        ·show (out3++gX mm free t s n 0).length≤_
         rw [List.length_append]
         omega
        ·show (out3++gX mm free t s n 0++gX mm free t s n 4).length≤_
         rw [List.length_append,List.length_append]
         omega
       rw [eu _ _ ha]
       generalize b3o (gX mm free t s n) out3 a=out4 at *
       simp only [PXb,PXc,PXn,AF,n3,Az ha,Ag ha,Int.toNat_natCast,a3 a ha,D3 (show a≤1099511627776 by omega)]
       generalize bv a=b at *
       rw [show out4++gX mm free t s n b=yfo true (gF mm free t s n b) out4 2 from (cm _ _ _).symm]
       refine AM (BE (len:=2) (fun i=>[.rows (yfo true (gF mm free t s n b) out4 i),.int (i:Int)]) [.rows (yfo true (gF mm free t s n b) out4 2),.int 2] ?_ ?_ N (by omega)) ?_
       ·intro self
        simp only [PXb,PXc,PXn,AF,n2,show iLt ((2:Nat):Int) ((2:Nat):Int)=false from rfl]
        rfl
       ·intro a self ha
        have b5:(yfo true (gF mm free t s n b) out4 a).length≤out4.length+396:=by
         have x0:=cc mm free t s n b false
         rcases lt2 ha with e | e<;>subst e
         ·show out4.length≤_
          omega
         ·show (out4++gF mm free t s n b false).length≤_
          rw [List.length_append]
          omega
        rw [fH _ _ ha]
        generalize yfo true (gF mm free t s n b) out4 a=out5 at *
        simp only [PXb,PXc,PXn,AF,n2,Az ha,Ag ha,Int.toNat_natCast,a2 a ha,D3 (show a≤1099511627776 by omega),EB,Vw hN]
        generalize yv a=x at *
        unfold gF
        have VL:=Zo t s n b x free
        have CA:∀ i,i<(Jr t s n b x free).length→∃ d:Del,Ac (Jr t s n b x free) i=d.ls:=fun i hi=>iS (iA hi)
        generalize Jr t s n b x free=V at *
        refine AM (eW (q:=fun y=>DV mm (QA y)) hN VL (by omega) ?_ ?_) ?_
        ·intro o self
         simp only [PXb,PXc,PXn,AF,BX]
        ·intro i o self hi ho
         have sm:iSm ((o.length+1:Nat):Int) 80=true:=Fj (by omega) (by omega)
         have W:=WHY (QA (Ac V i))
         have RB:=eH (CA i hi)
         simp only [PXb,PXc,PXn,PXm,Nat.reduceAdd,Int.reduceBEq,Az hi,Ag hi,Int.toNat_natCast,D3 (show i≤1099511627776 by omega),Fp]
         refine bind_ok W ?_
         rw [RB]
         show cond (DV mm (QA (Ac V i))) _ _=_
         cases DV mm (QA (Ac V i)) with
         | false=>rw [cond_false,cond_false,List.append_nil]
         | true=>rw [cond_true,cond_true,List.length_append,List.length_cons,List.length_nil,Nat.zero_add,sm,cond_true]
        ·simp only [PXb,PXc,PXn,AF]
       ·simp only [PXb,PXc,PXn,AF]
      ·simp only [PXb,PXc,PXn,AF]
     ·simp only [PXb,PXc,PXn,AF]
    ·simp only [PXb,PXc,PXn,AF]
   ·rfl
end Go.Px
end
section
namespace Go.Px
set_option maxRecDepth 100000
theorem eO (m:Mat) (t s n b:Int) (x:Bool) (h v f:Int):(FT m t s n b x h v f).length≤1:=by
 unfold FT
 cases DV m (AP t s n b x h v f)
 ·exact Nat.zero_le _
 ·exact Nat.le_refl _
def w1 (m:Mat) (t s n b:Int) (x:Bool) (h v:Int):Rows:=fm (FT m t s n b x h v) 0 12
def w2 (m:Mat) (t s n b:Int) (x:Bool) (h:Int):Rows:=fm (w1 m t s n b x h) 0 3
def w3 (m:Mat) (t s n b:Int) (x:Bool):Rows:=fm (w2 m t s n b x) 0 11
theorem i6 (m:Mat) (t s n b:Int) (x:Bool) (h v:Int):(w1 m t s n b x h v).length≤12 * 1:=BZ (eO m t s n b x h v) (Nat.le_refl _)
theorem iw (m:Mat) (t s n b:Int) (x:Bool) (h:Int):(w2 m t s n b x h).length≤3 * (12 * 1):=BZ (i6 m t s n b x h) (Nat.le_refl _)
theorem iR (m:Mat) (t s n b:Int) (x:Bool):(w3 m t s n b x).length≤11 * (3 * (12 * 1)):=BZ (iw m t s n b x) (Nat.le_refl _)
def w4 (m:Mat) (t s n b:Int):Rows:=fm (fun x=>w3 m t s n b (x==1)) 0 2
theorem ja (m:Mat) (t s n b:Int):w4 m t s n b=yF true fun x=>P5 (FT m t s n b x):=yfm true (w3 m t s n b)
def gA (m:Mat) (t s n:Int):Rows:=fm (w4 m t s n) 0 7
def gB (m:Mat) (R:Nat) (t s:Int):Rows:=fm (gA m t s) 0 R
def gC (m:Mat) (R:Nat) (t:Int):Rows:=fm (gB m R t) 0 4
theorem iz (m:Mat) (R:Nat):L0 m R=fm (gC m R) 1 3:=by
 unfold L0
 simp only [← ja]
 rfl
theorem iq (m:Mat) (t s n b:Int):(w4 m t s n b).length≤2 * (11 * (3 * (12 * 1))):=BZ (f:=fun x=>w3 m t s n b (x==1)) (fun x=>iR m t s n b (x==1)) (Nat.le_refl _)
theorem iT (m:Mat) (t s n:Int):(gA m t s n).length≤7 * (2 * (11 * (3 * (12 * 1)))):=BZ (iq m t s n) (Nat.le_refl _)
theorem iE (m:Mat) {R:Nat} (hR:R≤8) (t s:Int):(gB m R t s).length≤8 * (7 * (2 * (11 * (3 * (12 * 1))))):=BZ (iT m t s) hR
theorem jA (m:Mat) {R:Nat} (hR:R≤8) (t:Int):(gC m R t).length≤4 * (8 * (7 * (2 * (11 * (3 * (12 * 1)))))):=BZ (iE m hR t) (Nat.le_refl _)
theorem eN (m:Mat) {R:Nat} (hR:R≤8):(L0 m R).length≤3 * (4 * (8 * (7 * (2 * (11 * (3 * (12 * 1))))))):=by
 rw [iz]
 exact BZ (jA m hR) (Nat.le_refl _)
end Go.Px
end
section
namespace Go.Px
set_option maxRecDepth 100000
def TT (e:Ev) (x:List PV):Bool:=pvI (AD x 0)==e.kind&&(pvI (AD x 1)==e.side&&(pvI (AD x 2)==e.player&&(pvI (AD x 3)==e.other&&(pvB (AD x 4)==e.yes&&(pvI (AD x 5)==e.runs&&(pvI (AD x 6)==e.overs&&(pvI (AD x 7)==e.ball.type&&(pvI (AD x 8)==e.ball.source&&(pvI (AD x 9)==e.ball.runs&&(pvI (AD x 10)==e.ball.short&&(pvI (AD x 11)==e.ball.boundary&&(pvB (AD x 12)==e.ball.crossed&&(pvI (AD x 13)==e.ball.how&&(pvI (AD x 14)==e.ball.victim&&(pvI (AD x 15)==e.ball.fielder&&(pvI (AD x 16)==e.ball.second&&(pvB (AD x 17)==e.ball.sub&&pvI (AD x 18)==e.ball.sector)))))))))))))))))
theorem fp {e g:Ev} (h:TT e (RU g)=true):g=e:=by
 obtain ⟨a0,a1,a2,a3,a4,a5,a6,⟨b0,b1,b2,b3,b4,b5,b6,b7,b8,b9,b10,b11⟩⟩:=e
 obtain ⟨c0,c1,c2,c3,c4,c5,c6,⟨d0,d1,d2,d3,d4,d5,d6,d7,d8,d9,d10,d11⟩⟩:=g
 change (c0==a0&&(c1==a1&&(c2==a2&&(c3==a3&&(c4==a4&&(c5==a5&&(c6==a6&&(d0==b0&&(d1==b1&&(d2==b2&&(d3==b3&&(d4==b4&&(d5==b5&&(d6==b6&&(d7==b7&&(d8==b8&&(d9==b9&&(d10==b10&&d11==b11))))))))))))))))))=true at h
 simp only [Bool.and_eq_true,beq_iff_eq] at h
 obtain ⟨rfl,rfl,rfl,rfl,rfl,rfl,rfl,rfl,rfl,rfl,rfl,rfl,rfl,rfl,rfl,rfl,rfl,rfl,rfl⟩:=h
 rfl
theorem jK (e:Ev):TT e (RU e)=true:=by
 obtain ⟨a0,a1,a2,a3,a4,a5,a6,⟨b0,b1,b2,b3,b4,b5,b6,b7,b8,b9,b10,b11⟩⟩:=e
 show (a0==a0&&(a1==a1&&(a2==a2&&(a3==a3&&(a4==a4&&(a5==a5&&(a6==a6&&(b0==b0&&(b1==b1&&(b2==b2&&(b3==b3&&(b4==b4&&(b5==b5&&(b6==b6&&(b7==b7&&(b8==b8&&(b9==b9&&(b10==b10&&b11==b11))))))))))))))))))=true
 simp only [beq_self_eq_true,Bool.and_self]
theorem Y6 {m:Mat} {k s p o:Int} {y:Bool} {n:Int} {x:List PV} (h:x∈BL m k s p o y n):x=RU (evK k s p o y n)∧((Bb m (evK k s p o y n)).2==0)=true:=by
 unfold BL at h
 cases hc:(Bb m (evK k s p o y n)).2==0 with
 | false=>rw [hc] at h;exact absurd h List.not_mem_nil
 | true =>
  rw [hc] at h
  exact ⟨List.mem_singleton.1 h,rfl⟩
theorem ig {m:Mat} {k:Int} {b:Bool} {sl pl ol rl:Int} {sn pn on rn:Nat} {x:List PV} (h:x∈Xh (BL m k) b sl pl ol rl sn pn on rn):∃ s p o y n,x=RU (evK k s p o y n)∧((Bb m (evK k s p o y n)).2==0)=true:=by
 unfold Xh at h
 obtain ⟨s,_,_,h⟩:=CD _ h
 obtain ⟨p,_,_,h⟩:=CD _ h
 obtain ⟨o,_,_,h⟩:=CD _ h
 rcases List.mem_append.1 h with h | h
 ·obtain ⟨n,_,_,h⟩:=CD _ h
  exact ⟨s,p,o,false,n,Y6 h⟩
 ·cases b with
  | false=>exact absurd h List.not_mem_nil
  | true =>
   obtain ⟨n,_,_,h⟩:=CD _ h
   exact ⟨s,p,o,true,n,Y6 h⟩
theorem gh {m:Mat} {x:List PV} (h:x∈Yb m):∃ e:Ev,x=RU e∧((Bb m e).2==0)=true∧¬ e.kind=4∧¬ e.kind=15:=by
 unfold Yb at h
 obtain ⟨k,_,_,h⟩:=CD _ h
 cases hk:(k==4||k==15) with
 | true=>rw [hk] at h;exact absurd h List.not_mem_nil
 | false =>
  rw [hk] at h
  obtain ⟨s,p,o,y,n,h1,h2⟩:=ig h
  refine ⟨_,h1,h2,fun e=>?_,fun e=>?_⟩
  ·change k=4 at e
   rw [e] at hk
   cases hk
  ·change k=15 at e
   rw [e] at hk
   cases hk
theorem Bz {q:List PV→Bool}:∀ D:Rows,(∀ x,x∈D→q x=false)→ofI q D=0
 | [],_=>rfl
 | x::D,h=>by
  have ih:=Bz D (fun y hy=>h y (List.mem_cons_of_mem _ hy))
  show cond (q x) 1 0+ofI q D=0
  rw [h x List.mem_cons_self,ih]
  rfl
theorem iB {d:Del} (h:RH d=true):d=⟨0,0,0,0,0,false,0,0,0,0,false,0⟩:=by
 obtain ⟨b0,b1,b2,b3,b4,b5,b6,b7,b8,b9,b10,b11⟩:=d
 unfold RH at h
 simp only [Bool.and_eq_true,beq_iff_eq] at h
 obtain ⟨rfl,rfl,rfl,rfl,rfl,rfl,rfl,rfl,rfl,rfl,rfl,rfl⟩:=h
 rfl
theorem gr {m:Mat} {e:Ev} (h:((Bb m e).2==0)=true) (h4:¬ e.kind=4) (h15:¬ e.kind=15):e=evK e.kind e.side e.player e.other e.yes e.runs∧(1≤e.kind∧e.kind≤16)∧(0≤e.side∧e.side<3)∧(0≤e.player∧e.player<12)∧(0≤e.other∧e.other<12)∧(0≤e.runs∧e.runs<100):=by
 have a:=jY h
 have uv:uV e.kind=false:=beq_false_of_ne h15
 have ub:uB e.kind=false:=beq_false_of_ne h4
 have a1:=a.side
 have a2:=a.player
 have a3:=a.other
 have a5:=a.runs
 have a6:=a.pen
 refine ⟨?_,a.kind,?_,?_,?_,?_⟩
 ·obtain ⟨c0,c1,c2,c3,c4,c5,c6,d⟩:=e
  have o:c6=0:=a.overs uv
  have z:d=_:=iB (a.ball ub)
  rw [o,z]
  rfl
 ·cases hu:uS e.kind<;>rw [hu] at a1<;>simp only [cond_true,cond_false] at a1<;>omega
 ·cases hu:uP e.kind<;>rw [hu] at a2<;>simp only [cond_true,cond_false] at a2<;>omega
 ·cases hu:uO e.kind<;>rw [hu] at a3<;>simp only [cond_true,cond_false] at a3<;>omega
 ·cases hu:uR e.kind with
  | false=>rw [hu] at a5;simp only [cond_false] at a5;omega
  | true =>
   rw [hu] at a5
   unfold uR at hu
   simp only [Bool.or_eq_true,beq_iff_eq] at hu
   rcases hu with (hu | hu) | hu
   ·rw [hu] at a5
    change 0≤e.runs∧e.runs≤11 at a5
    omega
   ·have:=a6 hu
    omega
   ·exact absurd hu h15
end Go.Px
end
section
namespace Go.Px
set_option maxRecDepth 100000
theorem Q0 {m:Mat} {e:Ev} {k s p o:Int} {y:Bool} {n:Int} {x:List PV} (h:x∈BL m k s p o y n) (hq:TT e x=true):k=e.kind∧s=e.side∧p=e.player∧o=e.other∧y=e.yes∧n=e.runs:=by
 rw [(Y6 h).1] at hq
 have:=fp hq
 rw [← this]
 exact ⟨rfl,rfl,rfl,rfl,rfl,rfl⟩
def q1 (m:Mat) (k s p o:Int) (y:Bool):Rows:=fm (fun n=>BL m k s p o y n) 0 100
def q2 (m:Mat) (k s p o:Int):Rows:=yF true (q1 m k s p o)
def q3 (m:Mat) (k s p:Int):Rows:=fm (q2 m k s p) 0 12
def q4 (m:Mat) (k s:Int):Rows:=fm (q3 m k s) 0 12
theorem dp (m:Mat) (k:Int):eI m k=fm (q4 m k) 0 3:=rfl
theorem bo {m:Mat} {k s p o:Int} {y:Bool} {x:List PV} (h:x∈q1 m k s p o y):∃ n,x∈BL m k s p o y n:=by
 obtain ⟨n,_,_,h⟩:=CD _ h
 exact ⟨n,h⟩
theorem f5 {m:Mat} {k s p o:Int} {x:List PV} (h:x∈q2 m k s p o):∃ y n,x∈BL m k s p o y n:=by
 rcases List.mem_append.1 h with h | h
 ·exact ⟨_,bo h⟩
 ·exact ⟨true,bo h⟩
theorem f7 {m:Mat} {k s p:Int} {x:List PV} (h:x∈q3 m k s p):∃ o y n,x∈BL m k s p o y n:=by
 obtain ⟨o,_,_,h⟩:=CD _ h
 exact ⟨o,f5 h⟩
theorem fc {m:Mat} {k s:Int} {x:List PV} (h:x∈q4 m k s):∃ p o y n,x∈BL m k s p o y n:=by
 obtain ⟨p,_,_,h⟩:=CD _ h
 exact ⟨p,f7 h⟩
theorem jW {m:Mat} {k:Int} {x:List PV} (h:x∈eI m k):∃ s p o y n,x∈BL m k s p o y n:=by
 rw [dp] at h
 obtain ⟨s,_,_,h⟩:=CD _ h
 exact ⟨s,fc h⟩
theorem Ce {b:Bool} (h:¬ b=true):b=false:=by
 cases b with
 | true=>exact absurd rfl h
 | false=>rfl
theorem Ae (m:Mat) (e:Ev):ofI (TT e) (Yb m)=cond ((Bb m e).2==0 && !(e.kind==4) && !(e.kind==15)) 1 0:=by
 cases hc:((Bb m e).2==0 && !(e.kind==4) && !(e.kind==15)) with
 | false =>
  refine Bz _ fun x hx=>Ce fun hq=>?_
  obtain ⟨g,h1,h2,h3,h4⟩:=gh hx
  rw [h1] at hq
  rw [fp hq] at h2 h3 h4
  rw [h2,beq_false_of_ne h3,beq_false_of_ne h4] at hc
  cases hc
 | true =>
  simp only [Bool.and_eq_true,Bool.not_eq_true',beq_eq_false_iff_ne] at hc
  obtain ⟨⟨h2,h3⟩,h4⟩:=hc
  obtain ⟨he,k1,k2,k3,k4,k5⟩:=gr h2 h3 h4
  unfold Yb
  rw [Ck (i:=e.kind) k1.1 (by omega) (fun j hj=>Bz _ fun x hx=>Ce fun hq=>by
   cases hk:(j==4||j==15) with
   | true=>rw [hk] at hx;exact absurd hx List.not_mem_nil
   | false =>
    rw [hk] at hx
    obtain ⟨s,p,o,y,n,h⟩:=jW hx
    exact hj (Q0 h hq).1)]
  rw [beq_false_of_ne h3,beq_false_of_ne h4,Bool.or_self,cond_false,dp]
  rw [Ck (i:=e.side) k2.1 (by omega) (fun j hj=>Bz _ fun x hx=>Ce fun hq=>by
   obtain ⟨p,o,y,n,h⟩:=fc hx
   exact hj (Q0 h hq).2.1)]
  unfold q4
  rw [Ck (i:=e.player) k3.1 (by omega) (fun j hj=>Bz _ fun x hx=>Ce fun hq=>by
   obtain ⟨o,y,n,h⟩:=f7 hx
   exact hj (Q0 h hq).2.2.1)]
  unfold q3
  rw [Ck (i:=e.other) k4.1 (by omega) (fun j hj=>Bz _ fun x hx=>Ce fun hq=>by
   obtain ⟨y,n,h⟩:=f5 hx
   exact hj (Q0 h hq).2.2.2.1)]
  have last:ofI (TT e) (q1 m e.kind e.side e.player e.other e.yes)=1:=by
   unfold q1
   rw [Ck (i:=e.runs) k5.1 (by omega) (fun j hj=>Bz _ fun x hx=>Ce fun hq=>hj (Q0 hx hq).2.2.2.2.2)]
   unfold BL
   rw [← he,h2]
   show cond (TT e (RU e)) 1 0+0=1
   rw [jK]
   rfl
  have other:∀ y,¬ y=e.yes→ofI (TT e) (q1 m e.kind e.side e.player e.other y)=0:=fun y hy=>Bz _ fun x hx=>Ce fun hq=>by
   obtain ⟨n,h⟩:=bo hx
   exact hy (Q0 h hq).2.2.2.2.1
  show ofI (TT e) (q1 m e.kind e.side e.player e.other false++q1 m e.kind e.side e.player e.other true)=1
  rw [Lt]
  cases hy:e.yes with
  | false =>
   rw [hy] at last
   rw [last,other true (by rw [hy];decide)]
  | true =>
   rw [hy] at last
   rw [last,other false (by rw [hy];decide)]
end Go.Px
end
section
namespace Go.Px
set_option maxRecDepth 100000
theorem eG (q:List PV→Bool) {D:Rows} {i:Nat} (h:i<D.length):ofI q (D.take (i+1))=ofI q (D.take i)+cond (q (Ac D i)) 1 0:=by
 have e:D.take (i+1)=D.take i++[Ac D i]:=by
  rw [List.take_add_one,List.getElem?_eq_getElem h]
  unfold Ac
  rw [List.getD_eq_getElem?_getD,List.getElem?_eq_getElem h]
  rfl
 rw [e,Lt]
 rfl
theorem cw (q:List PV→Bool):∀ D,ofI q D≤D.length
 | []=>Nat.le_refl _
 | x::D=>by
  have:=cw q D
  show cond (q x) 1 0+ofI q D≤D.length+1
  cases q x
  ·show 0+_≤_
   omega
  ·show 1+_≤_
   omega
end Go.Px
end
section
namespace Go.Px
set_option maxRecDepth 100000
def isD (d:Del) (x:List PV):Bool:=pvI (AD x 0)==d.type&&(pvI (AD x 1)==d.source&&(pvI (AD x 2)==d.runs&&(pvI (AD x 3)==d.short&&(pvI (AD x 4)==d.boundary&&(pvB (AD x 5)==d.crossed&&(pvI (AD x 6)==d.how&&(pvI (AD x 7)==d.victim&&(pvI (AD x 8)==d.fielder&&(pvI (AD x 9)==d.second&&(pvB (AD x 10)==d.sub&&pvI (AD x 11)==d.sector))))))))))
theorem jk {d g:Del} (h:isD d g.ls=true):g=d:=by
 obtain ⟨b0,b1,b2,b3,b4,b5,b6,b7,b8,b9,b10,b11⟩:=d
 obtain ⟨d0,d1,d2,d3,d4,d5,d6,d7,d8,d9,d10,d11⟩:=g
 change (d0==b0&&(d1==b1&&(d2==b2&&(d3==b3&&(d4==b4&&(d5==b5&&(d6==b6&&(d7==b7&&(d8==b8&&(d9==b9&&(d10==b10&&d11==b11)))))))))))=true at h
 simp only [Bool.and_eq_true,beq_iff_eq] at h
 obtain ⟨rfl,rfl,rfl,rfl,rfl,rfl,rfl,rfl,rfl,rfl,rfl,rfl⟩:=h
 rfl
theorem ji (d:Del):isD d d.ls=true:=by
 obtain ⟨b0,b1,b2,b3,b4,b5,b6,b7,b8,b9,b10,b11⟩:=d
 show (b0==b0&&(b1==b1&&(b2==b2&&(b3==b3&&(b4==b4&&(b5==b5&&(b6==b6&&(b7==b7&&(b8==b8&&(b9==b9&&(b10==b10&&b11==b11)))))))))))=true
 simp only [beq_self_eq_true,Bool.and_self]
theorem gV {m:Mat} {t s n b:Int} {x:Bool} {h v f:Int} {r:List PV} (hr:r∈FT m t s n b x h v f):r=(AP t s n b x h v f).ls∧DV m (AP t s n b x h v f)=true:=by
 unfold FT at hr
 cases hc:DV m (AP t s n b x h v f) with
 | false=>rw [hc] at hr;exact absurd hr List.not_mem_nil
 | true =>
  rw [hc] at hr
  exact ⟨List.mem_singleton.1 hr,rfl⟩
theorem II {m:Mat} {d:Del} {t s n b:Int} {x:Bool} {h v f:Int} {r:List PV} (hr:r∈FT m t s n b x h v f) (hq:isD d r=true):t=d.type∧s=d.source∧n=d.runs∧b=d.boundary∧x=d.crossed∧h=d.how∧v=d.victim∧f=d.fielder∧DV m d=true∧AP t s n b x h v f=d:=by
 obtain ⟨h1,h2⟩:=gV hr
 rw [h1] at hq
 have:=jk hq
 rw [this] at h2
 rw [← this]
 rw [← this] at h2
 exact ⟨rfl,rfl,rfl,rfl,rfl,rfl,rfl,rfl,h2,rfl⟩
def p1 (m:Mat) (t s n b:Int) (x:Bool) (h v:Int):Rows:=fm (FT m t s n b x h v) 0 12
def p2 (m:Mat) (t s n b:Int) (x:Bool) (h:Int):Rows:=fm (p1 m t s n b x h) 0 3
def p3 (m:Mat) (t s n b:Int) (x:Bool):Rows:=fm (p2 m t s n b x) 0 11
def p4 (m:Mat) (t s n b:Int):Rows:=yF true (p3 m t s n b)
def p5 (m:Mat) (t s n:Int):Rows:=fm (p4 m t s n) 0 7
def p6 (m:Mat) (t s:Int):Rows:=fm (p5 m t s) 0 2
def p7 (m:Mat) (t:Int):Rows:=fm (p6 m t) 0 4
theorem i9 (m:Mat):L0 m 2=fm (p7 m) 1 3:=rfl
theorem fi {m:Mat} {t s n b:Int} {x:Bool} {h v:Int} {r:List PV} (hr:r∈p1 m t s n b x h v):∃ f,r∈FT m t s n b x h v f:=by
 obtain ⟨f,_,_,k⟩:=CD _ hr
 exact ⟨f,k⟩
theorem fq {m:Mat} {t s n b:Int} {x:Bool} {h:Int} {r:List PV} (hr:r∈p2 m t s n b x h):∃ v f,r∈FT m t s n b x h v f:=by
 obtain ⟨v,_,_,k⟩:=CD _ hr
 exact ⟨v,fi k⟩
theorem cA {m:Mat} {t s n b:Int} {x:Bool} {r:List PV} (hr:r∈p3 m t s n b x):∃ h v f,r∈FT m t s n b x h v f:=by
 obtain ⟨h,_,_,k⟩:=CD _ hr
 exact ⟨h,fq k⟩
theorem fZ {m:Mat} {t s n b:Int} {r:List PV} (hr:r∈p4 m t s n b):∃ x h v f,r∈FT m t s n b x h v f:=by
 rcases List.mem_append.1 hr with k | k
 ·exact ⟨false,cA k⟩
 ·exact ⟨true,cA k⟩
theorem fg {m:Mat} {t s n:Int} {r:List PV} (hr:r∈p5 m t s n):∃ b x h v f,r∈FT m t s n b x h v f:=by
 obtain ⟨b,_,_,k⟩:=CD _ hr
 exact ⟨b,fZ k⟩
theorem fo {m:Mat} {t s:Int} {r:List PV} (hr:r∈p6 m t s):∃ n b x h v f,(0≤n∧n<2)∧r∈FT m t s n b x h v f:=by
 obtain ⟨n,k1,k2,k⟩:=CD _ hr
 obtain ⟨b,x,h,v,f,k⟩:=fg k
 exact ⟨n,b,x,h,v,f,by omega,k⟩
theorem fW {m:Mat} {t:Int} {r:List PV} (hr:r∈p7 m t):∃ s n b x h v f,(0≤n∧n<2)∧r∈FT m t s n b x h v f:=by
 obtain ⟨s,_,_,k⟩:=CD _ hr
 exact ⟨s,fo k⟩
theorem jI (m:Mat) (t s n b:Int) (x:Bool) (h v f:Int) (hs:0≤s) (hh:0≤h):ofI (isD (AP t s n b x h v f)) (L0 m 2)=cond (DV m (AP t s n b x h v f)&&iLe n 1) 1 0:=by
 rw [i9]
 generalize hd:AP t s n b x h v f=d
 cases hc:(DV m d&&iLe n 1) with
 | false =>
  refine Bz _ fun r hr=>Ce fun hq=>?_
  obtain ⟨t',_,_,k⟩:=CD _ hr
  obtain ⟨s',n',b',x',h',v',f',k1,k⟩:=fW k
  have a:=II k hq
  have hn:n'=n:=by rw [a.2.2.1,← hd];rfl
  rw [a.2.2.2.2.2.2.2.2.1,show iLe n 1=true by simp only [iLe,decide_eq_true_eq];omega] at hc
  cases hc
 | true =>
  simp only [Bool.and_eq_true] at hc
  obtain ⟨h1,h2⟩:=hc
  have n1:n≤1:=by simpa [iLe] using h2
  subst hd
  have a:=WL h1
  have a1:=a.type
  have a2:=a.source
  have a3:=a.how
  have a4:=a.runs
  have a5:=a.boundary
  have a6:=a.victim
  have a7:=a.fielder
  change 1≤t∧t≤3 at a1
  change s≤3 at a2
  change h≤10 at a3
  change 0≤n∧n≤7 at a4
  change b=0∨b=4∨b=6 at a5
  change 0≤v∧v≤2 at a6
  change 0≤f∧f≤11 at a7
  rw [Ck (i:=t) a1.1 (by omega) (fun j hj=>Bz _ fun r hr=>Ce fun hq=>by
   obtain ⟨_,_,_,_,_,_,_,_,k⟩:=fW hr
   exact hj (II k hq).1)]
  unfold p7
  rw [Ck (i:=s) hs (by omega) (fun j hj=>Bz _ fun r hr=>Ce fun hq=>by
   obtain ⟨_,_,_,_,_,_,_,k⟩:=fo hr
   exact hj (II k hq).2.1)]
  unfold p6
  rw [Ck (i:=n) a4.1 (by omega) (fun j hj=>Bz _ fun r hr=>Ce fun hq=>by
   obtain ⟨_,_,_,_,_,k⟩:=fg hr
   exact hj (II k hq).2.2.1)]
  unfold p5
  rw [Ck (i:=b) (by omega) (by omega) (fun j hj=>Bz _ fun r hr=>Ce fun hq=>by
   obtain ⟨_,_,_,_,k⟩:=fZ hr
   exact hj (II k hq).2.2.2.1)]
  have last:ofI (isD (AP t s n b x h v f)) (p3 m t s n b x)=1:=by
   unfold p3
   rw [Ck (i:=h) hh (by omega) (fun j hj=>Bz _ fun r hr=>Ce fun hq=>by
    obtain ⟨_,_,k⟩:=fq hr
    exact hj (II k hq).2.2.2.2.2.1)]
   unfold p2
   rw [Ck (i:=v) a6.1 (by omega) (fun j hj=>Bz _ fun r hr=>Ce fun hq=>by
    obtain ⟨_,k⟩:=fi hr
    exact hj (II k hq).2.2.2.2.2.2.1)]
   unfold p1
   rw [Ck (i:=f) a7.1 (by omega) (fun j hj=>Bz _ fun r hr=>Ce fun hq=>hj (II hr hq).2.2.2.2.2.2.2.1)]
   unfold FT
   rw [h1]
   show cond (isD (AP t s n b x h v f) (AP t s n b x h v f).ls) 1 0+0=1
   rw [ji]
   rfl
  have other:∀ y,¬ y=x→ofI (isD (AP t s n b x h v f)) (p3 m t s n b y)=0:=fun y hy=>Bz _ fun r hr=>Ce fun hq=>by
   obtain ⟨_,_,_,k⟩:=cA hr
   exact hy (II k hq).2.2.2.2.1
  show ofI (isD (AP t s n b x h v f)) (p3 m t s n b false++p3 m t s n b true)=1
  rw [Lt]
  cases x with
  | false=>rw [last,other true (by decide)]
  | true=>rw [last,other false (by decide)]
end Go.Px
end
section
namespace Go.Px
set_option maxRecDepth 100000
set_option maxHeartbeats 1000000 in
theorem Uy {N:Nat} {m1 m2 m3 m4 m5 m6 m7 m9 m10 m11 m12 m14 m15 m18 m19 m20 m21 m22:Int} {m8 m16:Bool} {m0:ByteArray} {m13:Rows} {m17:List Inn} {d0 d1 d2 d3 d4 d6 d7 d8 d9 d11:Int} {d5 d10:Bool} (ha:JB N []=some [.bool true]) (hN:2097152<N) (hs:m0.size≤1048576) (rs:0≤d1∧d1≤255) (rh:0≤d6∧d6≤255):EN N [.str m0,.int m1,.int m2,.int m3,.int m4,.int m5,.int m6,.int m7,.bool m8,.int m9,.int m10,.int m11,.int m12,.rows m13,.int m14,.int m15,.bool m16,.rows (AK m17),.int m18,.int m19,.int m20,.int m21,.int m22,.int d0,.int d1,.int d2,.int d3,.int d4,.bool d5,.int d6,.int d7,.int d8,.int d9,.bool d10,.int d11]=some [.bool true]:=by
 show EC (std (BH N) N) (xOf _)=_
 have nn:(Bv (⟨⟨m0,m1,m2,m3,m4,m5,m6,m7,m8,m9,m10,m11,m12,m13⟩,m14,m15,m16,m17,m18,m19,m20,m21,m22⟩:Mat)).rules.name.size≤1048576:=Y0 (⟨⟨m0,m1,m2,m3,m4,m5,m6,m7,m8,m9,m10,m11,m12,m13⟩,m14,m15,m16,m17,m18,m19,m20,m21,m22⟩:Mat).rules hs
 have pp:(Bv (⟨⟨m0,m1,m2,m3,m4,m5,m6,m7,m8,m9,m10,m11,m12,m13⟩,m14,m15,m16,m17,m18,m19,m20,m21,m22⟩:Mat)).rules.power.length≤1048576:=YJ (⟨⟨m0,m1,m2,m3,m4,m5,m6,m7,m8,m9,m10,m11,m12,m13⟩,m14,m15,m16,m17,m18,m19,m20,m21,m22⟩:Mat).rules
 have ok:=gb (m:=(⟨⟨m0,m1,m2,m3,m4,m5,m6,m7,m8,m9,m10,m11,m12,m13⟩,m14,m15,m16,m17,m18,m19,m20,m21,m22⟩:Mat))
 have hl:=Nat.le_trans ok.len (show 5≤1000000 by omega)
 have dl:=eN (Bv (⟨⟨m0,m1,m2,m3,m4,m5,m6,m7,m8,m9,m10,m11,m12,m13⟩,m14,m15,m16,m17,m18,m19,m20,m21,m22⟩:Mat)) (R:=2) (by omega)
 have DL:CR N ((Bv (⟨⟨m0,m1,m2,m3,m4,m5,m6,m7,m8,m9,m10,m11,m12,m13⟩,m14,m15,m16,m17,m18,m19,m20,m21,m22⟩:Mat)).ls++[.int 1])=some [.rows (L0 (Bv (⟨⟨m0,m1,m2,m3,m4,m5,m6,m7,m8,m9,m10,m11,m12,m13⟩,m14,m15,m16,m17,m18,m19,m20,m21,m22⟩:Mat)) 2)]:=Mm (r:=1) hN ok.fit hl nn pp (by omega)
 have DL2:=DL
 have li:=jI (Bv (⟨⟨m0,m1,m2,m3,m4,m5,m6,m7,m8,m9,m10,m11,m12,m13⟩,m14,m15,m16,m17,m18,m19,m20,m21,m22⟩:Mat)) d0 d1 d2 d4 d5 d6 d7 d8 rs.1 rh.1
 have DR:=Mm (N:=N) (m0:=(Bv (⟨⟨m0,m1,m2,m3,m4,m5,m6,m7,m8,m9,m10,m11,m12,m13⟩,m14,m15,m16,m17,m18,m19,m20,m21,m22⟩:Mat)).rules.name) (m1:=(Bv (⟨⟨m0,m1,m2,m3,m4,m5,m6,m7,m8,m9,m10,m11,m12,m13⟩,m14,m15,m16,m17,m18,m19,m20,m21,m22⟩:Mat)).rules.side) (m2:=(Bv (⟨⟨m0,m1,m2,m3,m4,m5,m6,m7,m8,m9,m10,m11,m12,m13⟩,m14,m15,m16,m17,m18,m19,m20,m21,m22⟩:Mat)).rules.innings) (m3:=(Bv (⟨⟨m0,m1,m2,m3,m4,m5,m6,m7,m8,m9,m10,m11,m12,m13⟩,m14,m15,m16,m17,m18,m19,m20,m21,m22⟩:Mat)).rules.overs) (m4:=(Bv (⟨⟨m0,m1,m2,m3,m4,m5,m6,m7,m8,m9,m10,m11,m12,m13⟩,m14,m15,m16,m17,m18,m19,m20,m21,m22⟩:Mat)).rules.balls) (m5:=(Bv (⟨⟨m0,m1,m2,m3,m4,m5,m6,m7,m8,m9,m10,m11,m12,m13⟩,m14,m15,m16,m17,m18,m19,m20,m21,m22⟩:Mat)).rules.quota) (m6:=(Bv (⟨⟨m0,m1,m2,m3,m4,m5,m6,m7,m8,m9,m10,m11,m12,m13⟩,m14,m15,m16,m17,m18,m19,m20,m21,m22⟩:Mat)).rules.wide) (m7:=(Bv (⟨⟨m0,m1,m2,m3,m4,m5,m6,m7,m8,m9,m10,m11,m12,m13⟩,m14,m15,m16,m17,m18,m19,m20,m21,m22⟩:Mat)).rules.noball) (m8:=(Bv (⟨⟨m0,m1,m2,m3,m4,m5,m6,m7,m8,m9,m10,m11,m12,m13⟩,m14,m15,m16,m17,m18,m19,m20,m21,m22⟩:Mat)).rules.freehit) (m9:=(Bv (⟨⟨m0,m1,m2,m3,m4,m5,m6,m7,m8,m9,m10,m11,m12,m13⟩,m14,m15,m16,m17,m18,m19,m20,m21,m22⟩:Mat)).rules.newball) (m10:=(Bv (⟨⟨m0,m1,m2,m3,m4,m5,m6,m7,m8,m9,m10,m11,m12,m13⟩,m14,m15,m16,m17,m18,m19,m20,m21,m22⟩:Mat)).rules.followon) (m11:=(Bv (⟨⟨m0,m1,m2,m3,m4,m5,m6,m7,m8,m9,m10,m11,m12,m13⟩,m14,m15,m16,m17,m18,m19,m20,m21,m22⟩:Mat)).rules.reviews) (m12:=(Bv (⟨⟨m0,m1,m2,m3,m4,m5,m6,m7,m8,m9,m10,m11,m12,m13⟩,m14,m15,m16,m17,m18,m19,m20,m21,m22⟩:Mat)).rules.outside) (m13:=(Bv (⟨⟨m0,m1,m2,m3,m4,m5,m6,m7,m8,m9,m10,m11,m12,m13⟩,m14,m15,m16,m17,m18,m19,m20,m21,m22⟩:Mat)).rules.power) (m14:=(Bv (⟨⟨m0,m1,m2,m3,m4,m5,m6,m7,m8,m9,m10,m11,m12,m13⟩,m14,m15,m16,m17,m18,m19,m20,m21,m22⟩:Mat)).stage) (m15:=(Bv (⟨⟨m0,m1,m2,m3,m4,m5,m6,m7,m8,m9,m10,m11,m12,m13⟩,m14,m15,m16,m17,m18,m19,m20,m21,m22⟩:Mat)).first) (m16:=(Bv (⟨⟨m0,m1,m2,m3,m4,m5,m6,m7,m8,m9,m10,m11,m12,m13⟩,m14,m15,m16,m17,m18,m19,m20,m21,m22⟩:Mat)).follow) (m17:=(Bv (⟨⟨m0,m1,m2,m3,m4,m5,m6,m7,m8,m9,m10,m11,m12,m13⟩,m14,m15,m16,m17,m18,m19,m20,m21,m22⟩:Mat)).inns) (m18:=(Bv (⟨⟨m0,m1,m2,m3,m4,m5,m6,m7,m8,m9,m10,m11,m12,m13⟩,m14,m15,m16,m17,m18,m19,m20,m21,m22⟩:Mat)).pen1) (m19:=(Bv (⟨⟨m0,m1,m2,m3,m4,m5,m6,m7,m8,m9,m10,m11,m12,m13⟩,m14,m15,m16,m17,m18,m19,m20,m21,m22⟩:Mat)).pen2) (m20:=(Bv (⟨⟨m0,m1,m2,m3,m4,m5,m6,m7,m8,m9,m10,m11,m12,m13⟩,m14,m15,m16,m17,m18,m19,m20,m21,m22⟩:Mat)).win) (m21:=(Bv (⟨⟨m0,m1,m2,m3,m4,m5,m6,m7,m8,m9,m10,m11,m12,m13⟩,m14,m15,m16,m17,m18,m19,m20,m21,m22⟩:Mat)).wside) (m22:=(Bv (⟨⟨m0,m1,m2,m3,m4,m5,m6,m7,m8,m9,m10,m11,m12,m13⟩,m14,m15,m16,m17,m18,m19,m20,m21,m22⟩:Mat)).margin) (r:=1) hN ok.fit hl nn pp (by omega)
 have e2:((1:Int)+1).toNat=2:=rfl
 rw [e2] at DR
 simp only [EC,M6,OP,MV,JD,std,xOf,PXb,PXc,PXn,PXm,Nat.reduceAdd,Int.reduceBEq,ha,cg hN,PXk,DR,Ou hN ok.fit hl nn pp,Pp]
 change ofI (isD (AP d0 d1 d2 d4 d5 d6 d7 d8)) (L0 (Bv (⟨⟨m0,m1,m2,m3,m4,m5,m6,m7,m8,m9,m10,m11,m12,m13⟩,m14,m15,m16,m17,m18,m19,m20,m21,m22⟩:Mat)) 2)=cond ((Bb (Bv (⟨⟨m0,m1,m2,m3,m4,m5,m6,m7,m8,m9,m10,m11,m12,m13⟩,m14,m15,m16,m17,m18,m19,m20,m21,m22⟩:Mat)) ⟨4,0,0,0,false,0,0,⟨d0,d1,d2,0,d4,d5,d6,d7,d8,0,false,0⟩⟩).2==0&&iLe d2 1) 1 0 at li
 generalize hX:L0 (Bv (⟨⟨m0,m1,m2,m3,m4,m5,m6,m7,m8,m9,m10,m11,m12,m13⟩,m14,m15,m16,m17,m18,m19,m20,m21,m22⟩:Mat)) 2=X at *
 refine AM (BE (len:=X.length) (fun i=>[.int ((ofI (isD (AP d0 d1 d2 d4 d5 d6 d7 d8)) (X.take i):Nat):Int),.int (i:Int)]) [.int ((ofI (isD (AP d0 d1 d2 d4 d5 d6 d7 d8)) X:Nat):Int)] ?_ ?_ N (by omega)) ?_
 ·intro self
  simp only [PXb,PXc,PXn,AF,BX,List.take_length]
 ·intro i self hi
  have qe:(pvI (AB X i 0)==d0&&(pvI (AB X i 1)==d1&&(pvI (AB X i 2)==d2&&(pvI (AB X i 3)==0&&(pvI (AB X i 4)==d4&&(pvB (AB X i 5)==d5&&(pvI (AB X i 6)==d6&&(pvI (AB X i 7)==d7&&(pvI (AB X i 8)==d8&&(pvI (AB X i 9)==0&&(pvB (AB X i 10)==false&&(pvI (AB X i 11)==0))))))))))))=isD (AP d0 d1 d2 d4 d5 d6 d7 d8) (Ac X i):=rfl
  have ol:=cw (isD (AP d0 d1 d2 d4 d5 d6 d7 d8)) (X.take i)
  rw [List.length_take] at ol
  rw [eG _ hi]
  generalize ofI (isD (AP d0 d1 d2 d4 d5 d6 d7 d8)) (X.take i)=c at *
  simp only [PXb,PXc,PXn,AF,Az hi,Ag hi,Int.toNat_natCast,D3 (show i≤1099511627776 by omega),qe,D3 (show c≤1099511627776 by omega)]
  cases isD (AP d0 d1 d2 d4 d5 d6 d7 d8) (Ac X i)<;>rfl
 ·rw [li]
  generalize ((Bb (Bv (⟨⟨m0,m1,m2,m3,m4,m5,m6,m7,m8,m9,m10,m11,m12,m13⟩,m14,m15,m16,m17,m18,m19,m20,m21,m22⟩:Mat)) ⟨4,0,0,0,false,0,0,⟨d0,d1,d2,0,d4,d5,d6,d7,d8,0,false,0⟩⟩).2==0)=W
  generalize iLe d2 1=V
  cases W<;>cases V<;>rfl
end Go.Px
end
