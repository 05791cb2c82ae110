/- Part 12. -/
import Derived.Test.YteolngdncakekaaGreatPart11
import Derived.KernelRfl
set_option linter.unusedVariables false
set_option linter.unusedSimpArgs false
section
namespace Go.Px
set_option maxRecDepth 100000
theorem bO {N:Nat} (l:Int):CH N [.int l]=CH 0 [.int l]:=rfl
def ay (l:Int):ByteArray:=match CH 0 [.int l] with
 | some [.str s]=>s
 | _=>ByteArray.empty
theorem YF {N:Nat} (l:Int):CH N [.int l]=some [.str (ay l)]:=by
 rw [bO]
 have:∃ s,CH 0 [.int l]=some [.str s]:=by
  show ∃ s,J1 (std (QI 0) 0) (xOf _)=some [.str s]
  simp only [J1,std,xOf,PXb,PXc,PXn,PXm,Nat.reduceAdd,Int.reduceBEq]
  cases h:(iLt l 0||iLe ((27:Nat):Int) l) with
  | true=>exact ⟨_,by simp only [List.length_cons,List.length_nil,Nat.reduceAdd,h,cond_true];rfl⟩
  | false =>
   have hi:iIn l ((27:Nat):Int)=true:=by
    simp only [iLt,iLe,Bool.or_eq_false_iff,decide_eq_false_iff_not] at h
    simp only [iIn,decide_eq_true_eq]
    omega
   exact ⟨_,by simp only [List.length_cons,List.length_nil,Nat.reduceAdd,h,cond_false,hi,cond_true];rfl⟩
 obtain ⟨s,hs⟩:=this
 unfold ay
 rw [hs]
def Wy:Rul:=⟨⟨#[84,87,79]⟩,2,1,1,4,0,1,1,false,0,0,0,0,[]⟩
def U5:Mat:=⟨Wy,1,0,false,[],0,0,0,0,0⟩
def Uk:Mat:=⟨Wy,2,1,false,[],0,0,0,0,0⟩
def evN (k s p o:Int) (y:Bool):List PV:=[.int k,.int s,.int p,.int o,.bool y,.int 0,.int 0,.int 0,.int 0,.int 0,.int 0,.int 0,.bool false,.int 0,.int 0,.int 0,.int 0,.bool false,.int 0]
theorem ga:Yl Wy=(U5,0):=by kernel_rfl
theorem fX:Oi U5=[evN 1 1 0 0 false,evN 1 1 0 0 true,evN 1 2 0 0 false,evN 1 2 0 0 true,evN 16 0 0 0 false]:=by kernel_rfl
theorem fe:BF U5 (evK 1 1 0 0 true 0)=(Uk,0):=by kernel_rfl
theorem eg:Oi Uk=[evN 2 0 1 2 false,evN 2 0 2 1 false,evN 16 0 0 0 false]:=by kernel_rfl
theorem gl:(BF Uk (evK 1 1 0 0 true 0)).2=1:=by kernel_rfl
theorem fZ {N:Nat}:L2 N []=some [.str ⟨#[84,87,79]⟩,.int 2,.int 1,.int 1,.int 4,.int 0,.int 1,.int 1,.bool false,.int 0,.int 0,.int 0,.int 0,.rows []]:=rfl
theorem fa:ay 1=⟨#[80,72,65,83,69]⟩:=by kernel_rfl
set_option maxHeartbeats 1000000 in
theorem Zr:IY 4194304 []=some [.bool true]:=by
 have hN:2097152<4194304:=by omega
 have hs:Wy.name.size≤1048576:=by decide
 have hf:Gl ([]:List Inn):=fun i hi=>absurd hi (Nat.not_lt_zero _)
 have k1:E4 4194304 Wy.ls=some (PH (Yl Wy)):=Zb hN hs (Nat.zero_le _)
 have k2:Bm 4194304 U5.ls=some [.rows (Oi U5)]:=N4 hN hf (Nat.zero_le _) hs (Nat.zero_le _)
 have k3:BS 4194304 (U5.ls++evN 1 1 0 0 true)=some (PH (BF U5 (evK 1 1 0 0 true 0))):=OK hN hf (Nat.zero_le _) hs (Nat.zero_le _)
 have k4:Bm 4194304 Uk.ls=some [.rows (Oi Uk)]:=N4 hN hf (Nat.zero_le _) hs (Nat.zero_le _)
 have k5:CG 4194304 (Uk.ls++evN 1 1 0 0 true)=some [.int (BF Uk (evK 1 1 0 0 true 0)).2]:=Ts hN hf (Nat.zero_le _) hs (Nat.zero_le _)
 have k6:=YF (N:=4194304) 1
 rw [ga] at k1
 rw [fX] at k2
 rw [fe] at k3
 rw [eg] at k4
 rw [gl] at k5
 rw [fa] at k6
 obtain ⟨R,hR⟩:∃ R:Rows,R=[evN 1 1 0 0 false,evN 1 1 0 0 true,evN 1 2 0 0 false,evN 1 2 0 0 true,evN 16 0 0 0 false]:=⟨_,rfl⟩
 obtain ⟨Q,hQ⟩:∃ Q:Rows,Q=[evN 2 0 1 2 false,evN 2 0 2 1 false,evN 16 0 0 0 false]:=⟨_,rfl⟩
 rw [← hR] at k2
 rw [← hQ] at k4
 have lR:R.length=5:=by rw [hR];rfl
 have lQ:Q.length=3:=by rw [hQ];rfl
 have f0_0:pvI (AA R 0 0)=1:=by rw [hR];rfl
 have f0_1:pvI (AA R 0 1)=1:=by rw [hR];rfl
 have f0_2:pvI (AA R 0 2)=0:=by rw [hR];rfl
 have f0_3:pvI (AA R 0 3)=0:=by rw [hR];rfl
 have f0_4:pvB (AA R 0 4)=false:=by rw [hR];rfl
 have f0_5:pvI (AA R 0 5)=0:=by rw [hR];rfl
 have f0_6:pvI (AA R 0 6)=0:=by rw [hR];rfl
 have f0_7:pvI (AA R 0 7)=0:=by rw [hR];rfl
 have f0_8:pvI (AA R 0 8)=0:=by rw [hR];rfl
 have f0_9:pvI (AA R 0 9)=0:=by rw [hR];rfl
 have f0_10:pvI (AA R 0 10)=0:=by rw [hR];rfl
 have f0_11:pvI (AA R 0 11)=0:=by rw [hR];rfl
 have f0_12:pvB (AA R 0 12)=false:=by rw [hR];rfl
 have f0_13:pvI (AA R 0 13)=0:=by rw [hR];rfl
 have f0_14:pvI (AA R 0 14)=0:=by rw [hR];rfl
 have f0_15:pvI (AA R 0 15)=0:=by rw [hR];rfl
 have f0_16:pvI (AA R 0 16)=0:=by rw [hR];rfl
 have f0_17:pvB (AA R 0 17)=false:=by rw [hR];rfl
 have f0_18:pvI (AA R 0 18)=0:=by rw [hR];rfl
 have f1_0:pvI (AA R 1 0)=1:=by rw [hR];rfl
 have f1_1:pvI (AA R 1 1)=1:=by rw [hR];rfl
 have f1_2:pvI (AA R 1 2)=0:=by rw [hR];rfl
 have f1_3:pvI (AA R 1 3)=0:=by rw [hR];rfl
 have f1_4:pvB (AA R 1 4)=true:=by rw [hR];rfl
 have f1_5:pvI (AA R 1 5)=0:=by rw [hR];rfl
 have f1_6:pvI (AA R 1 6)=0:=by rw [hR];rfl
 have f1_7:pvI (AA R 1 7)=0:=by rw [hR];rfl
 have f1_8:pvI (AA R 1 8)=0:=by rw [hR];rfl
 have f1_9:pvI (AA R 1 9)=0:=by rw [hR];rfl
 have f1_10:pvI (AA R 1 10)=0:=by rw [hR];rfl
 have f1_11:pvI (AA R 1 11)=0:=by rw [hR];rfl
 have f1_12:pvB (AA R 1 12)=false:=by rw [hR];rfl
 have f1_13:pvI (AA R 1 13)=0:=by rw [hR];rfl
 have f1_14:pvI (AA R 1 14)=0:=by rw [hR];rfl
 have f1_15:pvI (AA R 1 15)=0:=by rw [hR];rfl
 have f1_16:pvI (AA R 1 16)=0:=by rw [hR];rfl
 have f1_17:pvB (AA R 1 17)=false:=by rw [hR];rfl
 have f1_18:pvI (AA R 1 18)=0:=by rw [hR];rfl
 have f4_0:pvI (AA R 4 0)=16:=by rw [hR];rfl
 have f4_1:pvI (AA R 4 1)=0:=by rw [hR];rfl
 have f4_2:pvI (AA R 4 2)=0:=by rw [hR];rfl
 have f4_3:pvI (AA R 4 3)=0:=by rw [hR];rfl
 have f4_4:pvB (AA R 4 4)=false:=by rw [hR];rfl
 have f4_5:pvI (AA R 4 5)=0:=by rw [hR];rfl
 have f4_6:pvI (AA R 4 6)=0:=by rw [hR];rfl
 have f4_7:pvI (AA R 4 7)=0:=by rw [hR];rfl
 have f4_8:pvI (AA R 4 8)=0:=by rw [hR];rfl
 have f4_9:pvI (AA R 4 9)=0:=by rw [hR];rfl
 have f4_10:pvI (AA R 4 10)=0:=by rw [hR];rfl
 have f4_11:pvI (AA R 4 11)=0:=by rw [hR];rfl
 have f4_12:pvB (AA R 4 12)=false:=by rw [hR];rfl
 have f4_13:pvI (AA R 4 13)=0:=by rw [hR];rfl
 have f4_14:pvI (AA R 4 14)=0:=by rw [hR];rfl
 have f4_15:pvI (AA R 4 15)=0:=by rw [hR];rfl
 have f4_16:pvI (AA R 4 16)=0:=by rw [hR];rfl
 have f4_17:pvB (AA R 4 17)=false:=by rw [hR];rfl
 have f4_18:pvI (AA R 4 18)=0:=by rw [hR];rfl
 clear hR hQ
 change E4 4194304 [.str ⟨#[84,87,79]⟩,.int 2,.int 1,.int 1,.int 4,.int 0,.int 1,.int 1,.bool false,.int 0,.int 0,.int 0,.int 0,.rows []]=some [.str ⟨#[84,87,79]⟩,.int 2,.int 1,.int 1,.int 4,.int 0,.int 1,.int 1,.bool false,.int 0,.int 0,.int 0,.int 0,.rows [],.int 1,.int 0,.bool false,.rows [],.int 0,.int 0,.int 0,.int 0,.int 0,.int 0] at k1
 change Bm 4194304 [.str ⟨#[84,87,79]⟩,.int 2,.int 1,.int 1,.int 4,.int 0,.int 1,.int 1,.bool false,.int 0,.int 0,.int 0,.int 0,.rows [],.int 1,.int 0,.bool false,.rows [],.int 0,.int 0,.int 0,.int 0,.int 0]=some [.rows R] at k2
 change BS 4194304 [.str ⟨#[84,87,79]⟩,.int 2,.int 1,.int 1,.int 4,.int 0,.int 1,.int 1,.bool false,.int 0,.int 0,.int 0,.int 0,.rows [],.int 1,.int 0,.bool false,.rows [],.int 0,.int 0,.int 0,.int 0,.int 0,.int 1,.int 1,.int 0,.int 0,.bool true,.int 0,.int 0,.int 0,.int 0,.int 0,.int 0,.int 0,.bool false,.int 0,.int 0,.int 0,.int 0,.bool false,.int 0]=some [.str ⟨#[84,87,79]⟩,.int 2,.int 1,.int 1,.int 4,.int 0,.int 1,.int 1,.bool false,.int 0,.int 0,.int 0,.int 0,.rows [],.int 2,.int 1,.bool false,.rows [],.int 0,.int 0,.int 0,.int 0,.int 0,.int 0] at k3
 change Bm 4194304 [.str ⟨#[84,87,79]⟩,.int 2,.int 1,.int 1,.int 4,.int 0,.int 1,.int 1,.bool false,.int 0,.int 0,.int 0,.int 0,.rows [],.int 2,.int 1,.bool false,.rows [],.int 0,.int 0,.int 0,.int 0,.int 0]=some [.rows Q] at k4
 change CG 4194304 [.str ⟨#[84,87,79]⟩,.int 2,.int 1,.int 1,.int 4,.int 0,.int 1,.int 1,.bool false,.int 0,.int 0,.int 0,.int 0,.rows [],.int 2,.int 1,.bool false,.rows [],.int 0,.int 0,.int 0,.int 0,.int 0,.int 1,.int 1,.int 0,.int 0,.bool true,.int 0,.int 0,.int 0,.int 0,.int 0,.int 0,.int 0,.bool false,.int 0,.int 0,.int 0,.int 0,.bool false,.int 0]=some [.int 1] at k5
 have t0:(0:Int).toNat=0:=rfl
 have t1:(1:Int).toNat=1:=rfl
 have t4:(4:Int).toNat=4:=rfl
 have c5:((5:Nat):Int)=5:=rfl
 have c3:((3:Nat):Int)=3:=rfl
 have i0:iIn 0 5=true:=by decide
 have i1:iIn 1 5=true:=by decide
 have i4:iIn 4 5=true:=by decide
 show Le (std (CW 4194304) 4194304) (xOf [])=_
 simp only [Le,PP,Pi,PS,Pw,P1,Rm,std,xOf,PXb,PXc,PXn,PXm,Nat.reduceAdd,Int.reduceBEq,fZ,k1,k2,lR,lQ,t0,t1,t4,c5,c3,i0,i1,i4,f0_0,f0_1,f0_2,f0_3,f0_4,f0_5,f0_6,f0_7,f0_8,f0_9,f0_10,f0_11,f0_12,f0_13,f0_14,f0_15,f0_16,f0_17,f0_18,f1_0,f1_1,f1_2,f1_3,f1_4,f1_5,f1_6,f1_7,f1_8,f1_9,f1_10,f1_11,f1_12,f1_13,f1_14,f1_15,f1_16,f1_17,f1_18,f4_0,f4_1,f4_2,f4_3,f4_4,f4_5,f4_6,f4_7,f4_8,f4_9,f4_10,f4_11,f4_12,f4_13,f4_14,f4_15,f4_16,f4_17,f4_18,k3,k4,k5,k6,beq_self_eq_true,Int.reduceBEq]
end Go.Px
end
section
namespace Go.Px
set_option maxRecDepth 100000
def evB (d:Del):Ev:=⟨4,0,0,0,false,0,0,d⟩
def X9 (t s n b:Int) (x:Bool) (h v f:Int):Del:=⟨t,s,n,0,b,x,h,v,f,0,false,0⟩
def hC (x:List PV):Del:=⟨pvI (AB x 0),pvI (AB x 1),pvI (AB x 2),pvI (AB x 3),pvI (AB x 4),pvB (AB x 5),pvI (AB x 6),pvI (AB x 7),pvI (AB x 8),pvI (AB x 9),pvB (AB x 10),pvI (AB x 11)⟩
def f0 (m:Mat) (d:Del):Bool:=(BF m (evB d)).2==0
structure AccD (m:Mat) (d:Del):Prop where
 stage:(m.stage==3)=true
 some':((m.inns.length:Int)==0)=false
 valid:Bk m=true
 legal:(HX d==0)=true
 poss:(Of d (Cl m).freehit==0)=true
 poss0:(Of d false==0)=true
 type:1≤d.type∧d.type≤3
 source:d.source≤3
 how:d.how≤10
 runs:0≤d.runs∧d.runs≤7
 boundary:d.boundary=0∨d.boundary=4∨d.boundary=6
 victim:0≤d.victim∧d.victim≤2
 fielder:0≤d.fielder∧d.fielder≤11
def hP (m:Mat) (t s n b:Int) (x:Bool) (h v f:Int):Rows:=cond (f0 m (X9 t s n b x h v f)) [(X9 t s n b x h v f).ls] []
def g9 (g:Int→Int→Int→Rows):Rows:=fm (fun h=>fm (fun v=>fm (fun f=>g h v f) 0 12) 0 3) 0 11
def flt (q:List PV→Bool):Rows→Rows
 | []=>[]
 | x::D=>cond (q x) [x] []++flt q D
def gz (t s n b:Int) (x:Bool) (free:Bool):Rows:=g9 fun h v f=>cond (HX (X9 t s n b x h v f)==0&&Of (X9 t s n b x h v f) free==0) [(X9 t s n b x h v f).ls] []
theorem b3 {g:Int→Rows} (hz:∀ b,¬ (b=0∨b=4∨b=6)→g b=[]):fm g 0 7=g 0++g 4++g 6:=by
 show []++g (0+((0:Nat):Int))++g (0+((1:Nat):Int))++g (0+((2:Nat):Int))++g (0+((3:Nat):Int))++g (0+((4:Nat):Int))++g (0+((5:Nat):Int))++g (0+((6:Nat):Int))=_
 rw [hz (0+((1:Nat):Int)) (by omega),hz (0+((2:Nat):Int)) (by omega),hz (0+((3:Nat):Int)) (by omega),hz (0+((5:Nat):Int)) (by omega)]
 simp only [List.append_nil,List.nil_append]
 rfl
end Go.Px
end
section
namespace Go.Px
set_option maxRecDepth 100000
theorem fj {D:Rows} {i:Nat} (h:i<D.length):Am D i∈D:=by
 unfold Am
 rw [List.getD_eq_getElem?_getD,List.getElem?_eq_getElem h]
 exact List.getElem_mem h
end Go.Px
end
section
namespace Go.Px
set_option maxRecDepth 100000
def gF (m:Mat) (free:Bool) (t s n b:Int) (x:Bool):Rows:=flt (fun y=>f0 m (hC y)) (gz t s n b x free)
def gX (m:Mat) (free:Bool) (t s n b:Int):Rows:=yF true (gF m free t s n b)
def gN (m:Mat) (free:Bool) (t s n:Int):Rows:=gX m free t s n 0++gX m free t s n 4++gX m free t s n 6
def gS (m:Mat) (free:Bool) (R:Nat) (t s:Int):Rows:=fm (gN m free t s) 0 R
def gT (m:Mat) (free:Bool) (R:Nat) (t:Int):Rows:=fm (gS m free R t) 0 4
end Go.Px
end
section
namespace Go.Px
set_option maxRecDepth 100000
def w1 (m:Mat) (t s n b:Int) (x:Bool) (h v:Int):Rows:=fm (hP m t s n b x h v) 0 12
def w2 (m:Mat) (t s n b:Int) (x:Bool) (h:Int):Rows:=fm (w1 m t s n b x h) 0 3
def w3 (m:Mat) (t s n b:Int) (x:Bool):Rows:=fm (w2 m t s n b x) 0 11
def w4 (m:Mat) (t s n b:Int):Rows:=fm (fun x=>w3 m t s n b (x==1)) 0 2
def gA (m:Mat) (t s n:Int):Rows:=fm (w4 m t s n) 0 7
def gB (m:Mat) (R:Nat) (t s:Int):Rows:=fm (gA m t s) 0 R
end Go.Px
end
section
namespace Go.Px
set_option maxRecDepth 100000
def JD (e:Ev) (x:List PV):Bool:=pvI (AB x 0)==e.kind&&(pvI (AB x 1)==e.side&&(pvI (AB x 2)==e.player&&(pvI (AB x 3)==e.other&&(pvB (AB x 4)==e.yes&&(pvI (AB x 5)==e.runs&&(pvI (AB x 6)==e.overs&&(pvI (AB x 7)==e.ball.type&&(pvI (AB x 8)==e.ball.source&&(pvI (AB x 9)==e.ball.runs&&(pvI (AB x 10)==e.ball.short&&(pvI (AB x 11)==e.ball.boundary&&(pvB (AB x 12)==e.ball.crossed&&(pvI (AB x 13)==e.ball.how&&(pvI (AB x 14)==e.ball.victim&&(pvI (AB x 15)==e.ball.fielder&&(pvI (AB x 16)==e.ball.second&&(pvB (AB x 17)==e.ball.sub&&pvI (AB x 18)==e.ball.sector)))))))))))))))))
theorem dv {e g:Ev} (h:JD e (PI g)=true):g=e:=by
 obtain ⟨a0,a1,a2,a3,a4,a5,a6,⟨b0,b1,b2,b3,b4,b5,b6,b7,b8,b9,b10,b11⟩⟩:=e
 obtain ⟨c0,c1,c2,c3,c4,c5,c6,⟨d0,d1,d2,d3,d4,d5,d6,d7,d8,d9,d10,d11⟩⟩:=g
 change (c0==a0&&(c1==a1&&(c2==a2&&(c3==a3&&(c4==a4&&(c5==a5&&(c6==a6&&(d0==b0&&(d1==b1&&(d2==b2&&(d3==b3&&(d4==b4&&(d5==b5&&(d6==b6&&(d7==b7&&(d8==b8&&(d9==b9&&(d10==b10&&d11==b11))))))))))))))))))=true at h
 simp only [Bool.and_eq_true,beq_iff_eq] at h
 obtain ⟨rfl,rfl,rfl,rfl,rfl,rfl,rfl,rfl,rfl,rfl,rfl,rfl,rfl,rfl,rfl,rfl,rfl,rfl,rfl⟩:=h
 rfl
theorem gd (e:Ev):JD e (PI e)=true:=by
 obtain ⟨a0,a1,a2,a3,a4,a5,a6,⟨b0,b1,b2,b3,b4,b5,b6,b7,b8,b9,b10,b11⟩⟩:=e
 show (a0==a0&&(a1==a1&&(a2==a2&&(a3==a3&&(a4==a4&&(a5==a5&&(a6==a6&&(b0==b0&&(b1==b1&&(b2==b2&&(b3==b3&&(b4==b4&&(b5==b5&&(b6==b6&&(b7==b7&&(b8==b8&&(b9==b9&&(b10==b10&&b11==b11))))))))))))))))))=true
 simp only [beq_self_eq_true,Bool.and_self]
theorem X6 {m:Mat} {k s p o:Int} {y:Bool} {n:Int} {x:List PV} (h:x∈A7 m k s p o y n):x=PI (evK k s p o y n)∧((BF m (evK k s p o y n)).2==0)=true:=by
 unfold A7 at h
 cases hc:(BF m (evK k s p o y n)).2==0 with
 | false=>rw [hc] at h;exact absurd h List.not_mem_nil
 | true =>
  rw [hc] at h
  exact ⟨List.mem_singleton.1 h,rfl⟩
theorem fh {m:Mat} {k:Int} {b:Bool} {sl pl ol rl:Int} {sn pn on rn:Nat} {x:List PV} (h:x∈MV (A7 m k) b sl pl ol rl sn pn on rn):∃ s p o y n,x=PI (evK k s p o y n)∧((BF m (evK k s p o y n)).2==0)=true:=by
 unfold MV at h
 obtain ⟨s,_,_,h⟩:=HT _ h
 obtain ⟨p,_,_,h⟩:=HT _ h
 obtain ⟨o,_,_,h⟩:=HT _ h
 rcases List.mem_append.1 h with h | h
 ·obtain ⟨n,_,_,h⟩:=HT _ h
  exact ⟨s,p,o,false,n,X6 h⟩
 ·cases b with
  | false=>exact absurd h List.not_mem_nil
  | true =>
   obtain ⟨n,_,_,h⟩:=HT _ h
   exact ⟨s,p,o,true,n,X6 h⟩
theorem Wz {m:Mat} {x:List PV} (h:x∈Ep m):∃ e:Ev,x=PI e∧((BF m e).2==0)=true∧¬ e.kind=4∧¬ e.kind=15:=by
 unfold Ep at h
 obtain ⟨k,_,_,h⟩:=HT _ h
 cases hk:(k==4||k==15) with
 | true=>rw [hk] at h;exact absurd h List.not_mem_nil
 | false =>
  rw [hk] at h
  obtain ⟨s,p,o,y,n,h1,h2⟩:=fh h
  refine ⟨_,h1,h2,fun e=>?_,fun e=>?_⟩
  ·change k=4 at e
   rw [e] at hk
   cases hk
  ·change k=15 at e
   rw [e] at hk
   cases hk
theorem HF {q:List PV→Bool}:∀ D:Rows,(∀ x,x∈D→q x=false)→ofI q D=0
 | [],_=>rfl
 | x::D,h=>by
  have ih:=HF D (fun y hy=>h y (List.mem_cons_of_mem _ hy))
  show cond (q x) 1 0+ofI q D=0
  rw [h x List.mem_cons_self,ih]
  rfl
theorem f9 {d:Del} (h:Qf d=true):d=⟨0,0,0,0,0,false,0,0,0,0,false,0⟩:=by
 obtain ⟨b0,b1,b2,b3,b4,b5,b6,b7,b8,b9,b10,b11⟩:=d
 unfold Qf at h
 simp only [Bool.and_eq_true,beq_iff_eq] at h
 obtain ⟨rfl,rfl,rfl,rfl,rfl,rfl,rfl,rfl,rfl,rfl,rfl,rfl⟩:=h
 rfl
theorem eW {m:Mat} {e:Ev} (h:((BF m e).2==0)=true) (h4:¬ e.kind=4) (h15:¬ e.kind=15):e=evK e.kind e.side e.player e.other e.yes e.runs∧(1≤e.kind∧e.kind≤16)∧(0≤e.side∧e.side<3)∧(0≤e.player∧e.player<12)∧(0≤e.other∧e.other<12)∧(0≤e.runs∧e.runs<100):=by
 have a:=eH h
 have uv:uV e.kind=false:=beq_false_of_ne h15
 have ub:uB e.kind=false:=beq_false_of_ne h4
 have a1:=a.side
 have a2:=a.player
 have a3:=a.other
 have a5:=a.runs
 have a6:=a.pen
 refine ⟨?_,a.kind,?_,?_,?_,?_⟩
 ·obtain ⟨c0,c1,c2,c3,c4,c5,c6,d⟩:=e
  have o:c6=0:=a.overs uv
  have z:d=_:=f9 (a.ball ub)
  rw [o,z]
  rfl
 ·cases hu:uS e.kind<;>rw [hu] at a1<;>simp only [cond_true,cond_false] at a1<;>omega
 ·cases hu:uP e.kind<;>rw [hu] at a2<;>simp only [cond_true,cond_false] at a2<;>omega
 ·cases hu:uO e.kind<;>rw [hu] at a3<;>simp only [cond_true,cond_false] at a3<;>omega
 ·cases hu:uR e.kind with
  | false=>rw [hu] at a5;simp only [cond_false] at a5;omega
  | true =>
   rw [hu] at a5
   unfold uR at hu
   simp only [Bool.or_eq_true,beq_iff_eq] at hu
   rcases hu with (hu | hu) | hu
   ·rw [hu] at a5
    change 0≤e.runs∧e.runs≤11 at a5
    omega
   ·have:=a6 hu
    omega
   ·exact absurd hu h15
end Go.Px
end
section
namespace Go.Px
set_option maxRecDepth 100000
theorem P2 {m:Mat} {e:Ev} {k s p o:Int} {y:Bool} {n:Int} {x:List PV} (h:x∈A7 m k s p o y n) (hq:JD e x=true):k=e.kind∧s=e.side∧p=e.player∧o=e.other∧y=e.yes∧n=e.runs:=by
 rw [(X6 h).1] at hq
 have:=dv hq
 rw [← this]
 exact ⟨rfl,rfl,rfl,rfl,rfl,rfl⟩
def q1 (m:Mat) (k s p o:Int) (y:Bool):Rows:=fm (fun n=>A7 m k s p o y n) 0 100
def q2 (m:Mat) (k s p o:Int):Rows:=yF true (q1 m k s p o)
def q3 (m:Mat) (k s p:Int):Rows:=fm (q2 m k s p) 0 12
def q4 (m:Mat) (k s:Int):Rows:=fm (q3 m k s) 0 12
theorem bv (m:Mat) (k:Int):UU m k=fm (q4 m k) 0 3:=rfl
theorem aC {m:Mat} {k s p o:Int} {y:Bool} {x:List PV} (h:x∈q1 m k s p o y):∃ n,x∈A7 m k s p o y n:=by
 obtain ⟨n,_,_,h⟩:=HT _ h
 exact ⟨n,h⟩
theorem eG {m:Mat} {k s p o:Int} {x:List PV} (h:x∈q2 m k s p o):∃ y n,x∈A7 m k s p o y n:=by
 rcases List.mem_append.1 h with h | h
 ·exact ⟨_,aC h⟩
 ·exact ⟨true,aC h⟩
theorem eJ {m:Mat} {k s p:Int} {x:List PV} (h:x∈q3 m k s p):∃ o y n,x∈A7 m k s p o y n:=by
 obtain ⟨o,_,_,h⟩:=HT _ h
 exact ⟨o,eG h⟩
theorem eD {m:Mat} {k s:Int} {x:List PV} (h:x∈q4 m k s):∃ p o y n,x∈A7 m k s p o y n:=by
 obtain ⟨p,_,_,h⟩:=HT _ h
 exact ⟨p,eJ h⟩
theorem gh {m:Mat} {k:Int} {x:List PV} (h:x∈UU m k):∃ s p o y n,x∈A7 m k s p o y n:=by
 rw [bv] at h
 obtain ⟨s,_,_,h⟩:=HT _ h
 exact ⟨s,eD h⟩
theorem K6 {b:Bool} (h:¬ b=true):b=false:=by
 cases b with
 | true=>exact absurd rfl h
 | false=>rfl
theorem Ac (m:Mat) (e:Ev):ofI (JD e) (Ep m)=cond ((BF m e).2==0 && !(e.kind==4) && !(e.kind==15)) 1 0:=by
 cases hc:((BF m e).2==0 && !(e.kind==4) && !(e.kind==15)) with
 | false =>
  refine HF _ fun x hx=>K6 fun hq=>?_
  obtain ⟨g,h1,h2,h3,h4⟩:=Wz hx
  rw [h1] at hq
  rw [dv hq] at h2 h3 h4
  rw [h2,beq_false_of_ne h3,beq_false_of_ne h4] at hc
  cases hc
 | true =>
  simp only [Bool.and_eq_true,Bool.not_eq_true',beq_eq_false_iff_ne] at hc
  obtain ⟨⟨h2,h3⟩,h4⟩:=hc
  obtain ⟨he,k1,k2,k3,k4,k5⟩:=eW h2 h3 h4
  unfold Ep
  rw [L3 (i:=e.kind) k1.1 (by omega) (fun j hj=>HF _ fun x hx=>K6 fun hq=>by
   cases hk:(j==4||j==15) with
   | true=>rw [hk] at hx;exact absurd hx List.not_mem_nil
   | false =>
    rw [hk] at hx
    obtain ⟨s,p,o,y,n,h⟩:=gh hx
    exact hj (P2 h hq).1)]
  rw [beq_false_of_ne h3,beq_false_of_ne h4,Bool.or_self,cond_false,bv]
  rw [L3 (i:=e.side) k2.1 (by omega) (fun j hj=>HF _ fun x hx=>K6 fun hq=>by
   obtain ⟨p,o,y,n,h⟩:=eD hx
   exact hj (P2 h hq).2.1)]
  unfold q4
  rw [L3 (i:=e.player) k3.1 (by omega) (fun j hj=>HF _ fun x hx=>K6 fun hq=>by
   obtain ⟨o,y,n,h⟩:=eJ hx
   exact hj (P2 h hq).2.2.1)]
  unfold q3
  rw [L3 (i:=e.other) k4.1 (by omega) (fun j hj=>HF _ fun x hx=>K6 fun hq=>by
   obtain ⟨y,n,h⟩:=eG hx
   exact hj (P2 h hq).2.2.2.1)]
  have last:ofI (JD e) (q1 m e.kind e.side e.player e.other e.yes)=1:=by
   unfold q1
   rw [L3 (i:=e.runs) k5.1 (by omega) (fun j hj=>HF _ fun x hx=>K6 fun hq=>hj (P2 hx hq).2.2.2.2.2)]
   unfold A7
   rw [← he,h2]
   show cond (JD e (PI e)) 1 0+0=1
   rw [gd]
   rfl
  have other:∀ y,¬ y=e.yes→ofI (JD e) (q1 m e.kind e.side e.player e.other y)=0:=fun y hy=>HF _ fun x hx=>K6 fun hq=>by
   obtain ⟨n,h⟩:=aC hx
   exact hy (P2 h hq).2.2.2.2.1
  show ofI (JD e) (q1 m e.kind e.side e.player e.other false++q1 m e.kind e.side e.player e.other true)=1
  rw [NZ]
  cases hy:e.yes with
  | false =>
   rw [hy] at last
   rw [last,other true (by rw [hy];decide)]
  | true =>
   rw [hy] at last
   rw [last,other false (by rw [hy];decide)]
theorem cA {m:Mat}:iLt 0 ((Ep m).length:Int)=(Bk m && !(m.stage==5)):=by
 cases hn:Ep m with
 | nil =>
  rw [show iLt 0 ((([]:Rows).length:Nat):Int)=false from rfl]
  cases hv:Bk m with
  | false=>rfl
  | true =>
   cases h5:m.stage==5 with
   | true=>rfl
   | false =>
    have st:((BF m (evK 16 0 0 0 false 0)).2==0)=true:=by
     unfold BF
     rw [hv,h5,show evS (evK 16 0 0 0 false 0)=0 from rfl]
     rfl
    have:=Ac m (evK 16 0 0 0 false 0)
    rw [st,hn] at this
    cases this
 | cons x D =>
  obtain ⟨e,h1,h2,_⟩:=Wz (show x∈Ep m by rw [hn];exact List.mem_cons_self)
  obtain ⟨a1,a2,a3,_⟩:=UR h2
  rw [a1,a3]
  simp only [iLt,List.length_cons,Bool.not_false,Bool.and_self,decide_eq_true_eq]
  omega
end Go.Px
end
section
namespace Go.Px
set_option maxRecDepth 100000
theorem cl (q:List PV→Bool) {D:Rows} {i:Nat} (h:i<D.length):ofI q (D.take (i+1))=ofI q (D.take i)+cond (q (Am D i)) 1 0:=by
 have e:D.take (i+1)=D.take i++[Am D i]:=by
  rw [List.take_add_one,List.getElem?_eq_getElem h]
  unfold Am
  rw [List.getD_eq_getElem?_getD,List.getElem?_eq_getElem h]
  rfl
 rw [e,NZ]
 rfl
theorem cV (q:List PV→Bool):∀ D,ofI q D≤D.length
 | []=>Nat.le_refl _
 | x::D=>by
  have:=cV q D
  show cond (q x) 1 0+ofI q D≤D.length+1
  cases q x
  ·show 0+_≤_
   omega
  ·show 1+_≤_
   omega
def evO (x:List PV):Ev:=⟨pvI (AB x 0),pvI (AB x 1),pvI (AB x 2),pvI (AB x 3),pvB (AB x 4),pvI (AB x 5),pvI (AB x 6),⟨pvI (AB x 7),pvI (AB x 8),pvI (AB x 9),pvI (AB x 10),pvI (AB x 11),pvB (AB x 12),pvI (AB x 13),pvI (AB x 14),pvI (AB x 15),pvI (AB x 16),pvB (AB x 17),pvI (AB x 18)⟩⟩
theorem fI (e:Ev):evO (PI e)=e:=rfl
set_option maxHeartbeats 1000000 in
theorem To {N:Nat} {m1 m2 m3 m4 m5 m6 m7 m9 m10 m11 m12 m14 m15 m18 m19 m20 m21 m22:Int} {m8 m16:Bool} {m0:ByteArray} {m13:Rows} {m17:List Inn} {e0 e1 e2 e3 e5 e6 e7 e8 e9 e10 e11 e13 e14 e15 e16 e18:Int} {e4 e12 e17:Bool} (ha:IY N []=some [.bool true]) (hN:2097152<N) (hs:m0.size≤1048576):DR N [.str m0,.int m1,.int m2,.int m3,.int m4,.int m5,.int m6,.int m7,.bool m8,.int m9,.int m10,.int m11,.int m12,.rows m13,.int m14,.int m15,.bool m16,.rows (AL m17),.int m18,.int m19,.int m20,.int m21,.int m22,.int e0,.int e1,.int e2,.int e3,.bool e4,.int e5,.int e6,.int e7,.int e8,.int e9,.int e10,.int e11,.bool e12,.int e13,.int e14,.int e15,.int e16,.bool e17,.int e18]=some [.bool true]:=by
 show DP (std (Au N) N) (xOf _)=_
 have nn:(FW (⟨⟨m0,m1,m2,m3,m4,m5,m6,m7,m8,m9,m10,m11,m12,m13⟩,m14,m15,m16,m17,m18,m19,m20,m21,m22⟩:Mat)).rules.name.size≤1048576:=Yt (⟨⟨m0,m1,m2,m3,m4,m5,m6,m7,m8,m9,m10,m11,m12,m13⟩,m14,m15,m16,m17,m18,m19,m20,m21,m22⟩:Mat).rules hs
 have pp:(FW (⟨⟨m0,m1,m2,m3,m4,m5,m6,m7,m8,m9,m10,m11,m12,m13⟩,m14,m15,m16,m17,m18,m19,m20,m21,m22⟩:Mat)).rules.power.length≤1048576:=XZ (⟨⟨m0,m1,m2,m3,m4,m5,m6,m7,m8,m9,m10,m11,m12,m13⟩,m14,m15,m16,m17,m18,m19,m20,m21,m22⟩:Mat).rules
 have ok:=eN (m:=(⟨⟨m0,m1,m2,m3,m4,m5,m6,m7,m8,m9,m10,m11,m12,m13⟩,m14,m15,m16,m17,m18,m19,m20,m21,m22⟩:Mat))
 have hl:=Nat.le_trans ok.len (show 5≤1000000 by omega)
 have nl:(Ep (FW (⟨⟨m0,m1,m2,m3,m4,m5,m6,m7,m8,m9,m10,m11,m12,m13⟩,m14,m15,m16,m17,m18,m19,m20,m21,m22⟩:Mat))).length≤1048576:=by
  rw [← cn]
  have:=ER (f:=V1 (FW (⟨⟨m0,m1,m2,m3,m4,m5,m6,m7,m8,m9,m10,m11,m12,m13⟩,m14,m15,m16,m17,m18,m19,m20,m21,m22⟩:Mat))) (lo:=1) (n:=16) (cF _) (Nat.le_refl _)
  omega
 have ns:iLt 0 ((Ep (FW (⟨⟨m0,m1,m2,m3,m4,m5,m6,m7,m8,m9,m10,m11,m12,m13⟩,m14,m15,m16,m17,m18,m19,m20,m21,m22⟩:Mat))).length:Int)=(Bk (FW (⟨⟨m0,m1,m2,m3,m4,m5,m6,m7,m8,m9,m10,m11,m12,m13⟩,m14,m15,m16,m17,m18,m19,m20,m21,m22⟩:Mat)) && !((FW (⟨⟨m0,m1,m2,m3,m4,m5,m6,m7,m8,m9,m10,m11,m12,m13⟩,m14,m15,m16,m17,m18,m19,m20,m21,m22⟩:Mat)).stage==5)):=cA
 have li:ofI (JD (⟨e0,e1,e2,e3,e4,e5,e6,⟨e7,e8,e9,e10,e11,e12,e13,e14,e15,e16,e17,e18⟩⟩:Ev)) (Ep (FW (⟨⟨m0,m1,m2,m3,m4,m5,m6,m7,m8,m9,m10,m11,m12,m13⟩,m14,m15,m16,m17,m18,m19,m20,m21,m22⟩:Mat)))=cond ((BF (FW (⟨⟨m0,m1,m2,m3,m4,m5,m6,m7,m8,m9,m10,m11,m12,m13⟩,m14,m15,m16,m17,m18,m19,m20,m21,m22⟩:Mat)) (⟨e0,e1,e2,e3,e4,e5,e6,⟨e7,e8,e9,e10,e11,e12,e13,e14,e15,e16,e17,e18⟩⟩:Ev)).2==0 && !(e0==4) && !(e0==15)) 1 0:=Ac (FW (⟨⟨m0,m1,m2,m3,m4,m5,m6,m7,m8,m9,m10,m11,m12,m13⟩,m14,m15,m16,m17,m18,m19,m20,m21,m22⟩:Mat)) (⟨e0,e1,e2,e3,e4,e5,e6,⟨e7,e8,e9,e10,e11,e12,e13,e14,e15,e16,e17,e18⟩⟩:Ev)
 have NE:∀ i,i<(Ep (FW (⟨⟨m0,m1,m2,m3,m4,m5,m6,m7,m8,m9,m10,m11,m12,m13⟩,m14,m15,m16,m17,m18,m19,m20,m21,m22⟩:Mat))).length→((BF (FW (⟨⟨m0,m1,m2,m3,m4,m5,m6,m7,m8,m9,m10,m11,m12,m13⟩,m14,m15,m16,m17,m18,m19,m20,m21,m22⟩:Mat)) (evO (Am (Ep (FW (⟨⟨m0,m1,m2,m3,m4,m5,m6,m7,m8,m9,m10,m11,m12,m13⟩,m14,m15,m16,m17,m18,m19,m20,m21,m22⟩:Mat))) i))).2==0)=true:=fun i hi=>by
  obtain ⟨g,h1,h2,_⟩:=Wz (fj hi)
  rw [h1,fI]
  exact h2
 simp only [DP,Ly,NL,Ku,K3,Kk,std,xOf,PXb,PXc,PXn,PXm,Nat.reduceAdd,Int.reduceBEq,ha,cj hN,PXk,N4 hN ok.fit hl nn pp,eZ,OK hN ok.fit hl nn pp,PH,Ip ok.fit hN hl nn]
 generalize Ep (FW (⟨⟨m0,m1,m2,m3,m4,m5,m6,m7,m8,m9,m10,m11,m12,m13⟩,m14,m15,m16,m17,m18,m19,m20,m21,m22⟩:Mat))=X at *
 refine AZ (CO (len:=X.length) (fun i=>[.int ((ofI (JD (⟨e0,e1,e2,e3,e4,e5,e6,⟨e7,e8,e9,e10,e11,e12,e13,e14,e15,e16,e17,e18⟩⟩:Ev)) (X.take i):Nat):Int),.int (i:Int)]) [.int 1,.int ((ofI (JD (⟨e0,e1,e2,e3,e4,e5,e6,⟨e7,e8,e9,e10,e11,e12,e13,e14,e15,e16,e17,e18⟩⟩:Ev)) X:Nat):Int)] ?_ ?_ N (by omega)) ?_
 ·intro self
  simp only [PXb,PXc,PXn,AG,BT,List.take_length]
 ·intro i self hi
  have st:((BF (FW (⟨⟨m0,m1,m2,m3,m4,m5,m6,m7,m8,m9,m10,m11,m12,m13⟩,m14,m15,m16,m17,m18,m19,m20,m21,m22⟩:Mat)) (⟨pvI (AA X i 0),pvI (AA X i 1),pvI (AA X i 2),pvI (AA X i 3),pvB (AA X i 4),pvI (AA X i 5),pvI (AA X i 6),⟨pvI (AA X i 7),pvI (AA X i 8),pvI (AA X i 9),pvI (AA X i 10),pvI (AA X i 11),pvB (AA X i 12),pvI (AA X i 13),pvI (AA X i 14),pvI (AA X i 15),pvI (AA X i 16),pvB (AA X i 17),pvI (AA X i 18)⟩⟩:Ev)).2==0)=true:=NE i hi
  have qe:(pvI (AA X i 0)==e0&&(pvI (AA X i 1)==e1&&(pvI (AA X i 2)==e2&&(pvI (AA X i 3)==e3&&(pvB (AA X i 4)==e4&&(pvI (AA X i 5)==e5&&(pvI (AA X i 6)==e6&&(pvI (AA X i 7)==e7&&(pvI (AA X i 8)==e8&&(pvI (AA X i 9)==e9&&(pvI (AA X i 10)==e10&&(pvI (AA X i 11)==e11&&(pvB (AA X i 12)==e12&&(pvI (AA X i 13)==e13&&(pvI (AA X i 14)==e14&&(pvI (AA X i 15)==e15&&(pvI (AA X i 16)==e16&&(pvB (AA X i 17)==e17&&(pvI (AA X i 18)==e18)))))))))))))))))))=JD (⟨e0,e1,e2,e3,e4,e5,e6,⟨e7,e8,e9,e10,e11,e12,e13,e14,e15,e16,e17,e18⟩⟩:Ev) (Am X i):=rfl
  have ol:=cV (JD (⟨e0,e1,e2,e3,e4,e5,e6,⟨e7,e8,e9,e10,e11,e12,e13,e14,e15,e16,e17,e18⟩⟩:Ev)) (X.take i)
  rw [List.length_take] at ol
  rw [cl _ hi]
  generalize ofI (JD (⟨e0,e1,e2,e3,e4,e5,e6,⟨e7,e8,e9,e10,e11,e12,e13,e14,e15,e16,e17,e18⟩⟩:Ev)) (X.take i)=c at *
  simp only [PXb,PXc,PXn,AG,A9 hi,Ak hi,Int.toNat_natCast,K1 (show i≤1099511627776 by omega),st,qe,K1 (show c≤1099511627776 by omega)]
  cases JD (⟨e0,e1,e2,e3,e4,e5,e6,⟨e7,e8,e9,e10,e11,e12,e13,e14,e15,e16,e17,e18⟩⟩:Ev) (Am X i)<;>rfl
 ·rw [li,ns]
  generalize ((BF (FW (⟨⟨m0,m1,m2,m3,m4,m5,m6,m7,m8,m9,m10,m11,m12,m13⟩,m14,m15,m16,m17,m18,m19,m20,m21,m22⟩:Mat)) (⟨e0,e1,e2,e3,e4,e5,e6,⟨e7,e8,e9,e10,e11,e12,e13,e14,e15,e16,e17,e18⟩⟩:Ev)).2==0 && !(e0==4) && !(e0==15))=W
  generalize Bk (FW (⟨⟨m0,m1,m2,m3,m4,m5,m6,m7,m8,m9,m10,m11,m12,m13⟩,m14,m15,m16,m17,m18,m19,m20,m21,m22⟩:Mat))=V
  generalize ((FW (⟨⟨m0,m1,m2,m3,m4,m5,m6,m7,m8,m9,m10,m11,m12,m13⟩,m14,m15,m16,m17,m18,m19,m20,m21,m22⟩:Mat)).stage==5)=T
  cases W<;>cases V<;>cases T<;>rfl
end Go.Px
end
