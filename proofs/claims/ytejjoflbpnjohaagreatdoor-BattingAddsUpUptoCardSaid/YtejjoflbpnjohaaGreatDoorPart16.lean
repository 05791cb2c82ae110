/- Part 16. -/
import Derived.Test.YtejjoflbpnjohaaGreatDoorPart15
import Derived.Shelf.Strconv.Itoa3
import Derived.Shelf.LaysM
import Derived.Shelf.Strconv.Itoa4
import Derived.Test.YtejjoflbpnjohaaGreatDoorProg
import Derived.Test.YtejjoflbpnjohaaGreatDoorPart04
import Derived.Lib.Builder
import Derived.Lib.AppendStr
import Derived.WalkKit
import Derived.Shelf.RegionOpenPlain
import Derived.Lib.Walk
import Derived.Lib.UnsafeStr
import Derived.Laws.Externs
import Derived.KernelRfl
set_option linter.unusedVariables false
set_option linter.unusedSimpArgs false
section
namespace Go.Px
set_option maxRecDepth 100000
def FZ (n:Nat) (o:List Int) (j:Nat):Rows:=(List.range n).map fun (q:Nat)=>[PV.bool (decide ((q:Int)∈o.take j))]
theorem lG (n:Nat) (o:List Int) (j:Nat):(FZ n o j).length=n:=by unfold FZ;rw [List.length_map,List.length_range]
theorem nJ {n:Nat} {o:List Int} {j q:Nat} (h:q<n):AK (FZ n o j) q=[PV.bool (decide ((q:Int)∈o.take j))]:=by
 unfold AK FZ;rw [zzk,List.getElem?_map,List.getElem?_range h];rfl
theorem qv (n:Nat) (o:List Int):List.replicate n [PV.bool false]=FZ n o 0:=by
 unfold FZ;apply List.ext_getElem?;intro i;rw [List.getElem?_replicate,List.getElem?_map]
 by_cases h:i<n
 ·rw [if_pos h,List.getElem?_range h];simp
 ·rw [if_neg h,List.getElem?_eq_none (by simp;omega)];rfl
theorem ra {n:Nat} {o:List Int} {j p:Nat} (hj:j<o.length) (hp:p<n) (e:o.getD j 0=(p:Int)):(FZ n o j).set p (Ah (AK (FZ n o j) p) 0 [.bool true])=FZ n o (j+1):=by
 rw [nJ hp];show (FZ n o j).set p [PV.bool true]=_;apply List.ext_getElem?;intro i;rw [List.getElem?_set,lG];unfold FZ;rw [List.getElem?_map,List.getElem?_map];have tk:∀ x:Int,x∈o.take (j+1)↔(x∈o.take j∨x=(p:Int)):=fun x=>by
  rw [List.take_add_one,List.mem_append];rw [zzk,zzn hj] at e;rw [zzn hj];have e:o[j]=(p:Int):=e;simp [e]
 by_cases h:i<n
 ·rw [List.getElem?_range h]
  by_cases hip:p=i
  ·subst hip;rw [if_pos rfl,if_pos h];simp [tk]
  ·rw [if_neg hip];have hne:¬ ((i:Int)=(p:Int)):=by omega
   simp [tk,hne]
 ·rw [if_neg (by omega),List.getElem?_eq_none (by simp;omega)];rfl
theorem pZ {o:List Int} (hn:o.Nodup) {j:Nat} (hj:j<o.length):o.getD j 0∉o.take j:=by
 rw [zzk,zzn hj];intro h;have h:o[j]∈o.take j:=h;have nd:(o.take j++o.drop j).Nodup:=by rw [List.take_append_drop];exact hn
 have m:o[j]∈o.drop j:=by
  have e:(o.drop j)[0]?=some o[j]:=by rw [List.getElem?_drop,Nat.add_zero,zzn hj]
  exact List.mem_of_getElem? e
 exact (List.nodup_append.1 nd).2.2 _ h _ m rfl
set_option maxHeartbeats 4000000 in
theorem qw {N : Nat} (hN : 2097152 < N) {o : List Int} {F : Int → Ln} {sd : Nat} (hn : o.Nodup) (ho : ∀ p, p ∈ o ↔ 1 ≤ p ∧ p ≤ (sd : Int)) (hs : sd ≤ 11) (hl : o.length = sd)
    (hf:∀ p,p∈o→∃ X i,i≤4000∧LnF p X i (F p)) {G:(List AW→Option (List PV))→List PV→Option (List PV)}
    (h0:∀ a L self,G self [.int a,.rows L,.int (o.length:Int)]=some [.int 1,.int a,.rows L,.int (o.length:Int)])
    (h1:∀ (j p:Nat) (a:Int) (l:Ln) (L:Rows) self,j<o.length→AK (AN o F) j=lnR (p:Int) l→1≤p→p≤sd→L.length=sd+1→AK L p=[.bool false]→l.out=(!(l.how==0)) →
      iLt l.runs (IntKind.i64.wrap (IntKind.i64.wrap (4 * l.fours)+IntKind.i64.wrap (6 * l.sixes)))=false →
      G self [.int a,.rows L,.int (j:Int)]=self [.int (cond l.out (IntKind.i64.wrap (a+1)) a),.rows (L.set p (Ah (AK L p) 0 [.bool true])),.int ((j+1:Nat):Int)]) :
    Cw G N [.int 0,.rows (List.replicate (sd+1) [PV.bool false]),.int 0]=some [.int 1,.int (Bg (fun p=>cond (F p).out 1 0) o),.rows (FZ (sd+1) o o.length),.int (o.length:Int)]:=by
  rw [qv (sd+1) o];have b01:∀ p,p∈o→(0:Int)≤cond (F p).out 1 0∧(cond (F p).out 1 0:Int)≤1:=fun p _=>by cases (F p).out<;>decide
  have:=CC (F:=G) (len:=o.length) (fun j=>[.int (Bg (fun p=>cond (F p).out 1 0) (o.take j)),.rows (FZ (sd+1) o j),.int (j:Int)]) [.int 1,.int (Bg (fun p=>cond (F p).out 1 0) o),.rows (FZ (sd+1) o o.length),.int (o.length:Int)] (fun self=>by
    show G self [.int (Bg (fun p=>cond (F p).out 1 0) (o.take o.length)),.rows (FZ (sd+1) o o.length),.int (o.length:Int)]=_;rw [List.take_length];exact h0 _ _ self) (fun j self hj=>by
    have hm:o.getD j 0∈o:=by rw [zzk,zzn hj];exact List.getElem_mem _
    obtain ⟨q1,q2⟩:=(ho _).1 hm;obtain ⟨p,hp⟩:∃ p:Nat,o.getD j 0=(p:Int):=⟨(o.getD j 0).toNat,by omega⟩;obtain ⟨X,i,hi,lf⟩:=hf _ hm;have cr:=VN (F:=F) hj;have nd:=pZ hn hj;have tk:=XN (fun p=>cond (F p).out 1 0) hj;have bb:=jJ b01 j (by omega);rw [hp] at cr nd lf tk;have l1:=lf.rb;have l2:=lf.fb;have l3:=lf.sb;have l4:=lf.bnd;have w1:IntKind.i64.wrap (4 * (F (p:Int)).fours)=4 * (F (p:Int)).fours:=BQ (by omega) (by omega);have w2:IntKind.i64.wrap (6 * (F (p:Int)).sixes)=6 * (F (p:Int)).sixes:=BQ (by omega) (by omega);have w3:IntKind.i64.wrap (4 * (F (p:Int)).fours+6 * (F (p:Int)).sixes)=4 * (F (p:Int)).fours+6 * (F (p:Int)).sixes:=BQ (by omega) (by omega);have:=h1 j p (Bg (fun p=>cond (F p).out 1 0) (o.take j)) (F (p:Int)) (FZ (sd+1) o j) self hj cr (by omega) (by omega) (lG _ _ _) (by
      rw [nJ (by omega)];simp [nd]) lf.how (by rw [w1,w2,w3];simp only [iLt,decide_eq_false_iff_not];omega)
    rw [ra hj (by omega) hp] at this;show G self [.int (Bg (fun p=>cond (F p).out 1 0) (o.take j)),.rows (FZ (sd+1) o j),.int (j:Int)]=self [.int (Bg (fun p=>cond (F p).out 1 0) (o.take (j+1))),.rows (FZ (sd+1) o (j+1)),.int ((j+1:Nat):Int)];rw [this,tk];have e:cond (F (p:Int)).out (IntKind.i64.wrap (Bg (fun p=>cond (F p).out 1 0) (o.take j)+1)) (Bg (fun p=>cond (F p).out 1 0) (o.take j))=Bg (fun p=>cond (F p).out 1 0) (o.take j)+cond (F (p:Int)).out 1 0:=by
      cases (F (p:Int)).out with
      | false=>rw [cond_false,cond_false,Int.add_zero]
      | true=>rw [cond_true,cond_true,BQ (by omega) (by omega)]
    rw [e]) N (by omega)
  exact this
set_option maxHeartbeats 8000000 in
theorem Wk {N:Nat} {r1 r2 r3 r4 r5 r6 r7 r9 r10 r11 r12:Int} {r8:Bool} {r0:ByteArray} {r13:Rows} {L:Rows} (ha:K0 N []=some [.bool true]) (hN:2097152<N) (hs:r0.size≤1048576) (h13:r13.length≤1048576):Dh N [.str r0,.int r1,.int r2,.int r3,.int r4,.int r5,.int r6,.int r7,.bool r8,.int r9,.int r10,.int r11,.int r12,.rows r13,.rows L]=some [.bool true]:=by
 show Df (std (A2 N) N) (xOf _)=_;have l:=xD L;have l6:(cut L 60).length≤1000000:=Nat.le_trans (pT L 60) (show 60≤1000000 by omega);simp only [Df,Nf,PM,FR,K5,L1,Eu,lq9,std,xOf,PXb,PXc,PXn,PXm,Nat.reduceAdd,Int.reduceBEq,ha,pH,dv hN hs h13 l og,PXc];generalize cut L 60=X at *
 cases hc:Ay (⟨r0,r1,r2,r3,r4,r5,r6,r7,r8,r9,r10,r11,r12,r13⟩:Rul) X==0 with
 | false=>rfl
 | true =>
  have c0:=beq_iff_eq.1 hc;obtain ⟨il,rk⟩:=og c0;have il4:=il.len;have rs:2≤r1∧r1≤11:=rk.side;simp only [PXb,PXc,PXn,PXm,Nat.reduceAdd,Int.reduceBEq,Int.reduceBEq,PXs,vT];have ol:=UZ X X.length;refine Ac (CC (len:=opn X X.length) (fun i=>[.int (i:Int)]) [.int 1] ?_ ?_ N (by omega)) ?_
  ·intro self;simp only [PXb,PXc,PXn,AG,A7]
  ·intro k self hi;have pb:(prA (⟨r0,r1,r2,r3,r4,r5,r6,r7,r8,r9,r10,r11,r12,r13⟩:Rul) X k X.length).batter=smi X (fun e=>(As (⟨r0,r1,r2,r3,r4,r5,r6,r7,r8,r9,r10,r11,r12,r13⟩:Rul) e).batter) k X.length:=rfl;have pw:(BJ (⟨r0,r1,r2,r3,r4,r5,r6,r7,r8,r9,r10,r11,r12,r13⟩:Rul) X (sdT X) (opn X X.length) k X.length).wickets=smi X Bs k X.length:=rfl;simp only [PXb,PXc,PXn,PXm,Nat.reduceAdd,Int.reduceBEq,PXs,A8 (show k≤1099511627776 by omega),Az hi,AP hi,FR,Ua hN hs h13 l6,tw c0 hi,Eu,cN hN hs h13 l,vy c0 hi,oM,vn hi,Int.reduceBEq];have oln:(((Mz (⟨r0,r1,r2,r3,r4,r5,r6,r7,r8,r9,r10,r11,r12,r13⟩:Rul) X k).length:Nat):Int)=r1:=uz c0 hi;have on:(Mz (⟨r0,r1,r2,r3,r4,r5,r6,r7,r8,r9,r10,r11,r12,r13⟩:Rul) X k).Nodup:=H9 (GU (Bt X k) (Bt X k).length) r1.toNat;have om:∀ p,p∈Mz (⟨r0,r1,r2,r3,r4,r5,r6,r7,r8,r9,r10,r11,r12,r13⟩:Rul) X k↔1≤p∧p≤r1:=fun p=>Um (p:=p) c0 hi (show 0≤r1 by omega)
   have bl:=(hY c0 k X.length (Nat.le_refl _)).1;have pf:∀ p,p∈Mz (⟨r0,r1,r2,r3,r4,r5,r6,r7,r8,r9,r10,r11,r12,r13⟩:Rul) X k→LnF p (B6 (⟨r0,r1,r2,r3,r4,r5,r6,r7,r8,r9,r10,r11,r12,r13⟩:Rul) X k X.length) (B6 (⟨r0,r1,r2,r3,r4,r5,r6,r7,r8,r9,r10,r11,r12,r13⟩:Rul) X k X.length).length (plL (⟨r0,r1,r2,r3,r4,r5,r6,r7,r8,r9,r10,r11,r12,r13⟩:Rul) X k p):=fun p hp=>wL c0 rk ((om p).1 hp).1
   have rsum:=sY c0 rk hi;have osum:=vB c0 hi;generalize Mz (⟨r0,r1,r2,r3,r4,r5,r6,r7,r8,r9,r10,r11,r12,r13⟩:Rul) X k=o at *
   generalize plL (⟨r0,r1,r2,r3,r4,r5,r6,r7,r8,r9,r10,r11,r12,r13⟩:Rul) X k=F at *
   have tc:=iW (o:=o) (F:=F) (fun p hp=>by have:=(pf p hp).rb;omega) (by omega) o.length (Nat.le_refl _);rw [List.take_length,rsum] at tc;have le:(((AN o F).length:Nat):Int)=r1:=by rw [Bk];exact oln
   have tt:GK N [.rows (AN o F)]=some [.int (prA (⟨r0,r1,r2,r3,r4,r5,r6,r7,r8,r9,r10,r11,r12,r13⟩:Rul) X k X.length).batter]:=by
    rw [bH hN (by rw [Bk];omega),Bk,tc,pb]
   simp only [PXb,PXc,PXn,PXm,Nat.reduceAdd,Int.reduceBEq,le,beq_self_eq_true,Bool.not_true,Bool.or_false];refine E5 tt ?_;obtain ⟨sd,rfl⟩:∃ sd:Nat,r1=(sd:Int):=⟨r1.toNat,by omega⟩;have w1:IntKind.i64.wrap ((sd:Int)+1)=((sd+1:Nat):Int):=Bv (show sd≤1099511627776 by omega);have sm:iSm ((sd+1:Nat):Int) 1=true:=Gc (by omega) (by omega);simp only [PXb,beq_self_eq_true,Bool.not_true,w1,sm,Int.toNat_natCast];refine E5 (qw (sd:=sd) hN on om (by omega) (by omega) (fun p hp=>⟨_,_,by omega,pf p hp⟩) ?_ ?_) ?_
   ·intro a L self;have z:iLt ((o.length:Nat):Int) (sd:Int)=false:=by simp only [iLt,decide_eq_false_iff_not];omega
    simp only [PXb,z]
   ·intro j p a l L self hj cr p1 p2 ll rl ho hb;have pa:∀ c,AB (AN o F) j c=AA (lnR (p:Int) l) c:=fun c=>by unfold AB;rw [cr]
    have i1:iLt (p:Int) 1=false:=by simp only [iLt,decide_eq_false_iff_not];omega
    have i2:iLt (sd:Int) (p:Int)=false:=by simp only [iLt,decide_eq_false_iff_not];omega
    have i3:iIn (p:Int) (L.length:Int)=true:=AP (by omega);have sb:pvB (AB L p 0)=false:=by unfold AB;rw [rl];rfl
    have j1:iLt (j:Int) (sd:Int)=true:=by simp only [iLt,decide_eq_true_eq];omega
    have j2:iIn (j:Int) (sd:Int)=true:=by simp only [iIn,decide_eq_true_eq];omega
    simp only [PXb,Bv (show j≤1099511627776 by omega),Int.toNat_natCast,pa,j1,j2];have c0:pvI (AA (lnR (p:Int) l) 0)=(p:Int):=rfl;have c1:pvI (AA (lnR (p:Int) l) 1)=l.runs:=rfl;have c3:pvI (AA (lnR (p:Int) l) 3)=l.fours:=rfl;have c4:pvI (AA (lnR (p:Int) l) 4)=l.sixes:=rfl;have c5:pvB (AA (lnR (p:Int) l) 5)=l.out:=rfl;have c6:pvI (AA (lnR (p:Int) l) 6)=l.how:=rfl;simp only [c0,c1,c3,c4,c5,c6,i1,i2,i3,sb,hb,ho,Int.toNat_natCast,Bool.not_false,Bool.true_and,Bool.false_or,Bool.or_false,beq_self_eq_true,Bool.not_true,cond_true,cond_false];cases l.how==0<;>rfl
   ·have ww:(Bg (fun p=>cond (F p).out 1 0) o==(BJ ⟨r0,(sd:Int),r2,r3,r4,r5,r6,r7,r8,r9,r10,r11,r12,r13⟩ X (sdT X) (opn X X.length) k X.length).wickets)=true:=by rw [pw,osum];exact beq_self_eq_true _
    simp only [PXb,PXc,PXn,PXm,Nat.reduceAdd,Int.reduceBEq,ww,Int.reduceBEq];rfl
  ·simp only [PXb,PXc,PXn,PXm,Nat.reduceAdd,Int.reduceBEq]
end Go.Px
end
section
namespace Go.Proofs
open Go.Shelf
def Tryz.laysM246_ren:Go.Shelf.Ren:=⟨fun | 246=>101 | 283=>123 | 284=>124 | 285=>125 | 286=>126 | 129=>155 | 317=>154 | 318=>156 | 319=>157 | 320=>158 | 337=>182 | 338=>183 | n=>n,fun | 2=>2 | 3=>3 | 9=>9 | 4=>4 | 171=>181 | 0=>0 | 53=>166 | 37=>109 | 5=>5 | 173=>184 | 212=>202 | 51=>203 | 20=>20 | 213=>204 | 46=>205 | 232=>229 | 233=>230 | n=>n,fun | 17=>0 | 18=>1 | 19=>2 | n=>n⟩
theorem Tryz.laysM246:Go.Proofs.LaysM.n246 Tryz.prog Tryz.laysM246_ren:={
  mixed:=by kernel_rfl
  f129:=Tryz.func155.trans (congrArg some (by kernel_rfl))
  f246:=Tryz.func101.trans (congrArg some (by kernel_rfl))
  f283:=Tryz.func123.trans (congrArg some (by kernel_rfl))
  f284:=Tryz.func124.trans (congrArg some (by kernel_rfl))
  f285:=Tryz.func125.trans (congrArg some (by kernel_rfl))
  f286:=Tryz.func126.trans (congrArg some (by kernel_rfl))
  f317:=Tryz.func154.trans (congrArg some (by kernel_rfl))
  f318:=Tryz.func156.trans (congrArg some (by kernel_rfl))
  f319:=Tryz.func157.trans (congrArg some (by kernel_rfl))
  f320:=Tryz.func158.trans (congrArg some (by kernel_rfl))
  f337:=Tryz.func182.trans (congrArg some (by kernel_rfl))
  f338:=Tryz.func183.trans (congrArg some (by kernel_rfl))
  t0:=Tryz.underlying0
  a0:=Tryz.isAgg0
  z0:=Tryz.sizeOf0
  v0:=Tryz.zeroValue0
  t2:=Tryz.underlying2
  a2:=Tryz.isAgg2
  z2:=Tryz.sizeOf2
  v2:=Tryz.zeroValue2
  t3:=Tryz.underlying3
  a3:=Tryz.isAgg3
  z3:=Tryz.sizeOf3
  v3:=Tryz.zeroValue3
  t4:=Tryz.underlying4
  a4:=Tryz.isAgg4
  z4:=Tryz.sizeOf4
  v4:=Tryz.zeroValue4
  t5:=Tryz.underlying5
  a5:=Tryz.isAgg5
  z5:=Tryz.sizeOf5
  v5:=Tryz.zeroValue5
  t9:=Tryz.underlying9
  a9:=Tryz.isAgg9
  z9:=Tryz.sizeOf9
  v9:=Tryz.zeroValue9
  t20:=Tryz.underlying20
  a20:=Tryz.isAgg20
  z20:=Tryz.sizeOf20
  v20:=Tryz.zeroValue20
  t37:=Tryz.underlying109
  a37:=Tryz.isAgg109
  z37:=Tryz.sizeOf109
  v37:=Tryz.zeroValue109
  t46:=Tryz.underlying205
  a46:=Tryz.isAgg205
  z46:=Tryz.sizeOf205
  v46:=Tryz.zeroValue205
  t51:=Tryz.underlying203
  a51:=Tryz.isAgg203
  z51:=Tryz.sizeOf203
  v51:=Tryz.zeroValue203
  t53:=Tryz.underlying166
  a53:=Tryz.isAgg166
  z53:=Tryz.sizeOf166
  v53:=Tryz.zeroValue166
  t171:=Tryz.underlying181
  a171:=Tryz.isAgg181
  z171:=Tryz.sizeOf181
  v171:=Tryz.zeroValue181
  t173:=Tryz.underlying184
  a173:=Tryz.isAgg184
  z173:=Tryz.sizeOf184
  v173:=Tryz.zeroValue184
  t212:=Tryz.underlying202
  a212:=Tryz.isAgg202
  z212:=Tryz.sizeOf202
  v212:=Tryz.zeroValue202
  t213:=Tryz.underlying204
  a213:=Tryz.isAgg204
  z213:=Tryz.sizeOf204
  t232:=Tryz.underlying229
  a232:=Tryz.isAgg229
  z232:=Tryz.sizeOf229
  v232:=Tryz.zeroValue229
  t233:=Tryz.underlying230
  a233:=Tryz.isAgg230
  z233:=Tryz.sizeOf230
  v233:=Tryz.zeroValue230
  g17:=by kernel_rfl
  g18:=by kernel_rfl
  g19:=by kernel_rfl
  i0:=by kernel_rfl
  i2:=by kernel_rfl
  i3:=by kernel_rfl
  i4:=by kernel_rfl
  i5:=by kernel_rfl
  i9:=by kernel_rfl
  i20:=by kernel_rfl
  i37:=by kernel_rfl
  i46:=by kernel_rfl
  i51:=by kernel_rfl
  i53:=by kernel_rfl
  i171:=by kernel_rfl
  i173:=by kernel_rfl
  i212:=by kernel_rfl
  i232:=by kernel_rfl
  i233:=by kernel_rfl
  m17:=by kernel_rfl
  m18:=by kernel_rfl
  m19:=by kernel_rfl }
open Go.RowKit Go.Sort Go.Lib in
theorem Tryz.internal_strconv_FormatInt_10 (n : Int) (h0 : -9223372036854775808 ≤ n) (h1 : n ≤ 9223372036854775807) (w : World) (htab : Lib.TabIs Tryz.prog w "internal/strconv.uint64pow10" .u64 Lib.pow10Tab) :
    Calls Tryz.prog 101 #[.int .i64 n,.int .i64 10] w fun e w'=>e=.returned (.string ⟨(Lib.itoa n).toArray⟩)∧∃ k os,w'=grow (w.drewN k) os:=Any.internal_strconv_FormatInt_10 Tryz.laysM246 n h0 h1 w htab
end Go.Proofs
end
section
namespace Go.Px
open Go.Lib Go.RowKit
section
variable {P:Program} {w:World}
theorem BufAt.kept {w':World} {e:TypeId} {v:Value} {bs:List Value} (h:BufAt w e v bs) (hw:∀ g,v.ownBlock=some g→w'.heap[g]?=w.heap[g]?):BufAt w' e v bs:=by
 rcases h with h | ⟨g,cap,cur,h1,h2,h3⟩
 ·exact .inl h
 ·exact .inr ⟨g,cap,cur,h1,(hw g (by rw [h1];rfl)).trans h2,h3⟩
theorem Sn (e : TypeId) (xs : List Value) (hx : 0 < xs.length) (old : Nat) (row : Option Nat) :
    BufAt (w.drew.alloc (.cells (xs.toArray++Builtin.zeroCells (Value.int .u8 0).cells (grownCap w xs.length old e - xs.length)) e)) e (.slice (some ⟨w.heap.size,0,none⟩) xs.length (grownCap w xs.length old e)) xs ∧
      w.grownBy (w.drew.alloc (.cells (xs.toArray++Builtin.zeroCells (Value.int .u8 0).cells (grownCap w xs.length old e - xs.length)) e)) row:=by
  have hge:=grownCap_ge w xs.length old e;refine ⟨.inr ⟨w.heap.size,_,_,rfl,heap_alloc_new w.drew _,by omega,hge,?_,?_⟩,⟨rfl,rfl,rfl,by simp,fun k hk _=>Lib.alloc_old w.drew _ k hk⟩⟩
  · have hz1:(Value.int IntKind.u8 0).cells.size=1:=rfl;simp only [Array.size_append,List.size_toArray,size_zeroCells,hz1];omega
  · simp only [Array.toList_append];exact List.take_left
theorem dr (t u ty e : TypeId) (i : TypeInfo) (ht : P.underlying t = some (.slice e)) (hu : P.underlying u = some .string) (hi : P.info? e = some i) (hz : i.zero = some (.int .u8 0))
    (hsize:i.size=1) (hby:i.bytes=1) (v:Value) (xs:List Value) (h:BufAt w e v xs) (s:ByteArray) (hb:xs.length+s.size≤140737488355328) :
    ∃ v' w',(Builtin.append_ #[t,u] ty #[v,.string s]).run P w=.ok v' w'∧BufAt w' e v' (xs++strCells s)∧w.grownBy w' v.ownBlock∧Qz w v v':=by
  have hlen:(xs++strCells s).length=xs.length+s.size:=by rw [List.length_append,strCells_length]
  rcases h with ⟨rfl,rfl⟩ | ⟨g,cap,cur,rfl,hg,hc0,hnc,hcs,htake⟩
  · by_cases hm:s.size=0
    · have hn:strCells s=[]:=List.eq_nil_of_length_eq_zero (by rw [strCells_length];exact hm);refine ⟨.slice none 0 0,w,?_,by rw [hn];exact .inl ⟨rfl,rfl⟩,⟨rfl,rfl,rfl,Nat.le_refl _,fun _ _ _=>rfl⟩,.inl rfl⟩;have hf:=run_firstCells_string (P:=P) w 1 s;rw [hm] at hf;simp [Builtin.append_,run_underlying ht,run_underlying hu,sizeOf,typeInfo,hi,hsize,Builtin.lenOf,hm,hf]
    · have hr:=run_append_nil_string (P:=P) w t u ty e i (.int .u8 0) ht hu hi hz s (by omega) (by simp at hb;omega) (by rw [hby];simp at hb;omega);have e1:(s.data.map fun b=>Value.int .u8 b.toNat)=(strCells s).toArray:=by
        apply Array.ext';simp [strCells]
      rw [e1] at hr;have hgr:=Sn (w:=w) e (strCells s) (by rw [strCells_length];omega) 0 (Value.ownBlock (.slice none 0 0));rw [strCells_length] at hgr;simp only [List.nil_append] at hgr ⊢;exact ⟨_,_,hr,hgr.1,hgr.2,.inr ⟨_,rfl,Nat.le_refl _⟩⟩
  · by_cases hroom:xs.length+s.size≤cap
    · have hr:=run_append_room_string (P:=P) w t u ty e i ht hu hi hsize g xs.length cap cur hg s hroom (by omega);refine ⟨_,_,hr,.inr ⟨g,cap,_,by rw [hlen],setRow_heap w g cur _ e _ hg,hc0,by rw [hlen];exact hroom,?_,?_⟩,⟨rfl,rfl,rfl,by simp,fun k _ hk=>setRow_other w g k _ (fun e=>hk (by simp [Value.ownBlock,e]))⟩,.inl rfl⟩
      · simp only [List.size_toArray,List.length_append,List.length_take,List.length_drop,Array.length_toList,strCells_length];omega
      · simp only [];rw [htake,List.take_left]
    · have holds : ∀ j u, xs[j]? = some u → w.cell? ((⟨g, 0, none⟩ : Addr).add j) = some u := fun j u hj => by
        have hjl:j<xs.length:=(List.getElem?_eq_some_iff.1 hj).1;rw [← htake,List.getElem?_take] at hj;rw [if_pos hjl] at hj;rw [H4];simpa [World.cell?,hg] using hj
      have hr:=run_append_grow_string (P:=P) w t u ty e i (.int .u8 0) ht hu hi hz ⟨g,0,none⟩ xs.length cap xs (by rw [hsize];simp) holds s (by omega) (by omega) (by rw [hby];exact growslice_fits (by omega) (by omega));have hgr:=Sn (w:=w) e (xs++strCells s) (by rw [hlen];omega) cap (Value.ownBlock (.slice (some ⟨g,0,none⟩) xs.length cap));rw [hlen] at hgr;rw [← List.append_toArray] at hgr;exact ⟨_,_,hr,hgr.1,hgr.2,.inr ⟨_,rfl,Nat.le_refl _⟩⟩
theorem Z5 (t ty e : TypeId) (i : TypeInfo) (ht : P.underlying t = some (.slice e)) (hi : P.info? e = some i) (hz : i.zero = some (.int .u8 0))
    (hsize:i.size=1) (hby:i.bytes=1) (v:Value) (xs:List Value) (h:BufAt w e v xs) (a:Addr) (c:Nat) (news:List Value) (hn0:0<news.length) (hnews:∀ j u,news[j]?=some u→w.cell? (a.add j)=some u) (h1:∀ u∈news,u.oneCell'=true) (hb:xs.length+news.length≤140737488355328) :
    ∃ v' w',(Builtin.append_ #[t,t] ty #[v,.slice (some a) news.length c]).run P w=.ok v' w'∧BufAt w' e v' (xs++news)∧w.grownBy w' v.ownBlock∧Qz w v v':=by
  have hlen:(xs++news).length=xs.length+news.length:=List.length_append;have hl:news.length=news.length * i.size:=by rw [hsize,Nat.mul_one]
  rcases h with ⟨rfl,rfl⟩ | ⟨g,cap,cur,rfl,hg,hc0,hnc,hcs,htake⟩
  · have hr:=run_append_nil (P:=P) w t ty e i (.int .u8 0) ht hi hz a news.length c news hl hnews hn0 (by simp at hb;omega) (by rw [hby];simp at hb;omega);have hgr:=Sn (w:=w) e news hn0 0 (Value.ownBlock (.slice none 0 0));simp only [List.nil_append] at hgr ⊢;exact ⟨_,_,hr,hgr.1,hgr.2,.inr ⟨_,rfl,Nat.le_refl _⟩⟩
  · by_cases hroom:xs.length+news.length≤cap
    · have hr:=run_append_room (P:=P) w t ty e i ht hi g xs.length cap cur hg a news.length c news hl hnews h1 hroom (by rw [hsize];omega);rw [hsize,Nat.mul_one] at hr;refine ⟨_,_,hr,.inr ⟨g,cap,_,by rw [hlen],setRow_heap w g cur _ e _ hg,hc0,by rw [hlen];exact hroom,?_,?_⟩,⟨rfl,rfl,rfl,by simp,fun k _ hk=>setRow_other w g k _ (fun e=>hk (by simp [Value.ownBlock,e]))⟩,.inl rfl⟩
      · simp only [List.size_toArray,List.length_append,List.length_take,List.length_drop,Array.length_toList];omega
      · simp only [];rw [htake,List.take_left]
    · have holds : ∀ j u, xs[j]? = some u → w.cell? ((⟨g, 0, none⟩ : Addr).add j) = some u := fun j u hj => by
        have hjl:j<xs.length:=(List.getElem?_eq_some_iff.1 hj).1;rw [← htake,List.getElem?_take] at hj;rw [if_pos hjl] at hj;rw [H4];simpa [World.cell?,hg] using hj
      have hr:=run_append_grow (P:=P) w t ty e i (.int .u8 0) ht hi hz ⟨g,0,none⟩ xs.length cap xs (by rw [hsize];simp) holds a news.length c news hl hnews (by omega) (by omega) (by rw [hby];exact growslice_fits (by omega) (by omega));have hgr:=Sn (w:=w) e (xs++news) (by rw [hlen];omega) cap (Value.ownBlock (.slice (some ⟨g,0,none⟩) xs.length cap));rw [hlen] at hgr;rw [← List.append_toArray] at hgr;exact ⟨_,_,hr,hgr.1,hgr.2,.inr ⟨_,rfl,Nat.le_refl _⟩⟩
theorem Yv {ops : Array Oper} {rest : List Oper} {o : Oper} {a : Act} {Q : Exit → Act → World → Prop} (hgd : o.guard = none) (sl x : Operand) (t u : TypeId)
    (ho:o.op=.call { callee:=.builtin .append,args:=#[sl,x],argTypes:=#[t,u] })
    (e:TypeId) (i:TypeInfo) (ht:P.underlying t=some (.slice e)) (hu:P.underlying u=some .string) (hi:P.info? e=some i) (hz:i.zero=some (.int .u8 0))
    (hsize:i.size=1) (hby:i.bytes=1) (v:Value) (xs:List Value) (hs:a.eval sl=v) (hown:BufAt w e v xs) (s:ByteArray) (hx:a.eval x=.string s) (hb:xs.length+s.size≤140737488355328)
    (h:∀ v' w',BufAt w' e v' (xs++strCells s)→w.grownBy w' v.ownBlock→Qz w v v'→wpList P ops Q rest (a.put o.dst v') w'):wpList P ops Q (o::rest) a w:=by
  refine wpList_plain hgd fun K hK=>?_
  obtain ⟨v',w',hr,h2,h3,h4⟩:=dr (P:=P) (w:=w) t u o.type e i ht hu hi hz hsize hby v xs hown s hb;unfold Oper.wp execOp;simp only [ho,resolve,invoke,builtin,Sem.run_bind,Sem.run_pure,Result.andThen_ok,List.map_toArray,List.map_cons,List.map_nil,hs,hx,hr];exact hK _ _ (h v' w' h2 h3 h4)
theorem Wu {ops : Array Oper} {rest : List Oper} {o : Oper} {a : Act} {Q : Exit → Act → World → Prop} (hgd : o.guard = none) (sl x : Operand) (t : TypeId)
    (ho:o.op=.call { callee:=.builtin .append,args:=#[sl,x],argTypes:=#[t,t] })
    (e:TypeId) (i:TypeInfo) (ht:P.underlying t=some (.slice e)) (hi:P.info? e=some i) (hz:i.zero=some (.int .u8 0))
    (hsize:i.size=1) (hby:i.bytes=1) (v:Value) (xs:List Value) (hs:a.eval sl=v) (hown:BufAt w e v xs) (ad:Addr) (m c:Nat) (news:List Value) (hx:a.eval x=.slice (some ad) m c) (hm:news.length=m) (hn0:0<m)
    (hnews:∀ j u,news[j]?=some u→w.cell? (ad.add j)=some u) (h1:∀ u∈news,u.oneCell'=true) (hb:xs.length+news.length≤140737488355328)
    (h:∀ v' w',BufAt w' e v' (xs++news)→w.grownBy w' v.ownBlock→Qz w v v'→wpList P ops Q rest (a.put o.dst v') w'):wpList P ops Q (o::rest) a w:=by
  subst hm;refine wpList_plain hgd fun K hK=>?_
  obtain ⟨v',w',hr,h2,h3,h4⟩:=Z5 (P:=P) (w:=w) t o.type e i ht hi hz hsize hby v xs hown ad c news hn0 hnews h1 hb;unfold Oper.wp execOp;simp only [ho,resolve,invoke,builtin,Sem.run_bind,Sem.run_pure,Result.andThen_ok,List.map_toArray,List.map_cons,List.map_nil,hs,hx,hr];exact hK _ _ (h v' w' h2 h3 h4)
theorem dV {e T:TypeId} {b:Nat} {v p x:Value} {bs:List Value} (h:BufAt w e v bs) (hb:w.heap[b]?=some (.cells #[p,x] T (0,0))) (hT:T≠e):v.ownBlock≠some b:=by
 rcases h with ⟨rfl,_⟩ | ⟨g,cap,cur,rfl,hg,_⟩
 ·simp [Value.ownBlock]
 ·intro h;simp only [Value.ownBlock,Option.some.injEq] at h;subst h;rw [hg] at hb;simp only [Option.some.injEq,Obj.cells.injEq] at hb;exact hT hb.2.1.symm
def mM (w:World) (T e:TypeId) (b:Nat) (v:Value) (bs:List Value) (w':World):Prop :=
 w'.heap[b]?=some (.cells #[.pointer (some ⟨b,0,none⟩),v] T (0,0))∧BufAt w' e v bs∧Rest w w' b none∧w'.heap.size=w.heap.size
theorem mS (T e : TypeId) (hT : T ≠ e) {b : Nat} {v v' : Value} {bs bs' : List Value} {w w1 w2 w3 : World} (h1 : mM w T e b v bs w1) (hal : w2 = w1 ∨ ∃ o, w2 = w1.alloc o) (hg : w2.grownBy w3 v.ownBlock) (hs : Qz w2 v v') (hb : BufAt w3 e v' bs') (hv : v.ownBlock ≠ some b) :
    Q2 w T e b v bs' (w3.setCell ⟨b,1,none⟩ v'):=by
  obtain ⟨hbk,hbuf,hr,hsz⟩:=h1;have hlt:b<w1.heap.size:=BE hbk;have h12:w1.heap.size≤w2.heap.size∧(∀ k,k<w1.heap.size→w2.heap[k]?=w1.heap[k]?)∧w2.os=w1.os∧w2.tape=w1.tape∧w2.output=w1.output:=by
    rcases hal with rfl | ⟨o,rfl⟩
    · exact ⟨Nat.le_refl _,fun _ _=>rfl,rfl,rfl,rfl⟩
    · exact ⟨by simp,fun k hk=>Lib.alloc_old w1 _ k hk,rfl,rfl,rfl⟩
  obtain ⟨s12,b12,o1,o2,o3⟩:=h12;have hb3:w3.heap[b]?=some (.cells #[.pointer (some ⟨b,0,none⟩),v] T (0,0)):=by rw [hg.block b (by omega) (fun e=>hv e.symm),b12 b hlt];exact hbk
  have hne:=dV hb hb3 hT;have hset:(w3.setCell ⟨b,1,none⟩ v').heap.size=w3.heap.size:=by simp [World.setCell]
  refine ⟨v',by simp [World.setCell,Array.getElem?_modify,hb3],hb.kept (fun g hgg=>?_),⟨?_,?_,?_,?_,fun k hk hkb hkg=>?_⟩,?_⟩
  · exact Below.heap_setCell _ _ _ _ (fun e=>hne (by rw [hgg];simp at e;rw [e]))
  · exact (hg.os.trans o1).trans hr.os
  · exact (hg.tape.trans o2).trans hr.tape
  · exact (hg.output.trans o3).trans hr.output
  · have:=hg.size;rw [hset];omega
  · rw [Below.heap_setCell _ _ _ _ (fun e=>hkb (by simpa using e)),hg.block k (by omega) (fun e=>hkg e.symm),b12 k (by omega),hr.block k hk hkb (by simp)]
  · rcases hs with hs | ⟨g,h1,h2⟩
    · exact .inl hs
    · exact .inr ⟨g,h1,by omega⟩
theorem lr (w:World) (g n:Nat) (v:Value) (hv:v.ownBlock=some g):tH w v (w.drew.freeze ⟨g,0,none⟩ n):=by
 unfold World.freeze
 split
 ·exact ⟨rfl,rfl,rfl,Nat.le_refl _,fun _ _ _=>rfl⟩
 ·refine ⟨rfl,rfl,rfl,by simp,fun k hk hkv=>?_⟩;simp only [Array.getElem?_modify];rw [if_neg (fun e=>hkv (by rw [hv,e]))];rfl
end
end Go.Px
end
section
namespace Go.Px
open Go.Lib Go.Proofs Go.RowKit
theorem tn:(Tryz.prog.info? 5).map (fun i=>(i.zero,i.size,i.bytes))=some (some (.int .u8 0),1,1):=by kernel_rfl
set_option maxHeartbeats 1000000 in
set_option maxRecDepth 100000 in
theorem uj (b : Nat) (w : World) (h0 : w.cell? ⟨b, 0, none⟩ = some (.pointer (some ⟨b, 0, none⟩))) :
    Calls Tryz.prog 76 #[.pointer (some ⟨b,0,none⟩)] w fun e w'=>e=.returned (.tuple #[])∧w'=w:=by
  obtain ⟨j,hj,_⟩:=zzo.1 (show (Tryz.prog.info? 111).map (·.size)=some 2 by kernel_rfl)
  go_enter Tryz.func76,Tryz.ntmps76
  go_wp2
  rw [Lib.run_neq_ptr_same w _ Tryz.underlying108 hj]
  go_wp2
  go_end0
  exact ⟨rfl,rfl⟩
set_option maxHeartbeats 1000000 in
set_option maxRecDepth 100000 in
theorem tC (b : Nat) (w : World) (h0 : w.cell? ⟨b, 0, none⟩ = some (.pointer none)) (hsh : w.shape? b = some (111, 2)) (hfz : w.frozen? ⟨b, 0, none⟩ = false) :
    Calls Tryz.prog 76 #[.pointer (some ⟨b,0,none⟩)] w fun e w'=>e=.returned (.tuple #[])∧w'=w.setCell ⟨b,0,none⟩ (.pointer (some ⟨b,0,none⟩)):=by
  obtain ⟨j,hj,hjs⟩:=zzo.1 (show (Tryz.prog.info? 111).map (·.size)=some 2 by kernel_rfl)
  go_enter Tryz.func76,Tryz.ntmps76
  go_wp2
  rw [Lib.run_to_unsafe w ⟨b,0,none⟩ Tryz.underlying108 Tryz.underlying164 hj (by rw [hjs];decide) hsh (Nat.zero_lt_succ 1)];simp only [Result.andThen];rw [Oper.upon_value]
  go_wp2
  rw [run_callFunc_extern Tryz.func100 (by kernel_rfl) (by kernel_rfl) (by kernel_rfl) (e:=Extern.AbiNoEscape.same) (by kernel_rfl)];rw [Lib.run_noEscape];simp only [Result.andThen];rw [Oper.upon_value]
  go_wp2
  rw [Lib.run_from_unsafe w ⟨b,0,none⟩ Tryz.underlying164 Tryz.underlying108 hj hsh (by kernel_rfl)];simp only [Result.andThen];rw [Oper.upon_value]
  go_wp2
  go_end0
  exact ⟨rfl,rfl⟩
theorem bC (b : Nat) (v : Value) (bs : List Value) (w : World) (h : QX w 111 5 b v bs) :
    Calls Tryz.prog 76 #[.pointer (some ⟨b,0,none⟩)] w fun e w'=>e=.returned (.tuple #[])∧mM w 111 5 b v bs w':=by
  obtain ⟨⟨p,hb,hp⟩,hbuf⟩:=h;have hne:=dV hbuf hb (by decide);have c0:w.cell? ⟨b,0,none⟩=some p:=by rw [Lib.cell_of_heap hb];rfl
  rcases hp with rfl | rfl
  · refine (tC b w c0 (by simp [World.shape?,hb]) (Lib.frozen_of_heap hb 0)).mono ?_
    rintro e w' ⟨rfl,rfl⟩
    refine ⟨rfl,by simp [World.setCell,Array.getElem?_modify,hb],hbuf.kept (fun g hg=>?_),⟨rfl,rfl,rfl,by simp [World.setCell],fun k _ hk _=>?_⟩,by simp [World.setCell]⟩
    · exact Below.heap_setCell _ _ _ _ (fun e=>hne (by rw [hg];simp at e;rw [e]))
    · exact Below.heap_setCell _ _ _ _ (fun e=>hk (by simpa using e))
  · refine (uj b w c0).mono ?_
    rintro e w' ⟨rfl,rfl⟩
    exact ⟨rfl,hb,hbuf,⟨rfl,rfl,rfl,Nat.le_refl _,fun _ _ _ _=>rfl⟩,rfl⟩
set_option maxHeartbeats 2000000 in
set_option maxRecDepth 100000 in
theorem jU (b : Nat) (v : Value) (bs : List Value) (s : ByteArray) (w : World) (h : QX w 111 5 b v bs) (hlen : bs.length + s.size ≤ 140737488355328) :
    Calls Tryz.prog 41 #[.pointer (some ⟨b,0,none⟩),.string s] w fun e w'=>e=.returned (.tuple #[.int .i64 s.size,.nilIface])∧Q2 w 111 5 b v (bs++strCells s) w':=by
  obtain ⟨i0,hi,hz0,hz1,hz2⟩:=info_parts tn;have hne0:v.ownBlock≠some b:=by
    obtain ⟨⟨p,hb,hp⟩,hbuf⟩:=h;exact dV hbuf hb (by decide)
  go_enter Tryz.func41,Tryz.ntmps41
  go_wp2_with (go_at_call 76;refine (bC b v bs _ h).mono ?_)
  rintro e w1 ⟨rfl,hck⟩
  have hbk:=hck.1;have hbuf:=hck.2.1;have c0:w1.cell? ⟨b,0,none⟩=some (.pointer (some ⟨b,0,none⟩)):=by rw [Lib.cell_of_heap hbk];rfl
  have c1:w1.cell? ⟨b,1,none⟩=some v:=by rw [Lib.cell_of_heap hbk];rfl
  go_wp2_with (at_builtin;refine Yv rfl _ _ 109 9 rfl 5 i0 Tryz.underlying109 Tryz.underlying9 hi hz0 hz1 hz2 v bs rfl hbuf s rfl hlen ?_)
  intro v' w2 hown' hgrow hsame;have hlt:b<w1.heap.size:=BE hbk;have hb2:w2.heap[b]?=some (.cells #[.pointer (some ⟨b,0,none⟩),v] 111 (0,0)):=by
    rw [hgrow.block b hlt (fun e=>hne0 e.symm)];exact hbk
  have d0:w2.cell? ⟨b,0,none⟩=some (.pointer (some ⟨b,0,none⟩)):=by rw [Lib.cell_of_heap hb2];rfl
  have d1:w2.cell? ⟨b,1,none⟩=some v:=by rw [Lib.cell_of_heap hb2];rfl
  have f1:w2.frozen? ⟨b,1,none⟩=false:=Lib.frozen_of_heap hb2 1;have hw:=mS 111 5 (by decide) hck (.inl rfl) hgrow hsame hown' hne0;obtain ⟨ao,n',cap,rfl⟩:∃ ao n' cap,v'=.slice ao n' cap:=by
    rcases hown' with ⟨hv,_⟩ | ⟨g,cap,cur,hv,_⟩
    · exact ⟨_,_,_,hv⟩
    · exact ⟨_,_,_,hv⟩
  go_wp2
  go_ret2
  exact ⟨rfl,hw⟩
set_option maxHeartbeats 2000000 in
set_option maxRecDepth 100000 in
theorem nK (b : Nat) (v : Value) (bs : List Value) (c : Int) (w : World) (h : QX w 111 5 b v bs) (hlen : bs.length + 1 ≤ 140737488355328) :
    Calls Tryz.prog 44 #[.pointer (some ⟨b,0,none⟩),.int .u8 c] w fun e w'=>e=.returned .nilIface∧Q2 w 111 5 b v (bs++[.int .u8 c]) w':=by
  obtain ⟨i0,hi,hz0,hz1,hz2⟩:=info_parts tn;have hne0:v.ownBlock≠some b:=by
    obtain ⟨⟨p,hb,hp⟩,hbuf⟩:=h;exact dV hbuf hb (by decide)
  go_enter Tryz.func44,Tryz.ntmps44
  go_wp2_with (go_at_call 76;refine (bC b v bs _ h).mono ?_)
  rintro e w1 ⟨rfl,hck⟩
  have hbk:=hck.1;have hbuf:=hck.2.1;have hlt:b<w1.heap.size:=BE hbk;have c0:w1.cell? ⟨b,0,none⟩=some (.pointer (some ⟨b,0,none⟩)):=by rw [Lib.cell_of_heap hbk];rfl
  have c1:w1.cell? ⟨b,1,none⟩=some v:=by rw [Lib.cell_of_heap hbk];rfl
  go_wp2_with (at_builtin;refine Wu rfl _ _ 109 rfl 5 i0 Tryz.underlying109 hi hz0 hz1 hz2 v bs rfl ?c0 ⟨w1.heap.size,0,none⟩ 1 1 [.int .u8 c] rfl rfl Nat.one_pos ?c1 ?c2 hlen ?_)
  case c0 =>
    refine hbuf.kept fun g hg=>?_
    refine Lib.alloc_old w1 _ g ?_
    rcases hbuf with ⟨rfl,_⟩ | ⟨g',cap,cur,rfl,hgg,_⟩
    · simp [Value.ownBlock] at hg
    · simp only [Value.ownBlock,Option.some.injEq] at hg;subst hg;exact BE hgg
  case c1 =>
    intro j u hj
    match j,hj with
    | 0,hj=>simp at hj;subst hj;simp [Addr.add]
  case c2=>intro u hu;simp at hu;subst hu;rfl
  intro v' w2 hown' hgrow hsame;have hb2:w2.heap[b]?=some (.cells #[.pointer (some ⟨b,0,none⟩),v] 111 (0,0)):=by
    rw [hgrow.block b (by simp;omega) (fun e=>hne0 e.symm),Lib.alloc_old w1 _ b hlt];exact hbk
  have d0:w2.cell? ⟨b,0,none⟩=some (.pointer (some ⟨b,0,none⟩)):=by rw [Lib.cell_of_heap hb2];rfl
  have d1:w2.cell? ⟨b,1,none⟩=some v:=by rw [Lib.cell_of_heap hb2];rfl
  have f1:w2.frozen? ⟨b,1,none⟩=false:=Lib.frozen_of_heap hb2 1;have hw:=mS 111 5 (by decide) hck (.inr ⟨_,rfl⟩) hgrow hsame hown' hne0;obtain ⟨ao,n',cap,rfl⟩:∃ ao n' cap,v'=.slice ao n' cap:=by
    rcases hown' with ⟨hv,_⟩ | ⟨g,cap,cur,hv,_⟩
    · exact ⟨_,_,_,hv⟩
    · exact ⟨_,_,_,hv⟩
  go_wp2
  go_ret
  exact ⟨rfl,hw⟩
set_option maxHeartbeats 1000000 in
set_option maxRecDepth 100000 in
theorem lV (b : Nat) (v : Value) (l : List UInt8) (w : World) (h : QX w 111 5 b v (Lib.byteCells l)) (hl63 : l.length ≤ 9223372036854775807) :
    Calls Tryz.prog 45 #[.pointer (some ⟨b,0,none⟩)] w fun e w'=>e=.returned (.string ⟨l.toArray⟩)∧tH w v w':=by
  obtain ⟨⟨p,hbk,hp⟩,hbuf⟩:=h;have c1:w.drew.cell? ⟨b,1,none⟩=some v:=by
    have:w.drew.heap[b]?=some (.cells #[p,v] 111 (0,0)):=hbk;rw [Lib.cell_of_heap this];rfl
  have mixed:Tryz.prog.follows .mixedOrders=true:=by kernel_rfl
  rcases hbuf with ⟨rfl,hl⟩ | ⟨g,cap,cur,rfl,hg,hc0,hnc,hcs,htake⟩
  · have hl:l=[]:=by simpa [Lib.byteCells] using hl
    subst hl;have hUS:∀ (W:World) (q:Option Addr),(Builtin.unsafeString_ #[146,3] 9 #[.pointer q,.int .i64 0]).run Tryz.prog W=.ok (.string .empty) W:=fun W q=>Lib.run_unsafeString_none W _ _ _ q
    have hSD:(Builtin.unsafeSliceData_ #[109] 146 #[.slice none 0 0]).run Tryz.prog w.drew=.ok (.pointer none) w.drew:=rfl
    go_enter Tryz.func45,Tryz.ntmps45
    go_wp2
    go_region_o
    all_goals (go_wp2;go_ret;exact ⟨rfl,rfl,rfl,rfl,Nat.le_refl _,fun _ _ _=>rfl⟩)
  · rw [Lib.byteCells_length] at hnc c1;have hSD:(Builtin.unsafeSliceData_ #[109] 146 #[.slice (some ⟨g,0,none⟩) l.length cap]).run Tryz.prog w.drew=.ok (.pointer (some ⟨g,0,none⟩)) w.drew :=
      Lib.run_unsafeSliceData_row _ _ _ _ _ _ (by omega)
    by_cases h0:l=[]
    · subst h0;have hUS:∀ (W:World) (q:Option Addr),(Builtin.unsafeString_ #[146,3] 9 #[.pointer q,.int .i64 0]).run Tryz.prog W=.ok (.string .empty) W:=fun W q=>Lib.run_unsafeString_none W _ _ _ q
      simp only [List.length_nil] at c1 hSD;clear hc0
      go_enter Tryz.func45,Tryz.ntmps45
      go_wp2
      go_region_o
      all_goals (go_wp2;go_ret;exact ⟨rfl,rfl,rfl,rfl,Nat.le_refl _,fun _ _ _=>rfl⟩)
    · have hUS : (Builtin.unsafeString_ #[146, 3] 9 #[.pointer (some ⟨g, 0, none⟩), .int .i64 l.length]).run Tryz.prog w.drew = .ok (.string ⟨l.toArray⟩) (w.drew.freeze ⟨g, 0, none⟩ l.length) := by
        refine Lib.run_unsafeString_row w.drew 146 3 9 5 Tryz.underlying146 (by kernel_rfl) g cur.size (by have hg':w.drew.heap[g]?=some (.cells cur 5 (0,0)):=hg;simp [World.shape?,hg']) l h0 (by omega) hl63 ?_;intro j x hx;have hj:j<l.length:=(List.getElem?_eq_some_iff.1 hx).1;have h1:(Lib.byteCells l)[j]?=some (.int .u8 x.toNat):=by simp [Lib.byteCells,hx]
        rw [← htake,List.getElem?_take,if_pos (by rw [Lib.byteCells_length];exact hj)] at h1;have hg':w.drew.heap[g]?=some (.cells cur 5 (0,0)):=hg;rw [H4];simpa [World.cell?,hg'] using h1
      have hrd:=fun n=>lr w g n (.slice (some ⟨g,0,none⟩) (Lib.byteCells l).length cap) rfl
      go_enter Tryz.func45,Tryz.ntmps45
      go_wp2
      go_region_o
      all_goals (go_wp2;go_ret;exact ⟨rfl,hrd _⟩)
def tJ:List Bld:=[⟨41,0,111,5⟩,⟨44,1,111,5⟩,⟨45,2,111,5⟩]
theorem vz:∀ b∈tJ,Ql Tryz.prog b:=fun b h=>by
 simp only [tJ,List.mem_cons,List.not_mem_nil,or_false] at h
 rcases h with rfl | rfl | rfl
 ·exact fun n v bs s w h hl=>jU n v bs s w h hl
 ·exact fun n v bs c w h hl=>nK n v bs c w h hl
 ·exact fun n v l w h hl=>lV n v l w h hl
end Go.Px
end
