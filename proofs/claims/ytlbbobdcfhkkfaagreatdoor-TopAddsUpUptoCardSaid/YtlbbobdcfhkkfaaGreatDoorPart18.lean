/- Part 18. -/
import Derived.Test.YtlbbobdcfhkkfaaGreatDoorPart17
import Derived.Shelf.Strconv.Itoa3
import Derived.Shelf.LaysM
import Derived.Shelf.Strconv.Itoa4
import Derived.Test.YtlbbobdcfhkkfaaGreatDoorProg
set_option linter.unusedVariables false
set_option linter.unusedSimpArgs false
section
namespace Go.Px
set_option maxRecDepth 100000
def pl9 (e i k l n f:Int) (a:Bool) (s o b r y w z t u x:Int) (c1 c2 c3 c4:Bool) (p q:Int):List PV:=[.int e,.int i,.int 0,.int k,.int l,.int n,.int f,.bool a,.int s,.int o,.int b,.int 0,.int r,.bool false,.int y,.int w,.int 0,.int 0,.bool false,.int 0,.int z,.int t,.int 0,.int 0,.int 0,.int u,.bool c1,.bool c2,.bool c3,.bool c4,.int p,.int q]
def AA1:Rows:=[pl9 4 0 0 1 1 2 false 1 1 1 0 0 0 1 0 1 0 true true false true 1 0,pl9 5 0 1 1 2 1 false 1 0 0 0 1 1 0 0 0 0 true true true false 1 1,pl9 9 1 0 2 2 1 false 2 0 0 0 0 0 0 1 1 0 false false false false 1 0,pl9 10 1 0 2 2 1 false 1 1 0 4 0 0 4 0 4 0 true true false false 5 0]
theorem ABx:Bi B2 BW=AA1:=by kernel_rfl
theorem AB4:((BD B2 BW).2.1,(Ar (BD B2 BW).1.inns).length)=(-1,2):=by kernel_rfl
theorem ABH:QO B2 BW 0=([[.int 1,.int 1,.int 1,.int 0,.int 0,.bool false,.int 0,.int 0,.int 0,.bool true],[.int 2,.int 0,.int 1,.int 0,.int 0,.bool true,.int 1,.int 1,.int 0,.bool true]],0):=by kernel_rfl
theorem ABP:Vr B2 BW 1=(A2 [⟨2,1,0,5,0,1,0⟩],0):=by kernel_rfl
theorem M3 {α:Type} {x:Option (List PV)} {v:List PV} {f:List PV→Option (List PV)} {g:List PV→α} {r:Option α} (h:x=some v) (hk:(f v).map g=r):(x.bind f).map g=r:=by rw [h];exact hk
theorem qh {α:Type} {c:Bool} {x y:Option (List PV)} {g:List PV→α} {r:Option α} (hc:c=false) (h:y.map g=r):(cond c x y).map g=r:=by rw [hc];exact h
def wz (v:List PV):Nat×Int:=((pvL (AA v 0)).length,pvI (AA v 1))
theorem vn:∃ F,CY 4194304 (B2.ls++[.rows BW])=some (Wg AA1 F):=by
 have k:CY 4194304 (B2.ls++[.rows BW])=some (Wg (Bi B2 BW) (BD B2 BW)):=SL (by omega) (by decide) (Nat.zero_le _) (by decide);rw [ABx] at k;exact ⟨_,k⟩
theorem ABt:(ET 4194304 (B2.ls++[.rows BW])).map wz=some (4,0):=by
 have k1:Cm 4194304 (B2.ls++[.rows BW])=some [.int (Ak B2 BW)]:=QY (by omega) (by decide) (Nat.zero_le _) (by decide);rw [ra] at k1;obtain ⟨F,k2⟩:=vn;rw [show ET 4194304 (B2.ls++[.rows BW])=Hv (std (C4 4194304) 4194304) (xOf (B2.ls++[.rows BW])) by kernel_rfl];simp only [Hv,Ub,TY,PF,lq9,std,xOf,PXb];refine M3 k1 (qh rfl ?_);refine M3 k2 ?_
 kernel_rfl
theorem ABu:(Du 4194304 (B2.ls++[.rows BW])).map wz=some (2,0):=by
 have k1:Id 4194304 (B2.ls++[.rows BW])=some [.rows (cond (!(Ak B2 BW==0)) [] (A5 (RK B2 BW (sdT BW)))),.int (Ak B2 BW)]:=jY (by omega) (by decide) (Nat.zero_le _) (by decide) mD;rw [ra,ABV] at k1;obtain ⟨F,k2⟩:=vn;have k3:BT 4194304 [.rows BW]=_:=IP (L:=BW) (by omega) (by decide);rw [ABb] at k3;rw [show Du 4194304 (B2.ls++[.rows BW])=Gz (std (B1 4194304) 4194304) (xOf (B2.ls++[.rows BW])) by kernel_rfl];simp only [Gz,TZ,Pi,Pe,PL,Ov,lq9,std,xOf,PXb];refine M3 k1 (qh rfl ?_);refine M3 k2 ?_;refine M3 k3 ?_
 kernel_rfl
theorem AAJ:(H1 4194304 (B2.ls++[.rows BW])).map (fun v=>((pvL (AA v 0)).length,(pvL (AA v 1)).length,pvB (AA v 2)))=some (4,2,true):=by
 obtain ⟨v,h1,h2⟩:=zzo.1 ABt;obtain ⟨w,h3,h4⟩:=zzo.1 ABu;simp only [wz,Prod.mk.injEq] at h2 h4;rw [show H1 4194304 (B2.ls++[.rows BW])=Lk (std (It 4194304) 4194304) (xOf (B2.ls++[.rows BW])) by kernel_rfl];simp only [Lk,Q4,Pf,lq9,std,xOf,PXb];refine M3 h1 ?_;refine M3 h3 ?_;simp only [PXb,PXc,PXn,AG,Option.map_some,h2,h4];rfl
theorem gC:E2 4194304 []=some [.bool true]:=by
 obtain ⟨v,h1,h2⟩:=zzo.1 AAJ;simp only [Prod.mk.injEq] at h2;have k:DU 4194304 (B2.ls++[.rows BW])=some (f7 (BD B2 BW)):=UW (by omega) (by decide) (Nat.zero_le _) (by decide);have e:=AB4;rw [Prod.mk.injEq] at e;show Gn (std (CH 4194304) 4194304) (xOf [])=_;simp only [Gn,RX,SQ,Uc,Pp,lq9,std,xOf,PXb,yW,qy];refine CW h1 ?_;refine CW k ?_;generalize BD B2 BW=F at e;simp only [f7,PXb,PXc,PXn,AG,h2,e];rfl
set_option maxHeartbeats 2000000 in
theorem ej:Gg 4194304 []=some [.bool true]:=by
 have k1:DF 4194304 (B2.ls++[.rows BW,.int 0])=some [.rows (QO B2 BW 0).1,.int (QO B2 BW 0).2]:=Wf (by omega) (by decide) (Nat.zero_le _) (by decide);rw [ABH] at k1;have k2:CG 4194304 (B2.ls++[.rows BW,.int 1])=some [.rows (Vr B2 BW 1).1,.int (Vr B2 BW 1).2]:=SH (by omega) (by decide) (Nat.zero_le _) (by decide);rw [ABP] at k2;show J0 (std (DJ 4194304) 4194304) (xOf [])=_;simp only [J0,Pw,Nx,ST,Uh,PK,lq9,std,xOf,PXb,yW,qy];refine CW k1 ?_;refine CW k2 ?_;refine CW gC ?_
 kernel_rfl
end Go.Px
end
section
namespace Go.Proofs
open Go.Shelf
def Tryz.laysM246_ren:Go.Shelf.Ren:=⟨fun | 246=>113 | 283=>135 | 284=>136 | 285=>137 | 286=>138 | 129=>156 | 317=>155 | 318=>157 | 319=>158 | 320=>159 | 337=>166 | 338=>167 | n=>n,fun | 2=>2 | 3=>3 | 9=>9 | 4=>4 | 171=>212 | 0=>0 | 53=>213 | 37=>141 | 5=>5 | 173=>216 | 212=>229 | 51=>230 | 20=>20 | 213=>231 | 46=>232 | 232=>248 | 233=>249 | n=>n,fun | 17=>1 | 18=>2 | 19=>3 | n=>n⟩
theorem Tryz.laysM246:Go.Proofs.LaysM.n246 Tryz.prog Tryz.laysM246_ren:={
  mixed:=by kernel_rfl
  f129:=Tryz.func156.trans (congrArg some (by kernel_rfl))
  f246:=Tryz.func113.trans (congrArg some (by kernel_rfl))
  f283:=Tryz.func135.trans (congrArg some (by kernel_rfl))
  f284:=Tryz.func136.trans (congrArg some (by kernel_rfl))
  f285:=Tryz.func137.trans (congrArg some (by kernel_rfl))
  f286:=Tryz.func138.trans (congrArg some (by kernel_rfl))
  f317:=Tryz.func155.trans (congrArg some (by kernel_rfl))
  f318:=Tryz.func157.trans (congrArg some (by kernel_rfl))
  f319:=Tryz.func158.trans (congrArg some (by kernel_rfl))
  f320:=Tryz.func159.trans (congrArg some (by kernel_rfl))
  f337:=Tryz.func166.trans (congrArg some (by kernel_rfl))
  f338:=Tryz.func167.trans (congrArg some (by kernel_rfl))
  t0:=Tryz.underlying0
  a0:=Tryz.isAgg0
  z0:=Tryz.sizeOf0
  v0:=Tryz.zeroValue0
  t2:=Tryz.underlying2
  a2:=Tryz.isAgg2
  z2:=Tryz.sizeOf2
  v2:=Tryz.zeroValue2
  t3:=Tryz.underlying3
  a3:=Tryz.isAgg3
  z3:=Tryz.sizeOf3
  v3:=Tryz.zeroValue3
  t4:=Tryz.underlying4
  a4:=Tryz.isAgg4
  z4:=Tryz.sizeOf4
  v4:=Tryz.zeroValue4
  t5:=Tryz.underlying5
  a5:=Tryz.isAgg5
  z5:=Tryz.sizeOf5
  v5:=Tryz.zeroValue5
  t9:=Tryz.underlying9
  a9:=Tryz.isAgg9
  z9:=Tryz.sizeOf9
  v9:=Tryz.zeroValue9
  t20:=Tryz.underlying20
  a20:=Tryz.isAgg20
  z20:=Tryz.sizeOf20
  v20:=Tryz.zeroValue20
  t37:=Tryz.underlying141
  a37:=Tryz.isAgg141
  z37:=Tryz.sizeOf141
  v37:=Tryz.zeroValue141
  t46:=Tryz.underlying232
  a46:=Tryz.isAgg232
  z46:=Tryz.sizeOf232
  v46:=Tryz.zeroValue232
  t51:=Tryz.underlying230
  a51:=Tryz.isAgg230
  z51:=Tryz.sizeOf230
  v51:=Tryz.zeroValue230
  t53:=Tryz.underlying213
  a53:=Tryz.isAgg213
  z53:=Tryz.sizeOf213
  v53:=Tryz.zeroValue213
  t171:=Tryz.underlying212
  a171:=Tryz.isAgg212
  z171:=Tryz.sizeOf212
  v171:=Tryz.zeroValue212
  t173:=Tryz.underlying216
  a173:=Tryz.isAgg216
  z173:=Tryz.sizeOf216
  v173:=Tryz.zeroValue216
  t212:=Tryz.underlying229
  a212:=Tryz.isAgg229
  z212:=Tryz.sizeOf229
  v212:=Tryz.zeroValue229
  t213:=Tryz.underlying231
  a213:=Tryz.isAgg231
  z213:=Tryz.sizeOf231
  t232:=Tryz.underlying248
  a232:=Tryz.isAgg248
  z232:=Tryz.sizeOf248
  v232:=Tryz.zeroValue248
  t233:=Tryz.underlying249
  a233:=Tryz.isAgg249
  z233:=Tryz.sizeOf249
  v233:=Tryz.zeroValue249
  g17:=by kernel_rfl
  g18:=by kernel_rfl
  g19:=by kernel_rfl
  i0:=by kernel_rfl
  i2:=by kernel_rfl
  i3:=by kernel_rfl
  i4:=by kernel_rfl
  i5:=by kernel_rfl
  i9:=by kernel_rfl
  i20:=by kernel_rfl
  i37:=by kernel_rfl
  i46:=by kernel_rfl
  i51:=by kernel_rfl
  i53:=by kernel_rfl
  i171:=by kernel_rfl
  i173:=by kernel_rfl
  i212:=by kernel_rfl
  i232:=by kernel_rfl
  i233:=by kernel_rfl
  m17:=by kernel_rfl
  m18:=by kernel_rfl
  m19:=by kernel_rfl }
open Go.RowKit Go.Sort Go.Lib in
theorem Tryz.internal_strconv_FormatInt_10 (n : Int) (h0 : -9223372036854775808 ≤ n) (h1 : n ≤ 9223372036854775807) (w : World) (htab : Lib.TabIs Tryz.prog w "internal/strconv.uint64pow10" .u64 Lib.pow10Tab) :
    Calls Tryz.prog 113 #[.int .i64 n,.int .i64 10] w fun e w'=>e=.returned (.string ⟨(Lib.itoa n).toArray⟩)∧∃ k os,w'=grow (w.drewN k) os:=Any.internal_strconv_FormatInt_10 Tryz.laysM246 n h0 h1 w htab
end Go.Proofs
end
