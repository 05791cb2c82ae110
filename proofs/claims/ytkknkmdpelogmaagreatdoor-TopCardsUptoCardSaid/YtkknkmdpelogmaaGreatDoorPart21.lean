/- Part 21. -/
import Derived.Test.YtkknkmdpelogmaaGreatDoorPart18
import Derived.Test.YtkknkmdpelogmaaGreatDoorPart19
import Derived.Test.YtkknkmdpelogmaaGreatDoorPart20
import Derived.Test.YtkknkmdpelogmaaGreatDoorRows
import Derived.ProofKit
import Derived.OpenShut
import Derived.JoinedCond
set_option linter.unusedVariables false
set_option linter.unusedSimpArgs false
namespace Go.Proofs.YtkknkmdpelogmaaGreatDoor
open Go.Px Go.ChangeShapes Go.WideShapes Go.ChangeAt Go.RowKit
set_option maxRecDepth 100000
theorem AEc{H:Type}(d:DataW H):1≤Rows.uptoBulk d:=by
 cases d with
 |lit l=>cases l<;>simp[Rows.uptoBulk]
 |nil=>simp[Rows.uptoBulk]
 |ptr d=>simp[Rows.uptoBulk]
 |slice elems spare=>simp[Rows.uptoBulk]
 |agg parts=>simp[Rows.uptoBulk]
 |iface t d=>simp[Rows.uptoBulk]
 |map entries=>simp[Rows.uptoBulk]
 |held h=>simp[Rows.uptoBulk]
theorem oD{H:Type}{d:DataW H}{l:List (DataW H)}(h:d∈l):Rows.uptoBulk d≤Rows.uptoBulkAll l:=by
 induction l with
 |nil=>cases h
 |cons x r ih=>
  simp only[Rows.uptoBulkAll];cases List.mem_cons.1 h with
  |inl e=>subst e;omega
  |inr e=>have:=ih e;omega
theorem all_append{H:Type}(l r:List (DataW H)):Rows.uptoBulkAll (l++r)=Rows.uptoBulkAll l+Rows.uptoBulkAll r:=by
 induction l with
 |nil=>simp[Rows.uptoBulkAll]
 |cons x l ih=>simp only[List.cons_append,Rows.uptoBulkAll,ih];omega
theorem AE4{H:Type}(l:List (DataW H)):l.length≤Rows.uptoBulkAll l:=by
 induction l with
 |nil=>simp[Rows.uptoBulkAll]
 |cons x r ih=>have:=AEc x;simp only[Rows.uptoBulkAll,List.length_cons];omega
theorem ADN(H:Type):Bulk (H:=H) Rows.uptoBulk where
 str b:=by simp[Rows.uptoBulk]
 len e s:=by have:=AE4 e;simp only[Rows.uptoBulk];omega
 elem e s d h:=by have:=oD h;simp only[Rows.uptoBulk];omega
 part ps d h:=by have:=oD h;simp only[Rows.uptoBulk];omega
theorem AAS{H:Type}{ds gs:List (DataW H)}(hk:Rows.uptoSmall H (ds++gs)=true):∀d∈ds,Rows.uptoBulk d≤1048576:=fun d hd=>by
 have h1:Rows.uptoBulkAll (ds++gs)≤1048576:=by simpa[Rows.uptoSmall]using hk
 rw[all_append]at h1;have:=oD hd;omega
theorem own:ownKnob Tryz.prog.godebug=none:=by kernel_rfl
theorem ADE:laidOutB Tryz.prog=true:=by kernel_rfl
def yB(P:Program)(l:List TypeId):Bool:=l.all fun t=>(FA P 40 Dx t&&(AY P t).isSome)&&(P.readableRec t&&Nat.blt t P.types.size)
theorem wZ{l:List TypeId}(h:yB Tryz.prog l=true):∀t∈l,(FA Tryz.prog 40 Dx t=true∧(AY Tryz.prog t).isSome=true)∧(Tryz.prog.readableRec t=true∧t<Tryz.prog.types.size):=fun t ht=>by
 have:=List.all_eq_true.1 h t ht;simp only[zzk]at this;exact⟨this.1,this.2.1,of_eq_true (Nat.blt_eq▸eq_true this.2.2)⟩
def nY:Env:=fun f fns ls=>cond (Nat.beq f 3) (IQ 4194304 ls) none
theorem AEW(ls:List PV):nY 3 [] ls=IQ 4194304 ls:=by unfold nY;exact cond_true _ _
theorem AEl:jj Tryz.prog Tryz.f3.params.toList=some [.s,.i,.i,.i,.i,.i,.i,.i,.b,.i,.i,.i,.i,.r [.i,.i,.i],.r [.u,.i,.i,.i,.b,.i,.i,.u,.u,.i,.i,.i,.b,.u,.i,.i,.i,.b,.i]]:=by kernel_rfl
theorem AF4:∀l ls,Lk Tryz.prog Tryz.f3.params.toList=some l→PVoks Tryz.prog 1048576 l ls→nY 3 [] ls=some [.bool true]:=by
 intro l ls hl hp;have k0:=zq hp;rw[yF AEl hl]at k0;rw[AEW];obtain⟨p0,ls,rfl,h0,k1⟩:=AEf k0;obtain⟨p1,ls,rfl,r1,k2⟩:=LO k1;obtain⟨p2,ls,rfl,r2,k3⟩:=LO k2;obtain⟨p3,ls,rfl,r3,k4⟩:=LO k3;obtain⟨p4,ls,rfl,r4,k5⟩:=LO k4;obtain⟨p5,ls,rfl,r5,k6⟩:=LO k5;obtain⟨p6,ls,rfl,r6,k7⟩:=LO k6;obtain⟨p7,ls,rfl,r7,k8⟩:=LO k7;obtain⟨p8,ls,rfl,k9⟩:=ADy k8;obtain⟨p9,ls,rfl,r9,k10⟩:=LO k9;obtain⟨p10,ls,rfl,r10,k11⟩:=LO k10;obtain⟨p11,ls,rfl,r11,k12⟩:=LO k11;obtain⟨p12,ls,rfl,r12,k13⟩:=LO k12;obtain⟨p13,ls,rfl,h13,q13,d13,k14⟩:=xn k13;obtain⟨p14,ls,rfl,h14,q14,d14,k15⟩:=xn k14;obtain rfl:=AEO k15;exact nr lD nD yO (by omega) h0 h13
theorem AA4(H:Type)(enc:TypeId×Value→H)(W:World)(base:Nat)(args:Array Value)(ds gs:List (DataW H))(before:List MemPlace)
    (hval:∀(j:Nat) t v,Tryz.f3.params[j]?=some t→args[j]?=some v→Value.okWide Tryz.prog W .any base t v)
    (hW:DataW.Whole enc Tryz.prog Tryz.f3.params.toList Rows.topCardsSpec.vars false W args.toList ds gs before) (hk:Rows.uptoSmall H (ds++gs)=true) (hkp:Kept (E:=nY) (N:=4194304) Tryz.prog ⟨W.heap.size,fun _=>True⟩ noB (fun _=>none) (Aa []) W) :
    Calls Tryz.prog 3 args W fun e W'=>∃v,e=.returned v∧Rows.topCardsSpec.post enc Tryz.prog Tryz.f3 false true false false W args v W':=
  ABF (ci:=⟨3,[],true,true,[],[]⟩) (E:=nY) (N:=4194304) rfl rfl (vE oj (E:=nY) (M:=4194304) 4194304 AEW).1 Tryz.func3 (tb:=4) (by kernel_rfl) (by kernel_rfl) ADE
    (wZ (by kernel_rfl)) rfl (fun ds h=>by
      have h:ds.length=2:=h.trans (by kernel_rfl)
      match ds,h with
      | [d1,d2],_=>rfl) (ADN H) AF4 hval hW (AAS hk) hkp
end Go.Proofs.YtkknkmdpelogmaaGreatDoor
