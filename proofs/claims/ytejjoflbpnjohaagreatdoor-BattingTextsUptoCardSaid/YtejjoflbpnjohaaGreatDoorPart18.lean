/- Part 18. -/
import Derived.Test.YtejjoflbpnjohaaGreatDoorPart15
import Derived.Test.YtejjoflbpnjohaaGreatDoorPart16
import Derived.Test.YtejjoflbpnjohaaGreatDoorPart17
import Derived.Test.YtejjoflbpnjohaaGreatDoorRows
import Derived.ProofKit
import Derived.OpenShut
import Derived.JoinedCond
set_option linter.unusedVariables false
set_option linter.unusedSimpArgs false
namespace Go.Proofs.YtejjoflbpnjohaaGreatDoor
open Go.Px Go.ChangeShapes Go.WideShapes Go.ChangeAt Go.RowKit
set_option maxRecDepth 100000
theorem uZ {H:Type} (d:DataW H):1≤Rows.uptoBulk d:=by
 cases d with
 | lit l=>cases l<;>simp [Rows.uptoBulk]
 | nil=>simp [Rows.uptoBulk]
 | ptr d=>simp [Rows.uptoBulk]
 | slice elems spare=>simp [Rows.uptoBulk]
 | agg parts=>simp [Rows.uptoBulk]
 | iface t d=>simp [Rows.uptoBulk]
 | map entries=>simp [Rows.uptoBulk]
 | held h=>simp [Rows.uptoBulk]
theorem dY {H:Type} {d:DataW H} {l:List (DataW H)} (h:d∈l):Rows.uptoBulk d≤Rows.uptoBulkAll l:=by
 induction l with
 | nil=>cases h
 | cons x r ih =>
  simp only [Rows.uptoBulkAll];cases List.mem_cons.1 h with
  | inl e=>subst e;omega
  | inr e=>have:=ih e;omega
theorem all_append {H:Type} (l r:List (DataW H)):Rows.uptoBulkAll (l++r)=Rows.uptoBulkAll l+Rows.uptoBulkAll r:=by
 induction l with
 | nil=>simp [Rows.uptoBulkAll]
 | cons x l ih=>simp only [List.cons_append,Rows.uptoBulkAll,ih];omega
theorem vP {H:Type} (l:List (DataW H)):l.length≤Rows.uptoBulkAll l:=by
 induction l with
 | nil=>simp [Rows.uptoBulkAll]
 | cons x r ih=>have:=uZ x;simp only [Rows.uptoBulkAll,List.length_cons];omega
theorem tc (H:Type):Bulk (H:=H) Rows.uptoBulk where
 str b:=by simp [Rows.uptoBulk]
 len e s:=by have:=vP e;simp only [Rows.uptoBulk];omega
 elem e s d h:=by have:=dY h;simp only [Rows.uptoBulk];omega
 part ps d h:=by have:=dY h;simp only [Rows.uptoBulk];omega
theorem qC {H:Type} {ds gs:List (DataW H)} (hk:Rows.uptoSmall H (ds++gs)=true):∀ d∈ds,Rows.uptoBulk d≤1048576:=fun d hd=>by
 have h1:Rows.uptoBulkAll (ds++gs)≤1048576:=by simpa [Rows.uptoSmall] using hk
 rw [all_append] at h1;have:=dY hd;omega
theorem own:ownKnob Tryz.prog.godebug=none:=by kernel_rfl
theorem tV:laidOutB Tryz.prog=true:=by kernel_rfl
def oB (P:Program) (l:List TypeId):Bool:=l.all fun t=>(Dl P 40 CV t&&(AO P t).isSome)&&(P.readableRec t&&Nat.blt t P.types.size)
theorem kg {l:List TypeId} (h:oB Tryz.prog l=true):∀ t∈l,(Dl Tryz.prog 40 CV t=true∧(AO Tryz.prog t).isSome=true)∧(Tryz.prog.readableRec t=true∧t<Tryz.prog.types.size):=fun t ht=>by
 have:=List.all_eq_true.1 h t ht;simp only [zzj] at this;exact ⟨this.1,this.2.1,of_eq_true (Nat.blt_eq▸eq_true this.2.2)⟩
def nQ:Env:=fun f fns ls=>cond (Nat.beq f 4) (Dk 4194304 ls) none
theorem ue:ZO Tryz.prog Tryz.f4.params.toList=some [.r [.i,.i,.i,.i,.i,.b,.u,.i,.i,.b],.s,.r [.s],.i,.i,.s,.r [.s],.i,.i]:=by kernel_rfl
theorem wD:∀ l ls,I7 Tryz.prog Tryz.f4.params.toList=some l→PVoks Tryz.prog 1048576 l ls→nQ 4 [] ls=some [.bool true]:=by
 intro l ls hl hp;have k0:=pu hp;rw [nJ ue hl] at k0;show Dk 4194304 ls=_;obtain ⟨p0,ls,rfl,h0,q0,d0,k1⟩:=eE k0;obtain ⟨p1,ls,rfl,h1,k2⟩:=pE k1;obtain ⟨p2,ls,rfl,h2,q2,d2,k3⟩:=eE k2;obtain ⟨p3,ls,rfl,r3,k4⟩:=Mn k3;obtain ⟨p4,ls,rfl,r4,k5⟩:=Mn k4;obtain ⟨p5,ls,rfl,h5,k6⟩:=pE k5;obtain ⟨p6,ls,rfl,h6,q6,d6,k7⟩:=eE k6;obtain ⟨p7,ls,rfl,r7,k8⟩:=Mn k7;obtain ⟨p8,ls,rfl,r8,k9⟩:=Mn k8;obtain rfl:=vB k9;exact Wp km (by omega) (vK d0)
theorem oY (H : Type) (enc : TypeId × Value → H) (W : World) (base : Nat) (args : Array Value) (ds gs : List (DataW H)) (before : List MemPlace)
    (hval:∀ (j:Nat) t v,Tryz.f4.params[j]?=some t→args[j]?=some v→Value.okWide Tryz.prog W .any base t v)
    (hW:DataW.Whole enc Tryz.prog Tryz.f4.params.toList Rows.battingTextsSpec.vars false W args.toList ds gs before) (hk:Rows.uptoSmall H (ds++gs)=true) (hkp:Kept (E:=nQ) (N:=4194304) Tryz.prog noB (fun _=>none) (AM []) W) :
    Calls Tryz.prog 4 args W fun e W'=>∃ v,e=.returned v∧Rows.battingTextsSpec.post enc Tryz.prog Tryz.f4 false true false false W args v W' :=
  rQ (ci:=⟨4,[],true,true,[],[]⟩) (E:=nQ) (N:=4194304) rfl rfl (vE XR (E:=nQ) (M:=4194304) 4194304 fun _=>rfl).1 Tryz.func4 (tb:=4) (by kernel_rfl) (by kernel_rfl) tV
    (kg (by kernel_rfl)) rfl (fun ds h=>by
      have h:ds.length=2:=h.trans (by kernel_rfl)
      match ds,h with
      | [d1,d2],_=>rfl) (tc H) wD hval hW (qC hk) hkp
end Go.Proofs.YtejjoflbpnjohaaGreatDoor
