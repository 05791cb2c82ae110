/- Part 18. -/
import Derived.Test.YtejjoflbpnjohaaGreatDoorPart15
import Derived.Test.YtejjoflbpnjohaaGreatDoorPart16
import Derived.Test.YtejjoflbpnjohaaGreatDoorPart17
import Derived.Test.YtejjoflbpnjohaaGreatDoorRows
import Derived.ProofKit
import Derived.OpenShut
import Derived.JoinedCond
set_option linter.unusedVariables false
set_option linter.unusedSimpArgs false
namespace Go.Proofs.YtejjoflbpnjohaaGreatDoor
open Go.Px Go.ChangeShapes Go.WideShapes Go.ChangeAt Go.RowKit
set_option maxRecDepth 100000
theorem sX {H:Type} (d:DataW H):1≤Rows.uptoBulk d:=by
 cases d with
 | lit l=>cases l<;>simp [Rows.uptoBulk]
 | nil=>simp [Rows.uptoBulk]
 | ptr d=>simp [Rows.uptoBulk]
 | slice elems spare=>simp [Rows.uptoBulk]
 | agg parts=>simp [Rows.uptoBulk]
 | iface t d=>simp [Rows.uptoBulk]
 | map entries=>simp [Rows.uptoBulk]
 | held h=>simp [Rows.uptoBulk]
theorem dT {H:Type} {d:DataW H} {l:List (DataW H)} (h:d∈l):Rows.uptoBulk d≤Rows.uptoBulkAll l:=by
 induction l with
 | nil=>cases h
 | cons x r ih =>
  simp only [Rows.uptoBulkAll];cases List.mem_cons.1 h with
  | inl e=>subst e;omega
  | inr e=>have:=ih e;omega
theorem all_append {H:Type} (l r:List (DataW H)):Rows.uptoBulkAll (l++r)=Rows.uptoBulkAll l+Rows.uptoBulkAll r:=by
 induction l with
 | nil=>simp [Rows.uptoBulkAll]
 | cons x l ih=>simp only [List.cons_append,Rows.uptoBulkAll,ih];omega
theorem sV {H:Type} (l:List (DataW H)):l.length≤Rows.uptoBulkAll l:=by
 induction l with
 | nil=>simp [Rows.uptoBulkAll]
 | cons x r ih=>have:=sX x;simp only [Rows.uptoBulkAll,List.length_cons];omega
theorem rK (H:Type):Bulk (H:=H) Rows.uptoBulk where
 str b:=by simp [Rows.uptoBulk]
 len e s:=by have:=sV e;simp only [Rows.uptoBulk];omega
 elem e s d h:=by have:=dT h;simp only [Rows.uptoBulk];omega
 part ps d h:=by have:=dT h;simp only [Rows.uptoBulk];omega
theorem mZ {H:Type} {ds gs:List (DataW H)} (hk:Rows.uptoSmall H (ds++gs)=true):∀ d∈ds,Rows.uptoBulk d≤1048576:=fun d hd=>by
 have h1:Rows.uptoBulkAll (ds++gs)≤1048576:=by simpa [Rows.uptoSmall] using hk
 rw [all_append] at h1;have:=dT hd;omega
theorem own:ownKnob Tryz.prog.godebug=none:=by kernel_rfl
theorem ra:laidOutB Tryz.prog=true:=by kernel_rfl
def lH (P:Program) (l:List TypeId):Bool:=l.all fun t=>(DX P 40 CQ t&&(AN P t).isSome)&&(P.readableRec t&&Nat.blt t P.types.size)
theorem jY {l:List TypeId} (h:lH Tryz.prog l=true):∀ t∈l,(DX Tryz.prog 40 CQ t=true∧(AN Tryz.prog t).isSome=true)∧(Tryz.prog.readableRec t=true∧t<Tryz.prog.types.size):=fun t ht=>by
 have:=List.all_eq_true.1 h t ht;simp only [zzj] at this;exact ⟨this.1,this.2.1,of_eq_true (Nat.blt_eq▸eq_true this.2.2)⟩
def mT:Env:=fun f fns ls=>cond (Nat.beq f 6) (DW 4194304 ls) none
theorem sq:ZS Tryz.prog Tryz.f6.params.toList=some [.r [.i,.i,.i,.i,.i,.b,.u,.i,.i,.b]]:=by kernel_rfl
theorem tq:∀ l ls,JI Tryz.prog Tryz.f6.params.toList=some l→PVoks Tryz.prog 1048576 l ls→mT 6 [] ls=some [.bool true]:=by
 intro l ls hl hp;have k0:=oK hp;rw [lE sq hl] at k0;show DW 4194304 ls=_;obtain ⟨p0,ls,rfl,h0,q0,d0,k1⟩:=qZ k0;obtain rfl:=sO k1;exact W6 jo (by omega)
theorem ni (H : Type) (enc : TypeId × Value → H) (W : World) (base : Nat) (args : Array Value) (ds gs : List (DataW H)) (before : List MemPlace)
    (hval:∀ (j:Nat) t v,Tryz.f6.params[j]?=some t→args[j]?=some v→Value.okWide Tryz.prog W .any base t v)
    (hW:DataW.Whole enc Tryz.prog Tryz.f6.params.toList Rows.battingRatesSpec.vars false W args.toList ds gs before) (hk:Rows.uptoSmall H (ds++gs)=true) (hkp:Kept (E:=mT) (N:=4194304) Tryz.prog noB (fun _=>none) (AM []) W) :
    Calls Tryz.prog 6 args W fun e W'=>∃ v,e=.returned v∧Rows.battingRatesSpec.post enc Tryz.prog Tryz.f6 false true false false W args v W' :=
  pN (ci:=⟨6,[],true,true,[],[]⟩) (E:=mT) (N:=4194304) rfl rfl (vE WH (E:=mT) (M:=4194304) 4194304 fun _=>rfl).1 Tryz.func6 (tb:=4) (by kernel_rfl) (by kernel_rfl) ra
    (jY (by kernel_rfl)) rfl (fun ds h=>by
      have h:ds.length=1:=h.trans (by kernel_rfl)
      match ds,h with
      | [d1],_=>rfl) (rK H) tq hval hW (mZ hk) hkp
end Go.Proofs.YtejjoflbpnjohaaGreatDoor
