/- Part 17. -/
import Derived.Test.YtefmhiojnbekpaaGreatDoorPart14
import Derived.Test.YtefmhiojnbekpaaGreatDoorPart15
import Derived.Test.YtefmhiojnbekpaaGreatDoorPart16
import Derived.Test.YtefmhiojnbekpaaGreatDoorRows
import Derived.ProofKit
import Derived.OpenShut
import Derived.JoinedCond
set_option linter.unusedVariables false
set_option linter.unusedSimpArgs false
namespace Go.Proofs.YtefmhiojnbekpaaGreatDoor
open Go.Px Go.ChangeShapes Go.WideShapes Go.ChangeAt Go.RowKit
set_option maxRecDepth 100000
theorem oq {H:Type} (d:DataW H):1≤Rows.uptoBulk d:=by
 cases d with
 | lit l=>cases l<;>simp [Rows.uptoBulk]
 | nil=>simp [Rows.uptoBulk]
 | ptr d=>simp [Rows.uptoBulk]
 | slice elems spare=>simp [Rows.uptoBulk]
 | agg parts=>simp [Rows.uptoBulk]
 | iface t d=>simp [Rows.uptoBulk]
 | map entries=>simp [Rows.uptoBulk]
 | held h=>simp [Rows.uptoBulk]
theorem ai {H:Type} {d:DataW H} {l:List (DataW H)} (h:d∈l):Rows.uptoBulk d≤Rows.uptoBulkAll l:=by
 induction l with
 | nil=>cases h
 | cons x r ih =>
  simp only [Rows.uptoBulkAll];cases List.mem_cons.1 h with
  | inl e=>subst e;omega
  | inr e=>have:=ih e;omega
theorem all_append {H:Type} (l r:List (DataW H)):Rows.uptoBulkAll (l++r)=Rows.uptoBulkAll l+Rows.uptoBulkAll r:=by
 induction l with
 | nil=>simp [Rows.uptoBulkAll]
 | cons x l ih=>simp only [List.cons_append,Rows.uptoBulkAll,ih];omega
theorem oD {H:Type} (l:List (DataW H)):l.length≤Rows.uptoBulkAll l:=by
 induction l with
 | nil=>simp [Rows.uptoBulkAll]
 | cons x r ih=>have:=oq x;simp only [Rows.uptoBulkAll,List.length_cons];omega
theorem nA (H:Type):Bulk (H:=H) Rows.uptoBulk where
 str b:=by simp [Rows.uptoBulk]
 len e s:=by have:=oD e;simp only [Rows.uptoBulk];omega
 elem e s d h:=by have:=ai h;simp only [Rows.uptoBulk];omega
 part ps d h:=by have:=ai h;simp only [Rows.uptoBulk];omega
theorem jv {H:Type} {ds gs:List (DataW H)} (hk:Rows.uptoSmall H (ds++gs)=true):∀ d∈ds,Rows.uptoBulk d≤1048576:=fun d hd=>by
 have h1:Rows.uptoBulkAll (ds++gs)≤1048576:=by simpa [Rows.uptoSmall] using hk
 rw [all_append] at h1;have:=ai hd;omega
theorem own:ownKnob Tryz.prog.godebug=none:=by kernel_rfl
theorem nW:laidOutB Tryz.prog=true:=by kernel_rfl
def iS (P:Program) (l:List TypeId):Bool:=l.all fun t=>(C9 P 40 B8 t&&(AM P t).isSome)&&(P.readableRec t&&Nat.blt t P.types.size)
theorem gW {l:List TypeId} (h:iS Tryz.prog l=true):∀ t∈l,(C9 Tryz.prog 40 B8 t=true∧(AM Tryz.prog t).isSome=true)∧(Tryz.prog.readableRec t=true∧t<Tryz.prog.types.size):=fun t ht=>by
 have:=List.all_eq_true.1 h t ht;simp only [Bool.and_eq_true] at this;exact ⟨this.1,this.2.1,of_eq_true (Nat.blt_eq▸eq_true this.2.2)⟩
def jW:Env:=fun f fns ls=>cond (Nat.beq f 3) (C6 4194304 ls) none
theorem oA:X8 Tryz.prog Tryz.f3.params.toList=some [.r [.i,.i,.i,.i,.i,.i,.i],.i]:=by kernel_rfl
theorem pW:∀ l ls,IA Tryz.prog Tryz.f3.params.toList=some l→PVoks Tryz.prog 1048576 l ls→jW 3 [] ls=some [.bool true]:=by
 intro l ls hl hp;have k0:=jm hp;rw [iJ oA hl] at k0;show C6 4194304 ls=_;obtain ⟨p0,ls,rfl,h0,q0,d0,k1⟩:=nn k0;obtain ⟨p1,ls,rfl,r1,k2⟩:=om k1;obtain rfl:=oF k2;exact VH gm (by omega)
theorem jy (H : Type) (enc : TypeId × Value → H) (W : World) (base : Nat) (args : Array Value) (ds gs : List (DataW H)) (before : List MemPlace)
    (hval:∀ (j:Nat) t v,Tryz.f3.params[j]?=some t→args[j]?=some v→Value.okWide Tryz.prog W .any base t v)
    (hW:DataW.Whole enc Tryz.prog Tryz.f3.params.toList Rows.bowlingTextsSpec.vars false W args.toList ds gs before) (hk:Rows.uptoSmall H (ds++gs)=true) (hkp:Kept (E:=jW) (N:=4194304) Tryz.prog noB (fun _=>none) (AL []) W) :
    Calls Tryz.prog 3 args W fun e W'=>∃ v,e=.returned v∧Rows.bowlingTextsSpec.post enc Tryz.prog Tryz.f3 false true false false W args v W' :=
  lU (ci:=⟨3,[],true,true,[],[]⟩) (E:=jW) (N:=4194304) rfl rfl (vE V2 (E:=jW) (M:=4194304) 4194304 fun _=>rfl).1 Tryz.func3 (tb:=4) (by kernel_rfl) (by kernel_rfl) nW
    (gW (by kernel_rfl)) rfl (fun ds h=>by
      have h:ds.length=2:=h.trans (by kernel_rfl)
      match ds,h with
      | [d1,d2],_=>rfl) (nA H) pW hval hW (jv hk) hkp
end Go.Proofs.YtefmhiojnbekpaaGreatDoor
