/- Part 15. -/
import Derived.Test.YteolngdncakekaaGreatPart12
import Derived.Test.YteolngdncakekaaGreatPart13
import Derived.Test.YteolngdncakekaaGreatPart14
import Derived.Test.YteolngdncakekaaGreatRows
import Derived.ProofKit
import Derived.OpenShut
import Derived.JoinedCond
set_option linter.unusedVariables false
set_option linter.unusedSimpArgs false
namespace Go.Proofs.YteolngdncakekaaGreat
open Go.Px Go.ChangeShapes Go.WideShapes Go.ChangeAt Go.RowKit
set_option maxRecDepth 100000
theorem dj {H:Type} (d:DataW H):1≤Rows.uptoBulk d:=by
 cases d with
 | lit l=>cases l<;>simp [Rows.uptoBulk]
 | nil=>simp [Rows.uptoBulk]
 | ptr d=>simp [Rows.uptoBulk]
 | slice elems spare=>simp [Rows.uptoBulk]
 | agg parts=>simp [Rows.uptoBulk]
 | iface t d=>simp [Rows.uptoBulk]
 | map entries=>simp [Rows.uptoBulk]
 | held h=>simp [Rows.uptoBulk]
theorem Ve {H:Type} {d:DataW H} {l:List (DataW H)} (h:d∈l):Rows.uptoBulk d≤Rows.uptoBulkAll l:=by
 induction l with
 | nil=>cases h
 | cons x r ih =>
  simp only [Rows.uptoBulkAll]
  cases List.mem_cons.1 h with
  | inl e=>subst e;omega
  | inr e=>have:=ih e;omega
theorem all_append {H:Type} (l r:List (DataW H)):Rows.uptoBulkAll (l++r)=Rows.uptoBulkAll l+Rows.uptoBulkAll r:=by
 induction l with
 | nil=>simp [Rows.uptoBulkAll]
 | cons x l ih=>simp only [List.cons_append,Rows.uptoBulkAll,ih];omega
theorem dn {H:Type} (l:List (DataW H)):l.length≤Rows.uptoBulkAll l:=by
 induction l with
 | nil=>simp [Rows.uptoBulkAll]
 | cons x r ih=>have:=dj x;simp only [Rows.uptoBulkAll,List.length_cons];omega
theorem dU (H:Type):Bulk (H:=H) Rows.uptoBulk where
 str b:=by simp [Rows.uptoBulk]
 len e s:=by have:=dn e;simp only [Rows.uptoBulk];omega
 elem e s d h:=by have:=Ve h;simp only [Rows.uptoBulk];omega
 part ps d h:=by have:=Ve h;simp only [Rows.uptoBulk];omega
theorem Z8 {H:Type} {ds gs:List (DataW H)} (hk:Rows.uptoSmall H (ds++gs)=true):∀ d∈ds,Rows.uptoBulk d≤1048576:=fun d hd=>by
 have h1:Rows.uptoBulkAll (ds++gs)≤1048576:=by simpa [Rows.uptoSmall] using hk
 rw [all_append] at h1
 have:=Ve hd
 omega
theorem own:ownKnob Tryz.prog.godebug=none:=by kernel_rfl
theorem dM:laidOutB Tryz.prog=true:=by kernel_rfl
def Zm (P:Program) (l:List TypeId):Bool:=l.all fun t=>(Cl P 40 B4 t&&(AO P t).isSome)&&(P.readableRec t&&Nat.blt t P.types.size)
theorem Yo {l:List TypeId} (h:Zm Tryz.prog l=true):∀ t∈l,(Cl Tryz.prog 40 B4 t=true∧(AO Tryz.prog t).isSome=true)∧(Tryz.prog.readableRec t=true∧t<Tryz.prog.types.size):=fun t ht=>by
 have:=List.all_eq_true.1 h t ht
 simp only [Bool.and_eq_true] at this
 exact ⟨this.1,this.2.1,of_eq_true (Nat.blt_eq▸eq_true this.2.2)⟩
def bW:Env:=fun f fns ls=>cond (Nat.beq f 4) (Fx 4194304 ls) none
theorem dl:Th Tryz.prog Tryz.f4.params.toList=some [.u,.u]:=by kernel_rfl
theorem RU:∀ l ls,HN Tryz.prog Tryz.f4.params.toList=some l→PVoks Tryz.prog 1048576 l ls→bW 4 [] ls=some [.bool true]:=by
 intro l ls hl hp
 have k0:=bG hp
 rw [Zy dl hl] at k0
 show Fx 4194304 ls=_
 obtain ⟨p0,ls,rfl,r0,k1⟩:=cO k0
 obtain ⟨p1,ls,rfl,r1,k2⟩:=cO k1
 obtain rfl:=eB k2
 exact To Yk r0 r1
theorem aK (H : Type) (enc : TypeId × Value → H) (W : World) (base : Nat) (args : Array Value) (ds gs : List (DataW H)) (before : List MemPlace)
    (hval:∀ (j:Nat) t v,Tryz.f4.params[j]?=some t→args[j]?=some v→Value.okWide Tryz.prog W .any base t v)
    (hW:DataW.Whole enc Tryz.prog Tryz.f4.params.toList Rows.legalNamesSpec.vars false W args.toList ds gs before) (hk:Rows.uptoSmall H (ds++gs)=true) :
    Calls Tryz.prog 4 args W fun e W'=>∃ v,e=.returned v∧Rows.legalNamesSpec.post enc Tryz.prog Tryz.f4 false true false false W args v W' :=
  bQ (ci:=⟨4,[],true,true,[]⟩) (E:=bW) (N:=4194304) rfl rfl (vE Tl (E:=bW) (M:=4194304) 4194304 fun _=>rfl).1 Tryz.func4 (tb:=4) (by kernel_rfl) (by kernel_rfl) dM
    (Yo (by kernel_rfl)) rfl (fun ds h=>by
      have h:ds.length=2:=h.trans (by kernel_rfl)
      match ds,h with
      | [d1,d2],_=>rfl) (dU H) RU hval hW (Z8 hk)
end Go.Proofs.YteolngdncakekaaGreat
