/- Part 17. -/
import Derived.Test.YteolngdncakekaaGreatPart14
import Derived.Test.YteolngdncakekaaGreatPart15
import Derived.Test.YteolngdncakekaaGreatPart16
import Derived.Test.YteolngdncakekaaGreatRows
import Derived.ProofKit
import Derived.OpenShut
import Derived.JoinedCond
set_option linter.unusedVariables false
set_option linter.unusedSimpArgs false
namespace Go.Proofs.YteolngdncakekaaGreat
open Go.Px Go.ChangeShapes Go.WideShapes Go.ChangeAt Go.RowKit
set_option maxRecDepth 100000
theorem yh {H:Type} (d:DataW H):1≤Rows.uptoBulk d:=by
 cases d with
 | lit l=>cases l<;>simp [Rows.uptoBulk]
 | nil=>simp [Rows.uptoBulk]
 | ptr d=>simp [Rows.uptoBulk]
 | slice elems spare=>simp [Rows.uptoBulk]
 | agg parts=>simp [Rows.uptoBulk]
 | iface t d=>simp [Rows.uptoBulk]
 | map entries=>simp [Rows.uptoBulk]
 | held h=>simp [Rows.uptoBulk]
theorem lD {H:Type} {d:DataW H} {l:List (DataW H)} (h:d∈l):Rows.uptoBulk d≤Rows.uptoBulkAll l:=by
 induction l with
 | nil=>cases h
 | cons x r ih =>
  simp only [Rows.uptoBulkAll]
  cases List.mem_cons.1 h with
  | inl e=>subst e;omega
  | inr e=>have:=ih e;omega
theorem all_append {H:Type} (l r:List (DataW H)):Rows.uptoBulkAll (l++r)=Rows.uptoBulkAll l+Rows.uptoBulkAll r:=by
 induction l with
 | nil=>simp [Rows.uptoBulkAll]
 | cons x l ih=>simp only [List.cons_append,Rows.uptoBulkAll,ih];omega
theorem yL {H:Type} (l:List (DataW H)):l.length≤Rows.uptoBulkAll l:=by
 induction l with
 | nil=>simp [Rows.uptoBulkAll]
 | cons x r ih=>have:=yh x;simp only [Rows.uptoBulkAll,List.length_cons];omega
theorem xh (H:Type):Bulk (H:=H) Rows.uptoBulk where
 str b:=by simp [Rows.uptoBulk]
 len e s:=by have:=yL e;simp only [Rows.uptoBulk];omega
 elem e s d h:=by have:=lD h;simp only [Rows.uptoBulk];omega
 part ps d h:=by have:=lD h;simp only [Rows.uptoBulk];omega
theorem uJ {H:Type} {ds gs:List (DataW H)} (hk:Rows.uptoSmall H (ds++gs)=true):∀ d∈ds,Rows.uptoBulk d≤1048576:=fun d hd=>by
 have h1:Rows.uptoBulkAll (ds++gs)≤1048576:=by simpa [Rows.uptoSmall] using hk
 rw [all_append] at h1
 have:=lD hd
 omega
theorem own:ownKnob Tryz.prog.godebug=none:=by kernel_rfl
theorem xj:laidOutB Tryz.prog=true:=by kernel_rfl
def rm (P:Program) (l:List TypeId):Bool:=l.all fun t=>(EB P 40 C8 t&&(AX P t).isSome)&&(P.readableRec t&&Nat.blt t P.types.size)
theorem qp {l:List TypeId} (h:rm Tryz.prog l=true):∀ t∈l,(EB Tryz.prog 40 C8 t=true∧(AX Tryz.prog t).isSome=true)∧(Tryz.prog.readableRec t=true∧t<Tryz.prog.types.size):=fun t ht=>by
 have:=List.all_eq_true.1 h t ht
 simp only [Bool.and_eq_true] at this
 exact ⟨this.1,this.2.1,of_eq_true (Nat.blt_eq▸eq_true this.2.2)⟩
def wJ:Env:=fun f fns ls=>cond (Nat.beq f 7) (Dw 4194304 ls) none
theorem yY:gt Tryz.prog Tryz.f7.params.toList=some [.s,.i,.i,.i,.i,.i,.i,.i,.b,.i,.i,.i,.i,.r [.i,.i,.i],.u,.i,.b,.r [.i,.i,.i,.i,.i,.i,.i,.i,.i,.i,.i,.i,.i,.i,.r [.u],.i,.r [.i],.r [.i],.b,.r [.i],.b,.i,.i,.i,.r [.b],.i,.i,.u],.i,.i,.u,.i,.i,.u,.i]:=by kernel_rfl
theorem ZJ:∀ l ls,Jk Tryz.prog Tryz.f7.params.toList=some l→PVoks Tryz.prog 1048576 l ls→wJ 7 [] ls=some [.bool true]:=by
 intro l ls hl hp
 have k0:=u7 hp
 rw [tI yY hl] at k0
 show Dw 4194304 ls=_
 obtain ⟨p0,ls,rfl,h0,k1⟩:=yl k0
 obtain ⟨p1,ls,rfl,r1,k2⟩:=A6 k1
 obtain ⟨p2,ls,rfl,r2,k3⟩:=A6 k2
 obtain ⟨p3,ls,rfl,r3,k4⟩:=A6 k3
 obtain ⟨p4,ls,rfl,r4,k5⟩:=A6 k4
 obtain ⟨p5,ls,rfl,r5,k6⟩:=A6 k5
 obtain ⟨p6,ls,rfl,r6,k7⟩:=A6 k6
 obtain ⟨p7,ls,rfl,r7,k8⟩:=A6 k7
 obtain ⟨p8,ls,rfl,k9⟩:=dL k8
 obtain ⟨p9,ls,rfl,r9,k10⟩:=A6 k9
 obtain ⟨p10,ls,rfl,r10,k11⟩:=A6 k10
 obtain ⟨p11,ls,rfl,r11,k12⟩:=A6 k11
 obtain ⟨p12,ls,rfl,r12,k13⟩:=A6 k12
 obtain ⟨p13,ls,rfl,h13,q13,d13,k14⟩:=P8 k13
 obtain ⟨p14,ls,rfl,r14,k15⟩:=nP k14
 obtain ⟨p15,ls,rfl,r15,k16⟩:=A6 k15
 obtain ⟨p16,ls,rfl,k17⟩:=dL k16
 obtain ⟨p17,ls,rfl,h17,q17,d17,k18⟩:=P8 k17
 obtain ⟨xs,rfl,fx⟩:=rT _ d17
 obtain ⟨p18,ls,rfl,r18,k19⟩:=A6 k18
 obtain ⟨p19,ls,rfl,r19,k20⟩:=A6 k19
 obtain ⟨p20,ls,rfl,r20,k21⟩:=nP k20
 obtain ⟨p21,ls,rfl,r21,k22⟩:=A6 k21
 obtain ⟨p22,ls,rfl,r22,k23⟩:=A6 k22
 obtain ⟨p23,ls,rfl,r23,k24⟩:=nP k23
 obtain ⟨p24,ls,rfl,r24,k25⟩:=A6 k24
 obtain rfl:=vM k25
 exact au qh (by omega) h0
theorem uq (H : Type) (enc : TypeId × Value → H) (W : World) (base : Nat) (args : Array Value) (ds gs : List (DataW H)) (before : List MemPlace)
    (hval:∀ (j:Nat) t v,Tryz.f7.params[j]?=some t→args[j]?=some v→Value.okWide Tryz.prog W .any base t v)
    (hW:DataW.Whole enc Tryz.prog Tryz.f7.params.toList Rows.legalAcceptsSpec.vars false W args.toList ds gs before) (hk:Rows.uptoSmall H (ds++gs)=true) :
    Calls Tryz.prog 7 args W fun e W'=>∃ v,e=.returned v∧Rows.legalAcceptsSpec.post enc Tryz.prog Tryz.f7 false true false false W args v W' :=
  vi (ci:=⟨7,[],true,true,[]⟩) (E:=wJ) (N:=4194304) rfl rfl (vE bK (E:=wJ) (M:=4194304) 4194304 fun _=>rfl).1 Tryz.func7 (tb:=4) (by kernel_rfl) (by kernel_rfl) xj
    (qp (by kernel_rfl)) rfl (fun ds h=>by
      have h:ds.length=3:=h.trans (by kernel_rfl)
      match ds,h with
      | [d1,d2,d3],_=>rfl) (xh H) ZJ hval hW (uJ hk)
end Go.Proofs.YteolngdncakekaaGreat
