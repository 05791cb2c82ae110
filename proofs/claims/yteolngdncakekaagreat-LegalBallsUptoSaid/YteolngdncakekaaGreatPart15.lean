/- Part 15. -/
import Derived.Test.YteolngdncakekaaGreatPart12
import Derived.Test.YteolngdncakekaaGreatPart13
import Derived.Test.YteolngdncakekaaGreatPart14
import Derived.Test.YteolngdncakekaaGreatRows
import Derived.ProofKit
import Derived.OpenShut
import Derived.JoinedCond
set_option linter.unusedVariables false
set_option linter.unusedSimpArgs false
namespace Go.Proofs.YteolngdncakekaaGreat
open Go.Px Go.ChangeShapes Go.WideShapes Go.ChangeAt Go.RowKit
set_option maxRecDepth 100000
theorem jG {H:Type} (d:DataW H):1≤Rows.uptoBulk d:=by
 cases d with
 | lit l=>cases l<;>simp [Rows.uptoBulk]
 | nil=>simp [Rows.uptoBulk]
 | ptr d=>simp [Rows.uptoBulk]
 | slice elems spare=>simp [Rows.uptoBulk]
 | agg parts=>simp [Rows.uptoBulk]
 | iface t d=>simp [Rows.uptoBulk]
 | map entries=>simp [Rows.uptoBulk]
 | held h=>simp [Rows.uptoBulk]
theorem Xd {H:Type} {d:DataW H} {l:List (DataW H)} (h:d∈l):Rows.uptoBulk d≤Rows.uptoBulkAll l:=by
 induction l with
 | nil=>cases h
 | cons x r ih =>
  simp only [Rows.uptoBulkAll]
  cases List.mem_cons.1 h with
  | inl e=>subst e;omega
  | inr e=>have:=ih e;omega
theorem all_append {H:Type} (l r:List (DataW H)):Rows.uptoBulkAll (l++r)=Rows.uptoBulkAll l+Rows.uptoBulkAll r:=by
 induction l with
 | nil=>simp [Rows.uptoBulkAll]
 | cons x l ih=>simp only [List.cons_append,Rows.uptoBulkAll,ih];omega
theorem iv {H:Type} (l:List (DataW H)):l.length≤Rows.uptoBulkAll l:=by
 induction l with
 | nil=>simp [Rows.uptoBulkAll]
 | cons x r ih=>have:=jG x;simp only [Rows.uptoBulkAll,List.length_cons];omega
theorem gI (H:Type):Bulk (H:=H) Rows.uptoBulk where
 str b:=by simp [Rows.uptoBulk]
 len e s:=by have:=iv e;simp only [Rows.uptoBulk];omega
 elem e s d h:=by have:=Xd h;simp only [Rows.uptoBulk];omega
 part ps d h:=by have:=Xd h;simp only [Rows.uptoBulk];omega
theorem dZ {H:Type} {ds gs:List (DataW H)} (hk:Rows.uptoSmall H (ds++gs)=true):∀ d∈ds,Rows.uptoBulk d≤1048576:=fun d hd=>by
 have h1:Rows.uptoBulkAll (ds++gs)≤1048576:=by simpa [Rows.uptoSmall] using hk
 rw [all_append] at h1
 have:=Xd hd
 omega
theorem own:ownKnob Tryz.prog.godebug=none:=by kernel_rfl
theorem gp:laidOutB Tryz.prog=true:=by kernel_rfl
def bz (P:Program) (l:List TypeId):Bool:=l.all fun t=>(C8 P 40 CQ t&&(AQ P t).isSome)&&(P.readableRec t&&Nat.blt t P.types.size)
theorem aK {l:List TypeId} (h:bz Tryz.prog l=true):∀ t∈l,(C8 Tryz.prog 40 CQ t=true∧(AQ Tryz.prog t).isSome=true)∧(Tryz.prog.readableRec t=true∧t<Tryz.prog.types.size):=fun t ht=>by
 have:=List.all_eq_true.1 h t ht
 simp only [Bool.and_eq_true] at this
 exact ⟨this.1,this.2.1,of_eq_true (Nat.blt_eq▸eq_true this.2.2)⟩
def eV:Env:=fun f fns ls=>cond (Nat.beq f 6) (EN 4194304 ls) none
theorem hZ:VK Tryz.prog Tryz.f6.params.toList=some [.s,.i,.i,.i,.i,.i,.i,.i,.b,.i,.i,.i,.i,.r [.i,.i,.i],.u,.i,.b,.r [.i,.i,.i,.i,.i,.i,.i,.i,.i,.i,.i,.i,.i,.i,.r [.u],.i,.r [.i],.r [.i],.b,.r [.i],.b,.i,.i,.i,.r [.b],.i,.i,.u],.i,.i,.u,.i,.i,.u,.u,.i,.i,.i,.b,.u,.i,.i,.i,.b,.i]:=by kernel_rfl
theorem TY:∀ l ls,Hm Tryz.prog Tryz.f6.params.toList=some l→PVoks Tryz.prog 1048576 l ls→eV 6 [] ls=some [.bool true]:=by
 intro l ls hl hp
 have k0:=cz hp
 rw [cO hZ hl] at k0
 show EN 4194304 ls=_
 obtain ⟨p0,ls,rfl,h0,k1⟩:=ic k0
 obtain ⟨p1,ls,rfl,r1,k2⟩:=Ai k1
 obtain ⟨p2,ls,rfl,r2,k3⟩:=Ai k2
 obtain ⟨p3,ls,rfl,r3,k4⟩:=Ai k3
 obtain ⟨p4,ls,rfl,r4,k5⟩:=Ai k4
 obtain ⟨p5,ls,rfl,r5,k6⟩:=Ai k5
 obtain ⟨p6,ls,rfl,r6,k7⟩:=Ai k6
 obtain ⟨p7,ls,rfl,r7,k8⟩:=Ai k7
 obtain ⟨p8,ls,rfl,k9⟩:=N4 k8
 obtain ⟨p9,ls,rfl,r9,k10⟩:=Ai k9
 obtain ⟨p10,ls,rfl,r10,k11⟩:=Ai k10
 obtain ⟨p11,ls,rfl,r11,k12⟩:=Ai k11
 obtain ⟨p12,ls,rfl,r12,k13⟩:=Ai k12
 obtain ⟨p13,ls,rfl,h13,q13,d13,k14⟩:=LU k13
 obtain ⟨p14,ls,rfl,r14,k15⟩:=Tr k14
 obtain ⟨p15,ls,rfl,r15,k16⟩:=Ai k15
 obtain ⟨p16,ls,rfl,k17⟩:=N4 k16
 obtain ⟨p17,ls,rfl,h17,q17,d17,k18⟩:=LU k17
 obtain ⟨xs,rfl,fx⟩:=aw _ d17
 obtain ⟨p18,ls,rfl,r18,k19⟩:=Ai k18
 obtain ⟨p19,ls,rfl,r19,k20⟩:=Ai k19
 obtain ⟨p20,ls,rfl,r20,k21⟩:=Tr k20
 obtain ⟨p21,ls,rfl,r21,k22⟩:=Ai k21
 obtain ⟨p22,ls,rfl,r22,k23⟩:=Ai k22
 obtain ⟨p23,ls,rfl,r23,k24⟩:=Tr k23
 obtain ⟨p24,ls,rfl,r24,k25⟩:=Tr k24
 obtain ⟨p25,ls,rfl,r25,k26⟩:=Ai k25
 obtain ⟨p26,ls,rfl,r26,k27⟩:=Ai k26
 obtain ⟨p27,ls,rfl,r27,k28⟩:=Ai k27
 obtain ⟨p28,ls,rfl,k29⟩:=N4 k28
 obtain ⟨p29,ls,rfl,r29,k30⟩:=Tr k29
 obtain ⟨p30,ls,rfl,r30,k31⟩:=Ai k30
 obtain ⟨p31,ls,rfl,r31,k32⟩:=Ai k31
 obtain ⟨p32,ls,rfl,r32,k33⟩:=Ai k32
 obtain ⟨p33,ls,rfl,k34⟩:=N4 k33
 obtain ⟨p34,ls,rfl,r34,k35⟩:=Ai k34
 obtain rfl:=dg k35
 exact Uy ah (by omega) h0 r24 r29
theorem dy (H : Type) (enc : TypeId × Value → H) (W : World) (base : Nat) (args : Array Value) (ds gs : List (DataW H)) (before : List MemPlace)
    (hval:∀ (j:Nat) t v,Tryz.f6.params[j]?=some t→args[j]?=some v→Value.okWide Tryz.prog W .any base t v)
    (hW:DataW.Whole enc Tryz.prog Tryz.f6.params.toList Rows.legalBallsSpec.vars false W args.toList ds gs before) (hk:Rows.uptoSmall H (ds++gs)=true) :
    Calls Tryz.prog 6 args W fun e W'=>∃ v,e=.returned v∧Rows.legalBallsSpec.post enc Tryz.prog Tryz.f6 false true false false W args v W' :=
  eU (ci:=⟨6,[],true,true,[]⟩) (E:=eV) (N:=4194304) rfl rfl (vE VO (E:=eV) (M:=4194304) 4194304 fun _=>rfl).1 Tryz.func6 (tb:=4) (by kernel_rfl) (by kernel_rfl) gp
    (aK (by kernel_rfl)) rfl (fun ds h=>by
      have h:ds.length=2:=h.trans (by kernel_rfl)
      match ds,h with
      | [d1,d2],_=>rfl) (gI H) TY hval hW (dZ hk)
end Go.Proofs.YteolngdncakekaaGreat
