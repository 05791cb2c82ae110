/- Part 20. -/
import Derived.Test.YtokmalmdcihogabGreatPart19
import Derived.Test.YtokmalmdcihogabGreatPart16
import Derived.Test.YtokmalmdcihogabGreatPart17
import Derived.Test.YtokmalmdcihogabGreatPart18
import Derived.Test.YtokmalmdcihogabGreatRows
import Derived.ProofKit
import Derived.OpenShut
import Derived.JoinedCond
set_option linter.unusedVariables false
set_option linter.unusedSimpArgs false
namespace Go.Proofs.YtokmalmdcihogabGreat
open Go.Px Go.ChangeShapes Go.WideShapes Go.ChangeAt Go.RowKit
set_option maxRecDepth 100000
theorem uA {H:Type} (d:DataW H):1≤Rows.uptoBulk d:=by
 cases d with
 | lit l=>cases l<;>simp [Rows.uptoBulk]
 | nil=>simp [Rows.uptoBulk]
 | ptr d=>simp [Rows.uptoBulk]
 | slice elems spare=>simp [Rows.uptoBulk]
 | agg parts=>simp [Rows.uptoBulk]
 | iface t d=>simp [Rows.uptoBulk]
 | map entries=>simp [Rows.uptoBulk]
 | held h=>simp [Rows.uptoBulk]
theorem dB {H:Type} {d:DataW H} {l:List (DataW H)} (h:d∈l):Rows.uptoBulk d≤Rows.uptoBulkAll l:=by
 induction l with
 | nil=>cases h
 | cons x r ih =>
  simp only [Rows.uptoBulkAll];cases List.mem_cons.1 h with
  | inl e=>subst e;omega
  | inr e=>have:=ih e;omega
theorem all_append {H:Type} (l r:List (DataW H)):Rows.uptoBulkAll (l++r)=Rows.uptoBulkAll l+Rows.uptoBulkAll r:=by
 induction l with
 | nil=>simp [Rows.uptoBulkAll]
 | cons x l ih=>simp only [List.cons_append,Rows.uptoBulkAll,ih];omega
theorem ta {H:Type} (l:List (DataW H)):l.length≤Rows.uptoBulkAll l:=by
 induction l with
 | nil=>simp [Rows.uptoBulkAll]
 | cons x r ih=>have:=uA x;simp only [Rows.uptoBulkAll,List.length_cons];omega
theorem rq (H:Type):Bulk (H:=H) Rows.uptoBulk where
 str b:=by simp [Rows.uptoBulk]
 len e s:=by have:=ta e;simp only [Rows.uptoBulk];omega
 elem e s d h:=by have:=dB h;simp only [Rows.uptoBulk];omega
 part ps d h:=by have:=dB h;simp only [Rows.uptoBulk];omega
theorem pY {H:Type} {ds gs:List (DataW H)} (hk:Rows.uptoSmall H (ds++gs)=true):∀ d∈ds,Rows.uptoBulk d≤1048576:=fun d hd=>by
 have h1:Rows.uptoBulkAll (ds++gs)≤1048576:=by simpa [Rows.uptoSmall] using hk
 rw [all_append] at h1;have:=dB hd;omega
theorem own:ownKnob Tryz.prog.godebug=none:=by kernel_rfl
theorem sI:laidOutB Tryz.prog=true:=by kernel_rfl
def nf (P:Program) (l:List TypeId):Bool:=l.all fun t=>(Dk P 40 Cb t&&(AM P t).isSome)&&(P.readableRec t&&Nat.blt t P.types.size)
theorem lJ {l:List TypeId} (h:nf Tryz.prog l=true):∀ t∈l,(Dk Tryz.prog 40 Cb t=true∧(AM Tryz.prog t).isSome=true)∧(Tryz.prog.readableRec t=true∧t<Tryz.prog.types.size):=fun t ht=>by
 have:=List.all_eq_true.1 h t ht;simp only [zzk] at this;exact ⟨this.1,this.2.1,of_eq_true (Nat.blt_eq▸eq_true this.2.2)⟩
def dT:Env:=fun f fns ls=>cond (Nat.beq f 3) (Ff 4194304 ls) none
theorem uJ (ls:List PV):dT 3 [] ls=Ff 4194304 ls:=by unfold dT;exact cond_true _ _
theorem uN:Zw Tryz.prog Tryz.f3.params.toList=some [.s,.i,.i,.i,.i,.i,.i,.i,.b,.i,.i,.i,.i,.r [.i,.i,.i],.r [.r [.u,.i,.i,.i,.b,.i,.i,.u,.u,.i,.i,.i,.b,.u,.i,.i,.i,.b,.i]],.u]:=by kernel_rfl
theorem vP:∀ l ls,Iw Tryz.prog Tryz.f3.params.toList=some l→PVoks Tryz.prog 1048576 l ls→dT 3 [] ls=some [.bool true]:=by
 intro l ls hl hp;have k0:=oJ hp;rw [mA uN hl] at k0;rw [uJ];obtain ⟨p0,ls,rfl,h0,k1⟩:=td k0;obtain ⟨p1,ls,rfl,r1,k2⟩:=JC k1;obtain ⟨p2,ls,rfl,r2,k3⟩:=JC k2;obtain ⟨p3,ls,rfl,r3,k4⟩:=JC k3;obtain ⟨p4,ls,rfl,r4,k5⟩:=JC k4;obtain ⟨p5,ls,rfl,r5,k6⟩:=JC k5;obtain ⟨p6,ls,rfl,r6,k7⟩:=JC k6;obtain ⟨p7,ls,rfl,r7,k8⟩:=JC k7;obtain ⟨p8,ls,rfl,k9⟩:=sP k8;obtain ⟨p9,ls,rfl,r9,k10⟩:=JC k9;obtain ⟨p10,ls,rfl,r10,k11⟩:=JC k10;obtain ⟨p11,ls,rfl,r11,k12⟩:=JC k11;obtain ⟨p12,ls,rfl,r12,k13⟩:=JC k12;obtain ⟨p13,ls,rfl,h13,q13,d13,k14⟩:=l8 k13;obtain ⟨p14,ls,rfl,h14,q14,d14,k15⟩:=l8 k14;obtain ⟨p15,ls,rfl,r15,k16⟩:=uw k15;obtain rfl:=tR k16;exact bQ qJ (by omega) h0 r15
theorem oO (H : Type) (enc : TypeId × Value → H) (W : World) (base : Nat) (args : Array Value) (ds gs : List (DataW H)) (before : List MemPlace)
    (hval:∀ (j:Nat) t v,Tryz.f3.params[j]?=some t→args[j]?=some v→Value.okWide Tryz.prog W .any base t v)
    (hW:DataW.Whole enc Tryz.prog Tryz.f3.params.toList Rows.topPointsSpec.vars false W args.toList ds gs before) (hk:Rows.uptoSmall H (ds++gs)=true) (hkp:Kept (E:=dT) (N:=4194304) Tryz.prog noB (fun _=>none) (AP []) W) :
    Calls Tryz.prog 3 args W fun e W'=>∃ v,e=.returned v∧Rows.topPointsSpec.post enc Tryz.prog Tryz.f3 false true false false W args v W' :=
  qx (ci:=⟨3,[],true,true,[],[]⟩) (E:=dT) (N:=4194304) rfl rfl (vE cf (E:=dT) (M:=4194304) 4194304 uJ).1 Tryz.func3 (tb:=4) (by kernel_rfl) (by kernel_rfl) sI
    (lJ (by kernel_rfl)) rfl (fun ds h=>by
      have h:ds.length=3:=h.trans (by kernel_rfl)
      match ds,h with
      | [d1,d2,d3],_=>rfl) (rq H) vP hval hW (pY hk) hkp
end Go.Proofs.YtokmalmdcihogabGreat
