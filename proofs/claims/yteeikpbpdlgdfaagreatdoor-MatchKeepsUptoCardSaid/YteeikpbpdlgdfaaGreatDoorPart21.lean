/- Part 21. -/
import Derived.Test.YteeikpbpdlgdfaaGreatDoorPart20
import Derived.Test.YteeikpbpdlgdfaaGreatDoorPart13
import Derived.Test.YteeikpbpdlgdfaaGreatDoorPart18
import Derived.Test.YteeikpbpdlgdfaaGreatDoorPart19
import Derived.Test.YteeikpbpdlgdfaaGreatDoorRows
import Derived.ProofKit
import Derived.OpenShut
import Derived.JoinedCond
set_option linter.unusedVariables false
set_option linter.unusedSimpArgs false
namespace Go.Proofs.YteeikpbpdlgdfaaGreatDoor
open Go.Px Go.ChangeShapes Go.WideShapes Go.ChangeAt Go.RowKit
set_option maxRecDepth 100000
theorem dQ {H:Type} (d:DataW H):1≤Rows.uptoBulk d:=by
 cases d with
 | lit l=>cases l<;>simp [Rows.uptoBulk]
 | nil=>simp [Rows.uptoBulk]
 | ptr d=>simp [Rows.uptoBulk]
 | slice elems spare=>simp [Rows.uptoBulk]
 | agg parts=>simp [Rows.uptoBulk]
 | iface t d=>simp [Rows.uptoBulk]
 | map entries=>simp [Rows.uptoBulk]
 | held h=>simp [Rows.uptoBulk]
theorem UB {H:Type} {d:DataW H} {l:List (DataW H)} (h:d∈l):Rows.uptoBulk d≤Rows.uptoBulkAll l:=by
 induction l with
 | nil=>cases h
 | cons x r ih =>
  simp only [Rows.uptoBulkAll];cases List.mem_cons.1 h with
  | inl e=>subst e;omega
  | inr e=>have:=ih e;omega
theorem all_append {H:Type} (l r:List (DataW H)):Rows.uptoBulkAll (l++r)=Rows.uptoBulkAll l+Rows.uptoBulkAll r:=by
 induction l with
 | nil=>simp [Rows.uptoBulkAll]
 | cons x l ih=>simp only [List.cons_append,Rows.uptoBulkAll,ih];omega
theorem dD {H:Type} (l:List (DataW H)):l.length≤Rows.uptoBulkAll l:=by
 induction l with
 | nil=>simp [Rows.uptoBulkAll]
 | cons x r ih=>have:=dQ x;simp only [Rows.uptoBulkAll,List.length_cons];omega
theorem cM (H:Type):Bulk (H:=H) Rows.uptoBulk where
 str b:=by simp [Rows.uptoBulk]
 len e s:=by have:=dD e;simp only [Rows.uptoBulk];omega
 elem e s d h:=by have:=UB h;simp only [Rows.uptoBulk];omega
 part ps d h:=by have:=UB h;simp only [Rows.uptoBulk];omega
theorem Zx {H:Type} {ds gs:List (DataW H)} (hk:Rows.uptoSmall H (ds++gs)=true):∀ d∈ds,Rows.uptoBulk d≤1048576:=fun d hd=>by
 have h1:Rows.uptoBulkAll (ds++gs)≤1048576:=by simpa [Rows.uptoSmall] using hk
 rw [all_append] at h1;have:=UB hd;omega
theorem own:ownKnob Tryz.prog.godebug=none:=by kernel_rfl
theorem cW:laidOutB Tryz.prog=true:=by kernel_rfl
def ZD (P:Program) (l:List TypeId):Bool:=l.all fun t=>(CQ P 40 Bh t&&(AM P t).isSome)&&(P.readableRec t&&Nat.blt t P.types.size)
theorem Xm {l:List TypeId} (h:ZD Tryz.prog l=true):∀ t∈l,(CQ Tryz.prog 40 Bh t=true∧(AM Tryz.prog t).isSome=true)∧(Tryz.prog.readableRec t=true∧t<Tryz.prog.types.size):=fun t ht=>by
 have:=List.all_eq_true.1 h t ht;simp only [zzk] at this;exact ⟨this.1,this.2.1,of_eq_true (Nat.blt_eq▸eq_true this.2.2)⟩
def UK:Env:=fun f fns ls=>cond (Nat.beq f 3) (Di 4194304 ls) none
theorem dn (ls:List PV):UK 3 [] ls=Di 4194304 ls:=by unfold UK;exact cond_true _ _
theorem dR:Rn Tryz.prog Tryz.f3.params.toList=some [.s,.i,.i,.i,.i,.i,.i,.i,.b,.i,.i,.i,.i,.r [.i,.i,.i],.u,.i,.b,.r [.i,.i,.i,.i,.i,.i,.i,.i,.i,.i,.i,.i,.i,.i,.r [.u],.i,.r [.i],.r [.i],.b,.r [.i],.b,.i,.i,.i,.r [.b],.i,.i,.u],.i,.i,.u,.i,.i]:=by kernel_rfl
theorem ep:∀ l ls,EK Tryz.prog Tryz.f3.params.toList=some l→PVoks Tryz.prog 1048576 l ls→UK 3 [] ls=some [.bool true]:=by
 intro l ls hl hp;have k0:=Zu hp;rw [Y3 dR hl] at k0;rw [dn];obtain ⟨p0,ls,rfl,h0,k1⟩:=de k0;obtain ⟨p1,ls,rfl,r1,k2⟩:=Ar k1;obtain ⟨p2,ls,rfl,r2,k3⟩:=Ar k2;obtain ⟨p3,ls,rfl,r3,k4⟩:=Ar k3;obtain ⟨p4,ls,rfl,r4,k5⟩:=Ar k4;obtain ⟨p5,ls,rfl,r5,k6⟩:=Ar k5;obtain ⟨p6,ls,rfl,r6,k7⟩:=Ar k6;obtain ⟨p7,ls,rfl,r7,k8⟩:=Ar k7;obtain ⟨p8,ls,rfl,k9⟩:=QZ k8;obtain ⟨p9,ls,rfl,r9,k10⟩:=Ar k9;obtain ⟨p10,ls,rfl,r10,k11⟩:=Ar k10;obtain ⟨p11,ls,rfl,r11,k12⟩:=Ar k11;obtain ⟨p12,ls,rfl,r12,k13⟩:=Ar k12;obtain ⟨p13,ls,rfl,h13,q13,d13,k14⟩:=Hc k13;obtain ⟨p14,ls,rfl,r14,k15⟩:=YX k14;obtain ⟨p15,ls,rfl,r15,k16⟩:=Ar k15;obtain ⟨p16,ls,rfl,k17⟩:=QZ k16;obtain ⟨p17,ls,rfl,h17,q17,d17,k18⟩:=Hc k17;obtain ⟨xs,rfl,fx⟩:=YA _ d17;obtain ⟨p18,ls,rfl,r18,k19⟩:=Ar k18;obtain ⟨p19,ls,rfl,r19,k20⟩:=Ar k19;obtain ⟨p20,ls,rfl,r20,k21⟩:=YX k20;obtain ⟨p21,ls,rfl,r21,k22⟩:=Ar k21;obtain ⟨p22,ls,rfl,r22,k23⟩:=Ar k22;obtain rfl:=aE k23;exact Zl aN (by omega) h0
theorem Za (H : Type) (enc : TypeId × Value → H) (W : World) (base : Nat) (args : Array Value) (ds gs : List (DataW H)) (before : List MemPlace)
    (hval:∀ (j:Nat) t v,Tryz.f3.params[j]?=some t→args[j]?=some v→Value.okWide Tryz.prog W .any base t v)
    (hW:DataW.Whole enc Tryz.prog Tryz.f3.params.toList Rows.matchKeepsSpec.vars false W args.toList ds gs before) (hk:Rows.uptoSmall H (ds++gs)=true) (hkp:Kept (E:=UK) (N:=4194304) Tryz.prog noB (fun _=>none) (AL []) W) :
    Calls Tryz.prog 3 args W fun e W'=>∃ v,e=.returned v∧Rows.matchKeepsSpec.post enc Tryz.prog Tryz.f3 false true false false W args v W' :=
  aK (ci:=⟨3,[],true,true,[],[]⟩) (E:=UK) (N:=4194304) rfl rfl (vE Rl (E:=UK) (M:=4194304) 4194304 dn).1 Tryz.func3 (tb:=4) (by kernel_rfl) (by kernel_rfl) cW
    (Xm (by kernel_rfl)) rfl (fun ds h=>by
      have h:ds.length=1:=h.trans (by kernel_rfl)
      match ds,h with
      | [d1],_=>rfl) (cM H) ep hval hW (Zx hk) hkp
end Go.Proofs.YteeikpbpdlgdfaaGreatDoor
