/- Part 19. -/
import Derived.Test.YtejjoflbpnjohaaGreatDoorPart16
import Derived.Test.YtejjoflbpnjohaaGreatDoorPart17
import Derived.Test.YtejjoflbpnjohaaGreatDoorPart18
import Derived.Test.YtejjoflbpnjohaaGreatDoorRows
import Derived.ProofKit
import Derived.OpenShut
import Derived.JoinedCond
set_option linter.unusedVariables false
set_option linter.unusedSimpArgs false
namespace Go.Proofs.YtejjoflbpnjohaaGreatDoor
open Go.Px Go.ChangeShapes Go.WideShapes Go.ChangeAt Go.RowKit
set_option maxRecDepth 100000
theorem wQ {H:Type} (d:DataW H):1≤Rows.uptoBulk d:=by
 cases d with
 | lit l=>cases l<;>simp [Rows.uptoBulk]
 | nil=>simp [Rows.uptoBulk]
 | ptr d=>simp [Rows.uptoBulk]
 | slice elems spare=>simp [Rows.uptoBulk]
 | agg parts=>simp [Rows.uptoBulk]
 | iface t d=>simp [Rows.uptoBulk]
 | map entries=>simp [Rows.uptoBulk]
 | held h=>simp [Rows.uptoBulk]
theorem ep {H:Type} {d:DataW H} {l:List (DataW H)} (h:d∈l):Rows.uptoBulk d≤Rows.uptoBulkAll l:=by
 induction l with
 | nil=>cases h
 | cons x r ih =>
  simp only [Rows.uptoBulkAll];cases List.mem_cons.1 h with
  | inl e=>subst e;omega
  | inr e=>have:=ih e;omega
theorem all_append {H:Type} (l r:List (DataW H)):Rows.uptoBulkAll (l++r)=Rows.uptoBulkAll l+Rows.uptoBulkAll r:=by
 induction l with
 | nil=>simp [Rows.uptoBulkAll]
 | cons x l ih=>simp only [List.cons_append,Rows.uptoBulkAll,ih];omega
theorem wN {H:Type} (l:List (DataW H)):l.length≤Rows.uptoBulkAll l:=by
 induction l with
 | nil=>simp [Rows.uptoBulkAll]
 | cons x r ih=>have:=wQ x;simp only [Rows.uptoBulkAll,List.length_cons];omega
theorem vb (H:Type):Bulk (H:=H) Rows.uptoBulk where
 str b:=by simp [Rows.uptoBulk]
 len e s:=by have:=wN e;simp only [Rows.uptoBulk];omega
 elem e s d h:=by have:=ep h;simp only [Rows.uptoBulk];omega
 part ps d h:=by have:=ep h;simp only [Rows.uptoBulk];omega
theorem pP {H:Type} {ds gs:List (DataW H)} (hk:Rows.uptoSmall H (ds++gs)=true):∀ d∈ds,Rows.uptoBulk d≤1048576:=fun d hd=>by
 have h1:Rows.uptoBulkAll (ds++gs)≤1048576:=by simpa [Rows.uptoSmall] using hk
 rw [all_append] at h1;have:=ep hd;omega
theorem own:ownKnob Tryz.prog.godebug=none:=by kernel_rfl
theorem vX:laidOutB Tryz.prog=true:=by kernel_rfl
def nY (P:Program) (l:List TypeId):Bool:=l.all fun t=>(D7 P 40 Cs t&&(AU P t).isSome)&&(P.readableRec t&&Nat.blt t P.types.size)
theorem lm {l:List TypeId} (h:nY Tryz.prog l=true):∀ t∈l,(D7 Tryz.prog 40 Cs t=true∧(AU Tryz.prog t).isSome=true)∧(Tryz.prog.readableRec t=true∧t<Tryz.prog.types.size):=fun t ht=>by
 have:=List.all_eq_true.1 h t ht;simp only [zzj] at this;exact ⟨this.1,this.2.1,of_eq_true (Nat.blt_eq▸eq_true this.2.2)⟩
def oH:Env:=fun f fns ls=>cond (Nat.beq f 7) (Dh 4194304 ls) none
theorem wc:aG Tryz.prog Tryz.f7.params.toList=some [.s,.i,.i,.i,.i,.i,.i,.i,.b,.i,.i,.i,.i,.r [.i,.i,.i],.r [.u,.i,.i,.i,.b,.i,.i,.u,.u,.i,.i,.i,.b,.u,.i,.i,.i,.b,.i]]:=by kernel_rfl
theorem xc:∀ l ls,Jx Tryz.prog Tryz.f7.params.toList=some l→PVoks Tryz.prog 1048576 l ls→oH 7 [] ls=some [.bool true]:=by
 intro l ls hl hp;have k0:=o9 hp;rw [nZ wc hl] at k0;show Dh 4194304 ls=_;obtain ⟨p0,ls,rfl,h0,k1⟩:=vj k0;obtain ⟨p1,ls,rfl,r1,k2⟩:=Jn k1;obtain ⟨p2,ls,rfl,r2,k3⟩:=Jn k2;obtain ⟨p3,ls,rfl,r3,k4⟩:=Jn k3;obtain ⟨p4,ls,rfl,r4,k5⟩:=Jn k4;obtain ⟨p5,ls,rfl,r5,k6⟩:=Jn k5;obtain ⟨p6,ls,rfl,r6,k7⟩:=Jn k6;obtain ⟨p7,ls,rfl,r7,k8⟩:=Jn k7;obtain ⟨p8,ls,rfl,k9⟩:=vA k8;obtain ⟨p9,ls,rfl,r9,k10⟩:=Jn k9;obtain ⟨p10,ls,rfl,r10,k11⟩:=Jn k10;obtain ⟨p11,ls,rfl,r11,k12⟩:=Jn k11;obtain ⟨p12,ls,rfl,r12,k13⟩:=Jn k12;obtain ⟨p13,ls,rfl,h13,q13,d13,k14⟩:=mZ k13;obtain ⟨p14,ls,rfl,h14,q14,d14,k15⟩:=mZ k14;obtain rfl:=wV k15;exact Wk lS (by omega) h0 h13
theorem qX (H : Type) (enc : TypeId × Value → H) (W : World) (base : Nat) (args : Array Value) (ds gs : List (DataW H)) (before : List MemPlace)
    (hval:∀ (j:Nat) t v,Tryz.f7.params[j]?=some t→args[j]?=some v→Value.okWide Tryz.prog W .any base t v)
    (hW:DataW.Whole enc Tryz.prog Tryz.f7.params.toList Rows.battingAddsUpSpec.vars false W args.toList ds gs before) (hk:Rows.uptoSmall H (ds++gs)=true) (hkp:Kept (E:=oH) (N:=4194304) Tryz.prog noB (fun _=>none) (AR []) W) :
    Calls Tryz.prog 7 args W fun e W'=>∃ v,e=.returned v∧Rows.battingAddsUpSpec.post enc Tryz.prog Tryz.f7 false true false false W args v W' :=
  rX (ci:=⟨7,[],true,true,[],[]⟩) (E:=oH) (N:=4194304) rfl rfl (vE Wy (E:=oH) (M:=4194304) 4194304 fun _=>rfl).1 Tryz.func7 (tb:=4) (by kernel_rfl) (by kernel_rfl) vX
    (lm (by kernel_rfl)) rfl (fun ds h=>by
      have h:ds.length=2:=h.trans (by kernel_rfl)
      match ds,h with
      | [d1,d2],_=>rfl) (vb H) xc hval hW (pP hk) hkp
end Go.Proofs.YtejjoflbpnjohaaGreatDoor
