/- Part 17. -/
import Derived.Test.YtfelmmkjeicgoaaGreatDoorPart16
import Derived.Test.YtfelmmkjeicgoaaGreatDoorPart12
import Derived.Test.YtfelmmkjeicgoaaGreatDoorPart14
import Derived.Test.YtfelmmkjeicgoaaGreatDoorPart15
import Derived.Test.YtfelmmkjeicgoaaGreatDoorRows
import Derived.ProofKit
import Derived.OpenShut
import Derived.JoinedCond
set_option linter.unusedVariables false
set_option linter.unusedSimpArgs false
namespace Go.Proofs.YtfelmmkjeicgoaaGreatDoor
open Go.Px Go.ChangeShapes Go.WideShapes Go.ChangeAt Go.RowKit
set_option maxRecDepth 100000
theorem Zi {H:Type} (d:DataW H):1≤Rows.uptoBulk d:=by
 cases d with
 | lit l=>cases l<;>simp [Rows.uptoBulk]
 | nil=>simp [Rows.uptoBulk]
 | ptr d=>simp [Rows.uptoBulk]
 | slice elems spare=>simp [Rows.uptoBulk]
 | agg parts=>simp [Rows.uptoBulk]
 | iface t d=>simp [Rows.uptoBulk]
 | map entries=>simp [Rows.uptoBulk]
 | held h=>simp [Rows.uptoBulk]
theorem SR {H:Type} {d:DataW H} {l:List (DataW H)} (h:d∈l):Rows.uptoBulk d≤Rows.uptoBulkAll l:=by
 induction l with
 | nil=>cases h
 | cons x r ih =>
  simp only [Rows.uptoBulkAll];cases List.mem_cons.1 h with
  | inl e=>subst e;omega
  | inr e=>have:=ih e;omega
theorem all_append {H:Type} (l r:List (DataW H)):Rows.uptoBulkAll (l++r)=Rows.uptoBulkAll l+Rows.uptoBulkAll r:=by
 induction l with
 | nil=>simp [Rows.uptoBulkAll]
 | cons x l ih=>simp only [List.cons_append,Rows.uptoBulkAll,ih];omega
theorem ZR {H:Type} (l:List (DataW H)):l.length≤Rows.uptoBulkAll l:=by
 induction l with
 | nil=>simp [Rows.uptoBulkAll]
 | cons x r ih=>have:=Zi x;simp only [Rows.uptoBulkAll,List.length_cons];omega
theorem Yv (H:Type):Bulk (H:=H) Rows.uptoBulk where
 str b:=by simp [Rows.uptoBulk]
 len e s:=by have:=ZR e;simp only [Rows.uptoBulk];omega
 elem e s d h:=by have:=SR h;simp only [Rows.uptoBulk];omega
 part ps d h:=by have:=SR h;simp only [Rows.uptoBulk];omega
theorem Wy {H:Type} {ds gs:List (DataW H)} (hk:Rows.uptoSmall H (ds++gs)=true):∀ d∈ds,Rows.uptoBulk d≤1048576:=fun d hd=>by
 have h1:Rows.uptoBulkAll (ds++gs)≤1048576:=by simpa [Rows.uptoSmall] using hk
 rw [all_append] at h1;have:=SR hd;omega
theorem own:ownKnob Tryz.prog.godebug=none:=by kernel_rfl
theorem Yy:laidOutB Tryz.prog=true:=by kernel_rfl
def V9 (P:Program) (l:List TypeId):Bool:=l.all fun t=>(B8 P 40 BS t&&(AK P t).isSome)&&(P.readableRec t&&Nat.blt t P.types.size)
theorem Vg {l:List TypeId} (h:V9 Tryz.prog l=true):∀ t∈l,(B8 Tryz.prog 40 BS t=true∧(AK Tryz.prog t).isSome=true)∧(Tryz.prog.readableRec t=true∧t<Tryz.prog.types.size):=fun t ht=>by
 have:=List.all_eq_true.1 h t ht;simp only [Bool.and_eq_true] at this;exact ⟨this.1,this.2.1,of_eq_true (Nat.blt_eq▸eq_true this.2.2)⟩
def Wm:Env:=fun f fns ls=>cond (Nat.beq f 3) (CQ 4194304 ls) none
theorem Zh:Qb Tryz.prog Tryz.f3.params.toList=some [.s,.i,.i,.i,.i,.i,.i,.i,.b,.i,.i,.i,.i,.r [.i,.i,.i],.u,.i,.b,.r [.i,.i,.i,.i,.i,.i,.i,.i,.i,.i,.i,.i,.i,.i,.r [.u],.i,.r [.i],.r [.i],.b,.r [.i],.b,.i,.i,.i,.r [.b],.i,.i,.u],.i,.i,.u,.i,.i]:=by kernel_rfl
theorem Z7:∀ l ls,EW Tryz.prog Tryz.f3.params.toList=some l→PVoks Tryz.prog 1048576 l ls→Wm 3 [] ls=some [.bool true]:=by
 intro l ls hl hp;have k0:=XU hp;rw [WA Zh hl] at k0;show CQ 4194304 ls=_;obtain ⟨p0,ls,rfl,h0,k1⟩:=ZY k0;obtain ⟨p1,ls,rfl,r1,k2⟩:=Af k1;obtain ⟨p2,ls,rfl,r2,k3⟩:=Af k2;obtain ⟨p3,ls,rfl,r3,k4⟩:=Af k3;obtain ⟨p4,ls,rfl,r4,k5⟩:=Af k4;obtain ⟨p5,ls,rfl,r5,k6⟩:=Af k5;obtain ⟨p6,ls,rfl,r6,k7⟩:=Af k6;obtain ⟨p7,ls,rfl,r7,k8⟩:=Af k7;obtain ⟨p8,ls,rfl,k9⟩:=PG k8;obtain ⟨p9,ls,rfl,r9,k10⟩:=Af k9;obtain ⟨p10,ls,rfl,r10,k11⟩:=Af k10;obtain ⟨p11,ls,rfl,r11,k12⟩:=Af k11;obtain ⟨p12,ls,rfl,r12,k13⟩:=Af k12;obtain ⟨p13,ls,rfl,h13,q13,d13,k14⟩:=HA k13;obtain ⟨p14,ls,rfl,r14,k15⟩:=WS k14;obtain ⟨p15,ls,rfl,r15,k16⟩:=Af k15;obtain ⟨p16,ls,rfl,k17⟩:=PG k16;obtain ⟨p17,ls,rfl,h17,q17,d17,k18⟩:=HA k17;obtain ⟨xs,rfl,fx⟩:=Vy _ d17;obtain ⟨p18,ls,rfl,r18,k19⟩:=Af k18;obtain ⟨p19,ls,rfl,r19,k20⟩:=Af k19;obtain ⟨p20,ls,rfl,r20,k21⟩:=WS k20;obtain ⟨p21,ls,rfl,r21,k22⟩:=Af k21;obtain ⟨p22,ls,rfl,r22,k23⟩:=Af k22;obtain rfl:=Xl k23;exact PX YI (by omega) h0 r21 r22
theorem W6 (H : Type) (enc : TypeId × Value → H) (W : World) (base : Nat) (args : Array Value) (ds gs : List (DataW H)) (before : List MemPlace)
    (hval:∀ (j:Nat) t v,Tryz.f3.params[j]?=some t→args[j]?=some v→Value.okWide Tryz.prog W .any base t v)
    (hW:DataW.Whole enc Tryz.prog Tryz.f3.params.toList Rows.matchCountsSpec.vars false W args.toList ds gs before) (hk:Rows.uptoSmall H (ds++gs)=true) (hkp:Kept (E:=Wm) (N:=4194304) Tryz.prog noB (fun _=>none) (AG []) W) :
    Calls Tryz.prog 3 args W fun e W'=>∃ v,e=.returned v∧Rows.matchCountsSpec.post enc Tryz.prog Tryz.f3 false true false false W args v W' :=
  X0 (ci:=⟨3,[],true,true,[],[]⟩) (E:=Wm) (N:=4194304) rfl rfl (vE Pk (E:=Wm) (M:=4194304) 4194304 fun _=>rfl).1 Tryz.func3 (tb:=4) (by kernel_rfl) (by kernel_rfl) Yy
    (Vg (by kernel_rfl)) rfl (fun ds h=>by
      have h:ds.length=1:=h.trans (by kernel_rfl)
      match ds,h with
      | [d1],_=>rfl) (Yv H) Z7 hval hW (Wy hk) hkp
end Go.Proofs.YtfelmmkjeicgoaaGreatDoor
