/- Part 20. -/
import Derived.Test.YtlephafgekoeaaaGreatPart17
import Derived.Test.YtlephafgekoeaaaGreatPart18
import Derived.Test.YtlephafgekoeaaaGreatPart19
import Derived.Test.YtlephafgekoeaaaGreatRows
import Derived.ProofKit
import Derived.OpenShut
import Derived.JoinedCond
set_option linter.unusedVariables false
set_option linter.unusedSimpArgs false
namespace Go.Proofs.YtlephafgekoeaaaGreat
open Go.Px Go.ChangeShapes Go.WideShapes Go.ChangeAt Go.RowKit
set_option maxRecDepth 100000
theorem AB9 {H:Type} (d:DataW H):1≤Rows.uptoBulk d:=by
 cases d with
 |lit l=>cases l<;>simp[Rows.uptoBulk]
 |nil=>simp[Rows.uptoBulk]
 |ptr d=>simp[Rows.uptoBulk]
 |slice elems spare=>simp[Rows.uptoBulk]
 |agg parts=>simp[Rows.uptoBulk]
 |iface t d=>simp[Rows.uptoBulk]
 |map entries=>simp[Rows.uptoBulk]
 |held h=>simp[Rows.uptoBulk]
theorem lN {H:Type} {d:DataW H} {l:List (DataW H)} (h:d∈l):Rows.uptoBulk d≤Rows.uptoBulkAll l:=by
 induction l with
 |nil=>cases h
 |cons x r ih =>
  simp only[Rows.uptoBulkAll];cases List.mem_cons.1 h with
  |inl e=>subst e;omega
  |inr e=>have:=ih e;omega
theorem all_append {H:Type} (l r:List (DataW H)):Rows.uptoBulkAll (l++r)=Rows.uptoBulkAll l+Rows.uptoBulkAll r:=by
 induction l with
 |nil=>simp[Rows.uptoBulkAll]
 |cons x l ih=>simp only[List.cons_append,Rows.uptoBulkAll,ih];omega
theorem AB4 {H:Type} (l:List (DataW H)):l.length≤Rows.uptoBulkAll l:=by
 induction l with
 |nil=>simp[Rows.uptoBulkAll]
 |cons x r ih=>have:=AB9 x;simp only[Rows.uptoBulkAll,List.length_cons];omega
theorem AA9 (H:Type):Bulk (H:=H) Rows.uptoBulk where
 str b:=by simp[Rows.uptoBulk]
 len e s:=by have:=AB4 e;simp only[Rows.uptoBulk];omega
 elem e s d h:=by have:=lN h;simp only[Rows.uptoBulk];omega
 part ps d h:=by have:=lN h;simp only[Rows.uptoBulk];omega
theorem yC {H:Type} {ds gs:List (DataW H)} (hk:Rows.uptoSmall H (ds++gs)=true):∀d∈ds,Rows.uptoBulk d≤1048576:=fun d hd=>by
 have h1:Rows.uptoBulkAll (ds++gs)≤1048576:=by simpa[Rows.uptoSmall] using hk
 rw[all_append]at h1;have:=lN hd;omega
theorem own:ownKnob Tryz.prog.godebug=none:=by kernel_rfl
theorem AA7:laidOutB Tryz.prog=true:=by kernel_rfl
def wF (P:Program) (l:List TypeId):Bool:=l.all fun t=>(Eh P 40 Dy t&&(AW P t).isSome)&&(P.readableRec t&&Nat.blt t P.types.size)
theorem se {l:List TypeId} (h:wF Tryz.prog l=true):∀t∈l,(Eh Tryz.prog 40 Dy t=true∧(AW Tryz.prog t).isSome=true)∧(Tryz.prog.readableRec t=true∧t<Tryz.prog.types.size):=fun t ht=>by
 have:=List.all_eq_true.1 h t ht;simp only[zzj]at this;exact⟨this.1,this.2.1,of_eq_true (Nat.blt_eq▸eq_true this.2.2)⟩
def kX:Env:=fun f fns ls=>cond (Nat.beq f 3) (Gx 4194304 ls) none
theorem ACL (ls:List PV):kX 3 [] ls=Gx 4194304 ls:=by unfold kX;exact cond_true _ _
theorem ACn:eE Tryz.prog Tryz.f3.params.toList=some [.s,.i,.i,.i,.i,.i,.i,.i,.b,.i,.i,.i,.i,.r [.i,.i,.i],.s,.r [.s],.i,.i,.s,.r [.s],.i,.i,.r [.r [.u,.i,.i,.i,.b,.i,.i,.u,.u,.i,.i,.i,.b,.u,.i,.i,.i,.b,.i],.u]]:=by kernel_rfl
theorem ADV:∀l ls,LL Tryz.prog Tryz.f3.params.toList=some l→PVoks Tryz.prog 1048576 l ls→kX 3 [] ls=some [.bool true]:=by
 intro l ls hl hp;have k0:=xP hp;rw[wO ACn hl]at k0;rw[ACL];obtain⟨p0,ls,rfl,h0,k1⟩:=jW k0;obtain⟨p1,ls,rfl,r1,k2⟩:=GJ k1;obtain⟨p2,ls,rfl,r2,k3⟩:=GJ k2;obtain⟨p3,ls,rfl,r3,k4⟩:=GJ k3;obtain⟨p4,ls,rfl,r4,k5⟩:=GJ k4;obtain⟨p5,ls,rfl,r5,k6⟩:=GJ k5;obtain⟨p6,ls,rfl,r6,k7⟩:=GJ k6;obtain⟨p7,ls,rfl,r7,k8⟩:=GJ k7;obtain⟨p8,ls,rfl,k9⟩:=ABU k8;obtain⟨p9,ls,rfl,r9,k10⟩:=GJ k9;obtain⟨p10,ls,rfl,r10,k11⟩:=GJ k10;obtain⟨p11,ls,rfl,r11,k12⟩:=GJ k11;obtain⟨p12,ls,rfl,r12,k13⟩:=GJ k12;obtain⟨p13,ls,rfl,h13,q13,d13,k14⟩:=WW k13;obtain⟨p14,ls,rfl,h14,k15⟩:=jW k14;obtain⟨p15,ls,rfl,h15,q15,d15,k16⟩:=WW k15;obtain⟨p16,ls,rfl,r16,k17⟩:=GJ k16;obtain⟨p17,ls,rfl,r17,k18⟩:=GJ k17;obtain⟨p18,ls,rfl,h18,k19⟩:=jW k18;obtain⟨p19,ls,rfl,h19,q19,d19,k20⟩:=WW k19;obtain⟨p20,ls,rfl,r20,k21⟩:=GJ k20;obtain⟨p21,ls,rfl,r21,k22⟩:=GJ k21;obtain⟨p22,ls,rfl,h22,q22,d22,k23⟩:=WW k22;obtain rfl:=ABr k23;exact ik (by omega) h0 h13 h14 h18 (xY h15 d15 (by omega)) (xY h19 d19 (by omega)) h22 (zN d22)
theorem xi (H:Type) (enc:TypeId×Value→H) (W:World) (base:Nat) (args:Array Value) (ds gs:List (DataW H)) (before:List MemPlace)
    (hval:∀(j:Nat) t v,Tryz.f3.params[j]?=some t→args[j]?=some v→Value.okWide Tryz.prog W .any base t v)
    (hW:DataW.Whole enc Tryz.prog Tryz.f3.params.toList Rows.topCareerSpec.vars false W args.toList ds gs before) (hk:Rows.uptoSmall H (ds++gs)=true) (hkp:Kept (E:=kX) (N:=4194304) Tryz.prog ⟨W.heap.size,fun _=>True⟩ noB (fun _=>none) (Ab []) W) :
    Calls Tryz.prog 3 args W fun e W'=>∃v,e=.returned v∧Rows.topCareerSpec.post enc Tryz.prog Tryz.f3 false true false false W args v W' :=
  zI (ci:=⟨3,[],true,true,[],[]⟩) (E:=kX) (N:=4194304) rfl rfl (vE gG (E:=kX) (M:=4194304) 4194304 ACL true [] fun _=>rfl) Tryz.func3 (tb:=4) (by kernel_rfl) (by kernel_rfl) AA7
    (se (by kernel_rfl)) rfl (fun ds h=>by
      have h:ds.length=3:=h.trans (by kernel_rfl)
      match ds,h with
      | [d1,d2,d3],_=>rfl) (AA9 H) ADV hval hW (yC hk) hkp
end Go.Proofs.YtlephafgekoeaaaGreat
