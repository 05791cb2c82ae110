/-
The statement TopCards: its row and what it lists.
-/
import Derived.Test.YtkknkmdpelogmaaGreatDoorPart21
import Derived.Test.YtkknkmdpelogmaaGreatDoorPart18
import Derived.Test.YtkknkmdpelogmaaGreatDoorPart19
import Derived.Test.YtkknkmdpelogmaaGreatDoorPart20
import Derived.Test.YtkknkmdpelogmaaGreatDoorRows
import Derived.Test.YtkknkmdpelogmaaGreatDoorCards
import Derived.Test.YtkknkmdpelogmaaGreatDoorTie
import Derived.Deep.DeepHandedRow
import Derived.ProofKit
import Derived.OpenShut
import Derived.JoinedCond
set_option linter.unusedVariables false
set_option linter.unusedSimpArgs false
namespace Go.Proofs.YtkknkmdpelogmaaGreatDoor
open Go.Px Go.ChangeShapes Go.WideShapes Go.ChangeAt Go.RowKit
set_option maxRecDepth 100000
def readOk{H:Type}(o:Option (List (DataW H)×List (DataW H)×List MemPlace))(t:List (DataW H)×List (DataW H)×List MemPlace→Bool):Bool:=match o with
 |some x=>t x
 |none=>false
theorem read_ok{H:Type}{o:Option (List (DataW H)×List (DataW H)×List MemPlace)}{t u:List (DataW H)×List (DataW H)×List MemPlace→Bool}(h:readOk o (fun x=>t x&&u x)=true):∃x,o=some x∧t x=true∧u x=true:=by
 cases o with
 |none=>cases h
 |some x=>exact⟨x,rfl,(zzk _ _▸h:_∧_).1,(zzk _ _▸h:_∧_).2⟩
def argZ0:Value:=.agg #[.string ⟨#[]⟩,.int .i64 0,.int .i64 0,.int .i64 0,.int .i64 0,.int .i64 0,.int .i64 0,.int .i64 0,.bool false,.int .i64 0,.int .i64 0,.int .i64 0,.int .i64 0,.slice none 0 0]
def argZ1:Value:=.slice none 0 0
noncomputable def laidW (os:Os):World:={ World.holding Tryz.prog os ⟨#[],#[],[]⟩with heap:=((((World.holding Tryz.prog os ⟨#[],#[],[]⟩).heap.modify 2 (fun o=>match o with | .cells _ t z=>.cells #[.int .u8 0,.int .u8 1,.int .u8 28,.int .u8 2,.int .u8 29,.int .u8 14,.int .u8 24,.int .u8 3,.int .u8 30,.int .u8 22,.int .u8 20,.int .u8 15,.int .u8 25,.int .u8 17,.int .u8 4,.int .u8 8,.int .u8 31,.int .u8 27,.int .u8 13,.int .u8 23,.int .u8 21,.int .u8 19,.int .u8 16,.int .u8 7,.int .u8 26,.int .u8 12,.int .u8 18,.int .u8 6,.int .u8 11,.int .u8 5,.int .u8 10,.int .u8 9] t z|o=>o)).modify 3 (fun o=>match o with | .cells _ t z=>.cells #[.int .u8 0,.int .u8 1,.int .u8 56,.int .u8 2,.int .u8 57,.int .u8 49,.int .u8 28,.int .u8 3,.int .u8 61,.int .u8 58,.int .u8 42,.int .u8 50,.int .u8 38,.int .u8 29,.int .u8 17,.int .u8 4,.int .u8 62,.int .u8 47,.int .u8 59,.int .u8 36,.int .u8 45,.int .u8 43,.int .u8 51,.int .u8 22,.int .u8 53,.int .u8 39,.int .u8 33,.int .u8 30,.int .u8 24,.int .u8 18,.int .u8 12,.int .u8 5,.int .u8 63,.int .u8 55,.int .u8 48,.int .u8 27,.int .u8 60,.int .u8 41,.int .u8 37,.int .u8 16,.int .u8 46,.int .u8 35,.int .u8 44,.int .u8 21,.int .u8 52,.int .u8 32,.int .u8 23,.int .u8 11,.int .u8 54,.int .u8 26,.int .u8 40,.int .u8 15,.int .u8 34,.int .u8 20,.int .u8 31,.int .u8 10,.int .u8 25,.int .u8 14,.int .u8 19,.int .u8 9,.int .u8 13,.int .u8 8,.int .u8 7,.int .u8 6] t z|o=>o)).modify 1 (fun o=>match o with | .cells _ t z=>.cells #[.int .u64 1,.int .u64 10,.int .u64 100,.int .u64 1000,.int .u64 10000,.int .u64 100000,.int .u64 1000000,.int .u64 10000000,.int .u64 100000000,.int .u64 1000000000,.int .u64 10000000000,.int .u64 100000000000,.int .u64 1000000000000,.int .u64 10000000000000,.int .u64 100000000000000,.int .u64 1000000000000000,.int .u64 10000000000000000,.int .u64 100000000000000000,.int .u64 1000000000000000000,.int .u64 10000000000000000000] t z|o=>o)) }
theorem laidK(os:Os):laidMet Tryz.prog Rows.topCardsUptoRow.laid ((laidW os).forCall (fun _ _=>0) ⟨#[],#[argZ0,argZ1],[]⟩).memory:=laidMet_of_run' 80 (by kernel_rfl) (by kernel_rfl)
theorem liftedK(os:Os)(started:os.Started)(H:Type)(enc:TypeId×Value→H)(F:Stop.Interp) :
    ReturnsInHanded {} Tryz.checked os 3 .any ((Rows.OpenSpec.upto Rows.topCardsSpec).preRow enc Tryz.prog Tryz.f3 Rows.topCardsUptoRow.domain false Rows.topCardsUptoRow.laid) (((Rows.OpenSpec.upto Rows.topCardsSpec).at F).post enc Tryz.prog Tryz.f3 false true false false):=by
  obtain⟨x,h1,h2,h3⟩:=read_ok (o:=DataW.whole enc Tryz.prog ((laidW os).forCall (fun _ _=>0) ⟨#[],#[argZ0,argZ1],[]⟩).memory Tryz.f3.params.toList (Rows.OpenSpec.upto Rows.topCardsSpec).vars false (#[argZ0,argZ1]:Array Value).toList 12)
    (t:=fun x=>Rows.topCardsUptoRow.domain.all (PathCond.test Tryz.prog ⟨Tryz.f3.params.toList,x.1,(Rows.OpenSpec.upto Rows.topCardsSpec).bare.plain.varTypes Tryz.prog,x.2.1⟩)) (u:=fun x=>Rows.uptoSmall H (x.1++x.2.1)) (by kernel_rfl)
  refine returnsInHanded_of_row (C:=Tryz.checked) (s:=Rows.OpenSpec.upto Rows.topCardsSpec) own started (by kernel_rfl) Tryz.func3
    (witness_row_at (enc:=enc) (C:=Tryz.checked) false (laidW os) #[argZ0,argZ1] rfl (by kernel_rfl) (by kernel_rfl) (by kernel_rfl)
      (OpenSpec.preRow_of_cond 12 h1 h2 (fun k hk=>by cases hk;exact h3) (by kernel_rfl) (laidK os))) ?_
  intro W base args ds gs before hval hW _ hk _ hl _ _;exact AA4 H enc W base args ds gs before hval hW (hk _ rfl) (AAw 2 (by kernel_rfl) (by kernel_rfl) hl)
theorem andI{a b:Bool}(h:a=true)(k:b=true):(a&&b)=true:=by rw[h,k];rfl
theorem jp:(Rows.topCardsUptoRow.inPlace==Tryz.prog.inPlace 3)=true:=by kernel_rfl
theorem ju:(Rows.topCardsUptoRow.unfollowed==Tryz.prog.unfollowed 3)=true:=by kernel_rfl
theorem jr:(Rows.topCardsUptoRow.recurses==Tryz.prog.recurses 3)=true:=by kernel_rfl
theorem jn:(Rows.topCardsUptoRow.named==Tryz.prog.varsNamed 3)=true:=by kernel_rfl
theorem closedK:joinedFacts Tryz.pinned.checked.prog 3 Tryz.f3 (Rows.OpenSpec.upto Rows.topCardsSpec).bare Rows.topCardsUptoRow=true:=by
 unfold joinedFacts;exact(andI (andI (andI (andI (andI (andI (andI (andI (andI (andI (andI (andI (andI (andI (andI (andI (andI (andI (andI (andI (andI (andI (andI (andI (andI (andI (andI (andI (andI (andI (andI (by kernel_rfl) (by kernel_rfl)) (by kernel_rfl)) (by kernel_rfl)) (by kernel_rfl)) (by kernel_rfl)) (by kernel_rfl)) (by kernel_rfl)) (by kernel_rfl)) jp) ju) jr) jn) (by kernel_rfl)) (by kernel_rfl)) (by kernel_rfl)) (by kernel_rfl)) (by kernel_rfl)) (by kernel_rfl)) (by kernel_rfl)) (by kernel_rfl)) (by kernel_rfl)) (by kernel_rfl)) (by kernel_rfl)) (by kernel_rfl)) (by kernel_rfl)) (by kernel_rfl)) (by kernel_rfl)) (by kernel_rfl)) (by kernel_rfl)) (by kernel_rfl)) (by kernel_rfl))
theorem overK:Rows.topCardsUptoRow.holds Tryz.pinned (Rows.OpenSpec.upto Rows.topCardsSpec):=
  OpenClaim.holds_of_cond 3 Tryz.f3 rfl rfl rfl rfl rfl rfl rfl ⟨rfl,rfl,rfl,rfl,rfl⟩ rfl rfl rfl rfl rfl (by kernel_rfl) Tryz.func3 closedK
    (of_decide_eq_true (by kernel_rfl)) (by unfold Func.isWrapper;first|(rw[if_pos (by decide +kernel)];kernel_rfl)|(rw[if_neg (by decide +kernel)];exact⟨rfl,rfl⟩))
    (fun os started H enc _ F=>by rw[OpenClaim.pre_eq_preRow];exact liftedK os started H enc F)
def wantsNo(P:Program)(l:List TypeId):Bool:=l.all fun t => !(P.wantsStandIn t)
theorem plainK (f : FuncId) (fn : Func) (hf : Tryz.pinned.checked.prog.funcNamed "scorebook/scorebooktop.TopCards" = some f) (hfn : Tryz.pinned.checked.prog.funcs[f]? = some fn) :
    false=Tryz.pinned.checked.prog.looks []∧∀(j:Nat) t,fn.params[j]?=some t→Tryz.pinned.checked.prog.wantsStandIn t=false:=by
  obtain rfl : f = 3 := Option.some.inj ((show Tryz.prog.funcNamed "scorebook/scorebooktop.TopCards" = some 3 by kernel_rfl).symm.trans hf) |>.symm
  obtain rfl:fn=Tryz.f3:=(Option.some.inj (Tryz.func3.symm.trans hfn)).symm;refine⟨by kernel_rfl,fun j t ht=>?_⟩;have h:=List.all_eq_true.1 (show wantsNo Tryz.prog Tryz.f3.params.toList=true by kernel_rfl) t (Array.mem_toList_iff.2 (Array.mem_of_getElem? ht));show Tryz.prog.wantsStandIn t=false;cases hb:Tryz.prog.wantsStandIn t with
  |false=>rfl
  |true=>rw[hb]at h;cases h
theorem topCards_holds:Rows.TopCardsUptoCardSaid:=
 Claim7.holds_tied_plain_at .later [] _ _ _ _ overK (fun _ h=>by cases h) (by kernel_rfl) (fun _ h=>by cases h) topCardsUpto_row_tie rfl ⟨rfl,rfl⟩ (by kernel_rfl) rfl plainK (by kernel_rfl)
end Go.Proofs.YtkknkmdpelogmaaGreatDoor
