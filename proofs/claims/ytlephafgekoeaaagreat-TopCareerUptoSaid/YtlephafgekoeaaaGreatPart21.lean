/-
The statement TopCareer: its row and what it lists.
-/
import Derived.Test.YtlephafgekoeaaaGreatPart20
import Derived.Test.YtlephafgekoeaaaGreatPart17
import Derived.Test.YtlephafgekoeaaaGreatPart18
import Derived.Test.YtlephafgekoeaaaGreatPart19
import Derived.Test.YtlephafgekoeaaaGreatRows
import Derived.ProofKit
import Derived.OpenShut
import Derived.JoinedCond
set_option linter.unusedVariables false
set_option linter.unusedSimpArgs false
namespace Go.Proofs.YtlephafgekoeaaaGreat
open Go.Px Go.ChangeShapes Go.WideShapes Go.ChangeAt Go.RowKit
set_option maxRecDepth 100000
def readOk {H:Type} (o:Option (List (DataW H)×List (DataW H)×List MemPlace)) (t:List (DataW H)×List (DataW H)×List MemPlace→Bool):Bool:=match o with
 |some x=>t x
 |none=>false
theorem read_ok {H:Type} {o:Option (List (DataW H)×List (DataW H)×List MemPlace)} {t u:List (DataW H)×List (DataW H)×List MemPlace→Bool} (h:readOk o (fun x=>t x&&u x)=true):∃x,o=some x∧t x=true∧u x=true:=by
 cases o with
 |none=>cases h
 |some x=>exact⟨x,rfl,(zzj _ _▸h:_∧_).1,(zzj _ _▸h:_∧_).2⟩
def argZ0:Value:=.agg #[.string ⟨#[]⟩,.int .i64 0,.int .i64 0,.int .i64 0,.int .i64 0,.int .i64 0,.int .i64 0,.int .i64 0,.bool false,.int .i64 0,.int .i64 0,.int .i64 0,.int .i64 0,.slice none 0 0]
def argZ1:Value:=.agg #[.string ⟨#[]⟩,.slice none 0 0,.int .i64 0,.int .i64 0,.string ⟨#[]⟩,.slice none 0 0,.int .i64 0,.int .i64 0]
def argZ2:Value:=.slice none 0 0
theorem liftedK (os:Os) (started:os.Started) (H:Type) (enc:TypeId×Value→H) (F:Stop.Interp) :
    ReturnsInHanded {} Tryz.checked os 3 .any ((Rows.OpenSpec.upto Rows.topCareerSpec).pre6 enc Tryz.prog Tryz.f3 Rows.topCareerUptoRow.domain false) (((Rows.OpenSpec.upto Rows.topCareerSpec).at F).post enc Tryz.prog Tryz.f3 false true false false):=by
  obtain⟨x,h1,h2,h3⟩:=read_ok (o:=DataW.whole enc Tryz.checked.prog (World.plainHolding Tryz.checked.prog os ⟨#[],#[argZ0,argZ1,argZ2],[]⟩).memory Tryz.f3.params.toList (Rows.OpenSpec.upto Rows.topCareerSpec).vars false (⟨#[],#[argZ0,argZ1,argZ2],[]⟩:Input).args.toList 12)
    (t:=fun x=>Rows.topCareerUptoRow.domain.all (PathCond.test Tryz.checked.prog ⟨Tryz.f3.params.toList,x.1,(Rows.OpenSpec.upto Rows.topCareerSpec).bare.plain.varTypes Tryz.checked.prog,x.2.1⟩)) (u:=fun x=>Rows.uptoSmall H (x.1++x.2.1)) (by kernel_rfl)
  refine returnsInHanded_of_cond (C:=Tryz.checked) (s:=Rows.OpenSpec.upto Rows.topCareerSpec) (k:=Rows.uptoSmall) rfl own started (by kernel_rfl) Tryz.func3
    (OpenSpec.witness (enc:=enc) (C:=Tryz.checked) (s:=Rows.OpenSpec.upto Rows.topCareerSpec) (k:=Rows.uptoSmall) rfl false ⟨#[],#[argZ0,argZ1,argZ2],[]⟩ 12 (by kernel_rfl) (by kernel_rfl) (by kernel_rfl)
      (x:=x) h1 h2 h3) ?_
  intro W base args ds gs before hval hW _ hk _;exact xi H enc W base args ds gs before hval hW hk (w7 (by kernel_rfl))
theorem andI {a b:Bool} (h:a=true) (k:b=true):(a&&b)=true:=by rw[h,k];rfl
theorem jp:(Rows.topCareerUptoRow.inPlace==Tryz.prog.inPlace 3)=true:=by kernel_rfl
theorem ju:(Rows.topCareerUptoRow.unfollowed==Tryz.prog.unfollowed 3)=true:=by kernel_rfl
theorem jr:(Rows.topCareerUptoRow.recurses==Tryz.prog.recurses 3)=true:=by kernel_rfl
theorem jn:(Rows.topCareerUptoRow.named==Tryz.prog.varsNamed 3)=true:=by kernel_rfl
theorem closedK:joinedFacts Tryz.pinned.checked.prog 3 Tryz.f3 (Rows.OpenSpec.upto Rows.topCareerSpec).bare Rows.topCareerUptoRow=true:=by
 unfold joinedFacts;exact(andI (andI (andI (andI (andI (andI (andI (andI (andI (andI (andI (andI (andI (andI (andI (andI (andI (andI (andI (andI (andI (andI (andI (andI (andI (andI (andI (andI (andI (andI (andI (by kernel_rfl) (by kernel_rfl)) (by kernel_rfl)) (by kernel_rfl)) (by kernel_rfl)) (by kernel_rfl)) (by kernel_rfl)) (by kernel_rfl)) (by kernel_rfl)) jp) ju) jr) jn) (by kernel_rfl)) (by kernel_rfl)) (by kernel_rfl)) (by kernel_rfl)) (by kernel_rfl)) (by kernel_rfl)) (by kernel_rfl)) (by kernel_rfl)) (by kernel_rfl)) (by kernel_rfl)) (by kernel_rfl)) (by kernel_rfl)) (by kernel_rfl)) (by kernel_rfl)) (by kernel_rfl)) (by kernel_rfl)) (by kernel_rfl)) (by kernel_rfl)) (by kernel_rfl))
theorem overK:Rows.topCareerUptoRow.holds Tryz.pinned (Rows.OpenSpec.upto Rows.topCareerSpec) :=
  OpenClaim.holds_of_cond 3 Tryz.f3 rfl rfl rfl rfl rfl rfl rfl ⟨rfl,rfl,rfl,rfl,rfl⟩ rfl rfl rfl rfl rfl (by kernel_rfl) Tryz.func3 closedK
    (of_decide_eq_true (by kernel_rfl)) (by unfold Func.isWrapper;first|(rw[if_pos (by decide +kernel)];kernel_rfl)|(rw[if_neg (by decide +kernel)];exact⟨rfl,rfl⟩))
    (fun os started H enc _ F=>liftedK os started H enc F)
theorem topCareer_holds:Rows.TopCareerUptoSaid:=overK
end Go.Proofs.YtlephafgekoeaaaGreat
