/-
The statement LegalBalls: its row and what it lists.
-/
import Derived.Test.YteolngdncakekaaGreatPart15
import Derived.Test.YteolngdncakekaaGreatPart12
import Derived.Test.YteolngdncakekaaGreatPart13
import Derived.Test.YteolngdncakekaaGreatPart14
import Derived.Test.YteolngdncakekaaGreatRows
import Derived.ProofKit
import Derived.OpenShut
import Derived.JoinedCond
set_option linter.unusedVariables false
set_option linter.unusedSimpArgs false
namespace Go.Proofs.YteolngdncakekaaGreat
open Go.Px Go.ChangeShapes Go.WideShapes Go.ChangeAt Go.RowKit
set_option maxRecDepth 100000
def readOk {H:Type} (o:Option (List (DataW H)×List (DataW H)×List MemPlace)) (t:List (DataW H)×List (DataW H)×List MemPlace→Bool):Bool:=match o with
 | some x=>t x
 | none=>false
theorem read_ok {H:Type} {o:Option (List (DataW H)×List (DataW H)×List MemPlace)} {t u:List (DataW H)×List (DataW H)×List MemPlace→Bool} (h:readOk o (fun x=>t x&&u x)=true):∃ x,o=some x∧t x=true∧u x=true:=by
 cases o with
 | none=>cases h
 | some x=>exact ⟨x,rfl,(Bool.and_eq_true _ _▸h:_∧_).1,(Bool.and_eq_true _ _▸h:_∧_).2⟩
def argZ0:Value:=.agg #[.string ⟨#[]⟩,.int .i64 0,.int .i64 0,.int .i64 0,.int .i64 0,.int .i64 0,.int .i64 0,.int .i64 0,.bool false,.int .i64 0,.int .i64 0,.int .i64 0,.int .i64 0,.slice none 0 0,.int .u8 0,.int .i64 0,.bool false,.slice none 0 0,.int .i64 0,.int .i64 0,.int .u8 0,.int .i64 0,.int .i64 0]
def argZ1:Value:=.agg #[.int .u8 0,.int .u8 0,.int .i64 0,.int .i64 0,.int .i64 0,.bool false,.int .u8 0,.int .i64 0,.int .i64 0,.int .i64 0,.bool false,.int .i64 0]
theorem liftedK (os : Os) (started : os.Started) (H : Type) (enc : TypeId × Value → H) (F : Stop.Interp) :
    ReturnsInHanded {} Tryz.checked os 6 .any ((Rows.OpenSpec.upto Rows.legalBallsSpec).pre6 enc Tryz.prog Tryz.f6 Rows.legalBallsUptoRow.domain false) (((Rows.OpenSpec.upto Rows.legalBallsSpec).at F).post enc Tryz.prog Tryz.f6 false true false false):=by
  obtain ⟨x,h1,h2,h3⟩:=read_ok (o:=DataW.whole enc Tryz.checked.prog (World.plainHolding Tryz.checked.prog os ⟨#[],#[argZ0,argZ1],[]⟩).memory Tryz.f6.params.toList (Rows.OpenSpec.upto Rows.legalBallsSpec).vars false (⟨#[],#[argZ0,argZ1],[]⟩:Input).args.toList 12)
    (t:=fun x=>Rows.legalBallsUptoRow.domain.all (PathCond.test Tryz.checked.prog ⟨Tryz.f6.params.toList,x.1,(Rows.OpenSpec.upto Rows.legalBallsSpec).bare.plain.varTypes Tryz.checked.prog,x.2.1⟩)) (u:=fun x=>Rows.uptoSmall H (x.1++x.2.1)) (by kernel_rfl)
  refine returnsInHanded_of_cond (C:=Tryz.checked) (s:=Rows.OpenSpec.upto Rows.legalBallsSpec) (k:=Rows.uptoSmall) rfl own started (by kernel_rfl) Tryz.func6
    (OpenSpec.witness (enc:=enc) (C:=Tryz.checked) (s:=Rows.OpenSpec.upto Rows.legalBallsSpec) (k:=Rows.uptoSmall) rfl false ⟨#[],#[argZ0,argZ1],[]⟩ 12 (by kernel_rfl) (by kernel_rfl) (by kernel_rfl)
      (x:=x) h1 h2 h3) ?_
  intro W base args ds gs before hval hW _ hk _
  exact dy H enc W base args ds gs before hval hW hk
theorem andI {a b:Bool} (h:a=true) (k:b=true):(a&&b)=true:=by rw [h,k];rfl
theorem jp:(Rows.legalBallsUptoRow.inPlace==Tryz.prog.inPlace 6)=true:=by kernel_rfl
theorem ju:(Rows.legalBallsUptoRow.unfollowed==Tryz.prog.unfollowed 6)=true:=by kernel_rfl
theorem jr:(Rows.legalBallsUptoRow.recurses==Tryz.prog.recurses 6)=true:=by kernel_rfl
theorem jn:(Rows.legalBallsUptoRow.named==Tryz.prog.varsNamed 6)=true:=by kernel_rfl
theorem closedK:joinedFacts Tryz.pinned.checked.prog 6 Tryz.f6 (Rows.OpenSpec.upto Rows.legalBallsSpec).bare Rows.legalBallsUptoRow=true:=by
 unfold joinedFacts
 exact (andI (andI (andI (andI (andI (andI (andI (andI (andI (andI (andI (andI (andI (andI (andI (andI (andI (andI (andI (andI (andI (andI (andI (andI (andI (andI (andI (andI (andI (andI (andI (by kernel_rfl) (by kernel_rfl)) (by kernel_rfl)) (by kernel_rfl)) (by kernel_rfl)) (by kernel_rfl)) (by kernel_rfl)) (by kernel_rfl)) (by kernel_rfl)) jp) ju) jr) jn) (by kernel_rfl)) (by kernel_rfl)) (by kernel_rfl)) (by kernel_rfl)) (by kernel_rfl)) (by kernel_rfl)) (by kernel_rfl)) (by kernel_rfl)) (by kernel_rfl)) (by kernel_rfl)) (by kernel_rfl)) (by kernel_rfl)) (by kernel_rfl)) (by kernel_rfl)) (by kernel_rfl)) (by kernel_rfl)) (by kernel_rfl)) (by kernel_rfl)) (by kernel_rfl))
theorem overK:Rows.legalBallsUptoRow.holds Tryz.pinned (Rows.OpenSpec.upto Rows.legalBallsSpec) :=
  OpenClaim.holds_of_cond 6 Tryz.f6 rfl rfl rfl rfl rfl rfl rfl ⟨rfl,rfl,rfl,rfl,rfl⟩ rfl rfl rfl rfl rfl (by kernel_rfl) Tryz.func6 closedK
    (of_decide_eq_true (by kernel_rfl)) (by unfold Func.isWrapper;first | (rw [if_pos (by decide +kernel)];kernel_rfl) | (rw [if_neg (by decide +kernel)];exact ⟨rfl,rfl⟩))
    (fun os started H enc _ F=>liftedK os started H enc F)
theorem legalBalls_holds:Rows.LegalBallsUptoSaid:=overK
end Go.Proofs.YteolngdncakekaaGreat
