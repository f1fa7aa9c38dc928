/- Arguments opened: a number, an interval, a slice of these. -/
import Derived.Test.YteabdeohhmbclaaRows
import Derived.Test.YteabdeohhmbclaaBsAr
import Derived.ProofKit
import Derived.OpenShut
import Derived.ChangeOld
import Derived.Lib.SmallJoins
import Derived.Deep.Slices
namespace Go.Proofs.Yteabdeohhmbclaa.Wk
open Go.ChangeShapes Go.WideShapes Go.ChangeAt Go.RowKit Go.Joins Go.Deep Go.Proofs.Pl
set_option linter.unusedVariables false
set_option linter.unusedSimpArgs false

theorem own : ownKnob Try.prog.godebug = none := by kernel_rfl
section
variable {H : Type} {enc : TypeId × Value → H} {w : World} {base : Nat} {spare : Nat → Bool} {held : Bool}
end
end Go.Proofs.Yteabdeohhmbclaa.Wk
