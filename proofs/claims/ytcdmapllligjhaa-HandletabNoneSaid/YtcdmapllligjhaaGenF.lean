/- Opening the laws' lists of draws. -/
import Derived.Test.YtcdmapllligjhaaGenR
import Derived.Test.YtcdmapllligjhaaFrame
import Derived.ChangeSlices
namespace Go.Proofs.Ytcdmapllligjhaa
open Go Go.RowKit Go.Stg Go.ChangeShapes Go.WideShapes Go.ChangeAt
theorem own : ownKnob Try.prog.godebug = none := by kernel_rfl
end Go.Proofs.Ytcdmapllligjhaa
