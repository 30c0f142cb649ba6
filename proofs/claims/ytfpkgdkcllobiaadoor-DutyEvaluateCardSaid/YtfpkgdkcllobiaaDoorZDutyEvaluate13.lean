/- Part 13 of the proof of the law DutyEvaluate (its walk through the code, and the plain laws over numbers and texts). Conditions: none. -/
import Derived.Test.YtfpkgdkcllobiaaDoorZDutyEvaluate12
import Derived.SizedLaws
import Derived.ChangeSlices
section
namespace Go.Proofs.YtfpkgdkcllobiaaDoorW.PrintWords
open Go.ChangeShapes Go.WideShapes
end Go.Proofs.YtfpkgdkcllobiaaDoorW.PrintWords
end
