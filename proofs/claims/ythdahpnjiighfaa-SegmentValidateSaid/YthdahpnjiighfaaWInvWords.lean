import Derived.Test.YthdahpnjiighfaaWInv
import Derived.Test.YthdahpnjiighfaaWFootNe
namespace Go.Proofs.YthdahpnjiighfaaW.PrintWords
open Go.RowKit
end Go.Proofs.YthdahpnjiighfaaW.PrintWords
namespace Go.Proofs.YthdahpnjiighfaaW.PrintLast
section
variable {ops : Array Oper} {a : Act} {o og : Oper} {g : Nat} {t : Tmp} {u : Bool}
end
end Go.Proofs.YthdahpnjiighfaaW.PrintLast
