-- printed by this session's own copy of a printing program, out of the translation
import Derived.Test.YtheknmeeioajfaaDoorProg
import Derived.Below
import Derived.Deep.Draws
import Derived.Deep.AppendLies
import Derived.Maps.AppendAt
import Derived.OwnWalk
import Derived.Laws.BytesArg
import Derived.Laws.MakeOwn
import Derived.Laws.OwnMore
import Derived.Deep.OwnRows
import Derived.Tactics
import Derived.Lib.ConvBytes
import Derived.Laws.Slices
import Derived.WalkKit
import Derived.KernelRfl
import Derived.RowKit3
import Derived.Deep.LoopGhost
import Derived.Deep.QuietTactic
import Derived.BigQuiet
import Derived.WideLaws
import Derived.Deep.DeepCutAuto
import Derived.Deep.CutBlock
import Derived.Deep.RegionHeld3
import Derived.Laws.Rows
import Derived.Lib.AppendStr
import Derived.ArgAppend
import Derived.Laws.IdiomCopy
import Derived.OrdersHeld
import Derived.Laws.BitsLemmas
import Derived.RowKit
import Derived.Test.YtheknmeeioajfaaDoorGl
import Derived.Test.YtheknmeeioajfaaDoorWWords
import Derived.Test.YtheknmeeioajfaaDoorWLast
import Derived.Test.YtheknmeeioajfaaDoorWTab
import Derived.Test.YtheknmeeioajfaaDoorWFour
import Derived.Test.YtheknmeeioajfaaDoorWQPut
import Derived.Test.YtheknmeeioajfaaDoorWApart
import Derived.Test.YtheknmeeioajfaaDoorWArr
import Derived.Test.YtheknmeeioajfaaDoorWZeros
import Derived.Test.YtheknmeeioajfaaDoorWFoot
import Derived.Test.YtheknmeeioajfaaDoorWKept
import Derived.Test.YtheknmeeioajfaaDoorWShare
import Derived.Test.YtheknmeeioajfaaDoorWN
import Derived.Test.YtheknmeeioajfaaDoorWFootNe
import Derived.Test.YtheknmeeioajfaaDoorWAt
import Derived.Test.YtheknmeeioajfaaDoorWEqStruct
import Derived.Test.YtheknmeeioajfaaDoorWRepsOne
import Derived.Test.YtheknmeeioajfaaDoorWInv
import Derived.Test.YtheknmeeioajfaaDoorWInvWords
import Derived.Test.YtheknmeeioajfaaDoorWGuard
import Derived.Test.YtheknmeeioajfaaDoorWNEv
import Derived.Test.YtheknmeeioajfaaDoorWMore
namespace Go.Proofs.YtheknmeeioajfaaDoor.F
open Go.RowKit Go.Proofs.YtheknmeeioajfaaDoorW.PrintWords Go.Proofs.YtheknmeeioajfaaDoorW.PrintLast Go.Proofs.YtheknmeeioajfaaDoorW.PrintMore
attribute [local go_sem] max2_int min2_int max_two min_two max_three min_three max_four min_four   -- for this text's walks alone
set_option linter.unusedVariables false
set_option linter.unusedSimpArgs false



def errW : Option Int → Value
  | none => .nilIface
  | some c => .iface 73 (.pointer (some ⟨c.toNat, 0, none⟩))
theorem errW_none : errW none = .nilIface := rfl
theorem errW_some (c : Int) : errW (some c) = .iface 73 (.pointer (some ⟨c.toNat, 0, none⟩)) := rfl

theorem info3 : (Tryd.prog.info? 3).map (fun i => (i.zero, i.size, i.bytes)) = some (some (.int .i64 0), 1, 8) := by kernel_rfl
theorem info5 : (Tryd.prog.info? 5).map (fun i => (i.zero, i.size, i.bytes)) = some (some (.int .u8 0), 1, 1) := by kernel_rfl
-- the values' own types

end Go.Proofs.YtheknmeeioajfaaDoor.F
