/- The law MoneyPart over numbers alone: the program's Part is the reference's. -/
import Derived.Test.YtheknmeeioajfaaDoorScale
import Derived.Test.YtheknmeeioajfaaDoorMoneyAwake
import Derived.Test.YtheknmeeioajfaaDoorF12 -- customslaw02_MoneyPart
import Derived.Test.YtheknmeeioajfaaDoorF1 -- customslaw02_amount
namespace Go.Proofs.YtheknmeeioajfaaDoor.Pure
set_option linter.unusedVariables false
open Go.RowKit Go.Proofs.YtheknmeeioajfaaDoor.F Go.Proofs.YtheknmeeioajfaaDoor.D Go.Proofs.YtheknmeeioajfaaDoorW.PrintWords Go.Proofs.YtheknmeeioajfaaDoorW.PrintLast Go.Proofs.YtheknmeeioajfaaDoorW.PrintMore
theorem MoneyPart : customslaw02_MoneyPart.Pure := by
  intro a r m raw _ _ _
  refine Ev.rounds (g := fun k => customslaw02_MoneyPart.f k a r m raw) ?_
  unfold customslaw02_MoneyPart.f
  have am : ∀ x : Int, customslaw02_amount.f x = some (Int.tmod x 1000000000001) := fun _ => rfl
  refine ev_ite (fun _ => ?_) (fun _ => ?_)
  · exact ev_bind (part_ev _ _ _) (ev_bind (refPart_ev _ _ _) (ev_pos rfl (ev_pos rfl (ev_bind awake_ev (Ev.now _)))))
  · simp only [am]
    exact ev_let (ev_bind (part_ev _ _ _) (ev_bind (refPart_ev _ _ _) (ev_pos rfl (ev_pos rfl (ev_bind awake_ev (Ev.now _))))))
end Go.Proofs.YtheknmeeioajfaaDoor.Pure
