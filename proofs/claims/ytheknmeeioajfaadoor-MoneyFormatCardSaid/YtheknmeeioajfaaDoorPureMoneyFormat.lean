/- The law MoneyFormat over numbers and texts alone: Format is the reference's Format, and Parse returns the amount again. -/
import Derived.Test.YtheknmeeioajfaaDoorMoneyAwake
import Derived.Test.YtheknmeeioajfaaDoorF14 -- customslaw02_MoneyFormat
import Derived.Test.YtheknmeeioajfaaDoorF1 -- customslaw02_amount
namespace Go.Proofs.YtheknmeeioajfaaDoor.Pure
open Go.RowKit Go.Proofs.YtheknmeeioajfaaDoor.F Go.Proofs.YtheknmeeioajfaaDoor.D Go.Proofs.YtheknmeeioajfaaDoorW.PrintWords Go.Proofs.YtheknmeeioajfaaDoorW.PrintLast
theorem format_j (x : Int) : Ev (fun k => customslaw02_MoneyFormat.j0 k x) true := by
  refine Ev.step (fun k => by rw [customslaw02_MoneyFormat.j0]) (ev_bind (format_ev x) (ev_bind (refFormat_ev x) (ev_pos rfl ?_)))
  obtain ⟨r, h, k⟩ := parse_ev (fmtB x) (by
    by_cases hx : amt x
    · rw [fmtB_size hx]; have := fmt_len x hx; omega
    · rw [not_amt_empty hx]; decide)
  refine ev_bind h ?_
  have tail : ∀ {b : Bool}, Ev (fun k => (customslaw02_awake.f k).bind fun t229 => some t229) true := ev_bind awake_ev (Ev.now _)
  by_cases hx : amt x
  · obtain rfl := isParse_fmt hx k
    refine ev_neg (fun e => ?_) (ev_pos rfl (ev_pos rfl (tail (b := true))))
    rw [ByteArray.toList_eq, fmtB_list hx] at e
    have := fmt_len x hx
    rw [e] at this
    simp at this
  · rcases k with ⟨y, hy, ey, rfl⟩ | ⟨_, rfl⟩
    · rw [not_amt_empty hx] at ey
      have := fmt_len y hy
      rw [← fmtB_size hy, ey] at this
      exact absurd this (by decide)
    · exact ev_pos (by rw [not_amt_empty hx, ByteArray.toList_eq]) (ev_pos rfl (ev_pos rfl (tail (b := true))))
theorem MoneyFormat : customslaw02_MoneyFormat.Pure := by
  intro x b _
  refine Ev.rounds (g := fun k => customslaw02_MoneyFormat.f k x b) ?_
  unfold customslaw02_MoneyFormat.f
  refine ev_ite (fun _ => format_j x) (fun _ => ?_)
  rw [show customslaw02_amount.f x = some (Int.tmod x 1000000000001) from rfl]
  exact ev_let (format_j _)
end Go.Proofs.YtheknmeeioajfaaDoor.Pure
