/- Layer 2: the law's fixed example, and the law of Format. -/
import Derived.Test.YtheknmeeioajfaaDoorMoneyB
import Derived.Test.YtheknmeeioajfaaDoorF8 -- money_Part
import Derived.Test.YtheknmeeioajfaaDoorF11 -- customslaw02_awake
namespace Go.Proofs.YtheknmeeioajfaaDoor.D
set_option linter.unusedVariables false
open Go.RowKit Go.Proofs.YtheknmeeioajfaaDoorW.PrintWords Go.Proofs.YtheknmeeioajfaaDoorW.PrintMore Go.Proofs.YtheknmeeioajfaaDoor.F Go.Lib
theorem part_fixed : money_Part.f 20 999 50000 2 = some (50, 0) := by decide +kernel
theorem text_1205 : (⟨#[45, 49, 50, 46, 48, 53]⟩ : ByteArray) = fmtB (-1205) := by
  rw [fmtB_amt (by decide)]
  apply str_ext
  show [45, 49, 50, 46, 48, 53] = fmt (-1205)
  unfold fmt fmtL
  rw [if_pos (by decide), show (-1205 : Int).natAbs = 1205 from rfl, dec_big (by decide), dec_small (by decide)]
  rfl
theorem text_7 : (fmtB 7).data.toList = [48, 46, 48, 55] := by
  rw [fmtB_list (by decide)]
  unfold fmt fmtL
  rw [if_neg (by decide), show (7 : Int).toNat = 7 from rfl, dec_small (by decide)]
  rfl
theorem no_minus_zero (x : Int) (h : amt x) : fmtB x ≠ ⟨#[45, 48, 46, 48, 48]⟩ := by
  intro e
  have e1 : fmt x = [45, 48, 46, 48, 48] := by rw [← fmtB_list h, e]
  have h2 := (fmt_cut x).1
  have h3 := atoi_cut x h
  rw [← h2, e1] at h3
  have h5 : (NumEnd.ok x : NumEnd Int) = .ok 0 := h3.symm.trans (by decide +kernel)
  injection h5 with h3
  subst h3
  unfold fmt fmtL at e1
  rw [if_neg (by decide), show (0 : Int).toNat = 0 from rfl, dec_small (by decide)] at e1
  exact absurd e1 (by decide)
theorem awake_ev : Ev (fun k => customslaw02_awake.f k) true := by
  unfold customslaw02_awake.f
  refine ev_bind (Ev.of (money_Part.mono _ _ _) part_fixed) ?_
  obtain ⟨r1, h1, k1⟩ := parse_ev ⟨#[45, 49, 50, 46, 48, 53]⟩ (by decide)
  have k1' := k1
  rw [text_1205] at k1'
  obtain rfl := isParse_fmt (by decide) k1'
  refine ev_bind h1 ?_
  obtain ⟨r2, h2, k2⟩ := parse_ev ⟨#[45, 48, 46, 48, 48]⟩ (by decide)
  rcases k2 with ⟨x, hx, ex, rfl⟩ | ⟨_, rfl⟩
  · exact absurd ex (no_minus_zero x hx)
  refine ev_bind h2 (ev_pos rfl (ev_pos rfl (ev_pos rfl (ev_pos rfl (ev_pos rfl (ev_bind (format_ev 7) ?_))))))
  rw [ByteArray.toList_eq, text_7]
  exact Ev.now _
end Go.Proofs.YtheknmeeioajfaaDoor.D
