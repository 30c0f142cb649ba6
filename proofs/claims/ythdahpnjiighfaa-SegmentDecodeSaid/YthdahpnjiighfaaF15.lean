import Derived.Test.YthdahpnjiighfaaF0
namespace Go.Proofs.Ythdahpnjiighfaa.F
open Go.RowKit Go.Proofs.YthdahpnjiighfaaW.PrintWords Go.Proofs.YthdahpnjiighfaaW.PrintLast Go.Proofs.YthdahpnjiighfaaW.PrintMore
attribute [local go_sem] max2_int min2_int max_two min_two max_three min_three max_four min_four
set_option linter.unusedVariables false
set_option linter.unusedSimpArgs false
/-! ### customsref06_special: function 33 -/
def customsref06_special.f (a0 : Int) : Option (Bool) := if a0 = 43 then (some true) else (if a0 = 58 then (some true) else (if a0 = 63 then (some true) else (some (a0 == 39))))
set_option maxHeartbeats 8000000 in
set_option maxRecDepth 100000 in
theorem customsref06_special.calls (a0 : Int) (r : Bool) (w : World) (h : customsref06_special.f a0 = some r) :
    Calls Try.prog 33 #[.int .u8 a0] w fun e w' => e = .returned (.bool r) ∧ Drawn0 w w' := by
  (have H : (if a0 = 43 then (some true) else (if a0 = 58 then (some true) else (if a0 = 63 then (some true) else (some (a0 == 39))))) = some r := h); clear h; (by_cases c2 : a0 = 43)
  · (rw [if_pos c2] at H); (have c2b0 : (a0 == 43) = true := beq_iff_eq.mpr c2); (have c2b1 : (a0 != 43) = false := bne_eq_false_iff_eq.mpr c2); clear c2; (obtain rfl := Option.some.inj H); (go_enter Try.func33, Try.ntmps33); go_wp2; go_ret; (exact ⟨by first | rfl | (simp; done) | (simp [*]; done), by repeat (first | exact Drawn0.refl _ | apply Drawn0.step)⟩)
  · (rw [if_neg c2] at H); (have c2b0 : (a0 == 43) = false := beq_eq_false_iff_ne.mpr c2); (have c2b1 : (a0 != 43) = true := bne_iff_ne.mpr c2); (by_cases c3 : a0 = 58)
    · (rw [if_pos c3] at H); (have c3b0 : (a0 == 58) = true := beq_iff_eq.mpr c3); (have c3b1 : (a0 != 58) = false := bne_eq_false_iff_eq.mpr c3); clear c3; (obtain rfl := Option.some.inj H); (go_enter Try.func33, Try.ntmps33); go_wp2; go_ret; (exact ⟨by first | rfl | (simp; done) | (simp [*]; done), by repeat (first | exact Drawn0.refl _ | apply Drawn0.step)⟩)
    · (rw [if_neg c3] at H); (have c3b0 : (a0 == 58) = false := beq_eq_false_iff_ne.mpr c3); (have c3b1 : (a0 != 58) = true := bne_iff_ne.mpr c3); (by_cases c4 : a0 = 63)
      · (rw [if_pos c4] at H); (have c4b0 : (a0 == 63) = true := beq_iff_eq.mpr c4); (have c4b1 : (a0 != 63) = false := bne_eq_false_iff_eq.mpr c4); clear c4; (obtain rfl := Option.some.inj H); (go_enter Try.func33, Try.ntmps33); go_wp2; go_ret; (exact ⟨by first | rfl | (simp; done) | (simp [*]; done), by repeat (first | exact Drawn0.refl _ | apply Drawn0.step)⟩)
      · (rw [if_neg c4] at H); (have c4b0 : (a0 == 63) = false := beq_eq_false_iff_ne.mpr c4); (have c4b1 : (a0 != 63) = true := bne_iff_ne.mpr c4); (obtain rfl := Option.some.inj H); (go_enter Try.func33, Try.ntmps33); go_wp2; go_ret; (exact ⟨by first | rfl | (simp; done) | (simp [*]; done), by repeat (first | exact Drawn0.refl _ | apply Drawn0.step)⟩)
end Go.Proofs.Ythdahpnjiighfaa.F
