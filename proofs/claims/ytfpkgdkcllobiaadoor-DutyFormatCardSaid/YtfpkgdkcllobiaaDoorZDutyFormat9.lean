/- Part 9 of the proof of the law DutyFormat (its walk through the code, and the plain laws over numbers and texts). Conditions: none. -/
import Derived.Test.YtfpkgdkcllobiaaDoorZDutyFormat8
section
namespace Go.Proofs.YtfpkgdkcllobiaaDoor.D
set_option linter.unusedVariables false
set_option linter.unusedSimpArgs false
open Go.RowKit Go.Proofs.YtfpkgdkcllobiaaDoorW.PrintWords Go.Proofs.YtfpkgdkcllobiaaDoorW.PrintMore Go.Proofs.YtfpkgdkcllobiaaDoor.F
theorem dv_range {r a p : Int} {hm : Bool} {m : Int} {hl : Bool} {l : Int} (h : ¬ rt r ∨ a < 0 ∨ a > 100000000 ∨ (a = 0 ∧ p ≠ 0) ∨ (a > 0 ∧ (p < 1 ∨ p > 1000000)) ∨ ¬ rt m ∨ ¬ rt l) : dvalid r a p hm m hl l = 2 := by unfold dvalid; rw [if_pos h]
theorem dv_in {r a p : Int} {hm : Bool} {m : Int} {hl : Bool} {l : Int} (h : ¬ (¬ rt r ∨ a < 0 ∨ a > 100000000 ∨ (a = 0 ∧ p ≠ 0) ∨ (a > 0 ∧ (p < 1 ∨ p > 1000000)) ∨ ¬ rt m ∨ ¬ rt l)) :
    dvalid r a p hm m hl l = if (hm = false ∧ m ≠ 0) ∨ (hl = false ∧ l ≠ 0) ∨ (hm = true ∧ hl = true ∧ l > m) then 1 else 0 := by unfold dvalid; rw [if_neg h]
theorem rate_eq (n : Int) : duty_rate.f n = some (decide (rt n)) := by
  unfold duty_rate.f
  by_cases h : n ≥ 0
  · rw [if_pos h]
    congr 1
    exact decide_eq_decide.2 ⟨fun k => ⟨h, k⟩, fun k => k.2⟩
  · rw [if_neg h, decide_eq_false (fun k => h k.1)]
theorem dv_j2 (r a p : Int) (hm : Bool) (m : Int) (hl : Bool) (l : Int) (b : Bool) (hb : b = true → dvalid r a p hm m hl l = 2) (hn : b = false → ¬ (¬ rt r ∨ a < 0 ∨ a > 100000000 ∨ (a = 0 ∧ p ≠ 0) ∨ (a > 0 ∧ (p < 1 ∨ p > 1000000)) ∨ ¬ rt m ∨ ¬ rt l)) :
    Ev (fun k => duty_Validate.j2 k b r a p hm m hl l) (dvalid r a p hm m hl l) := by
  refine Ev.step (fun k => by rw [duty_Validate.j2]) ?_
  cases b with
  | true => rw [hb rfl]; exact ev_pos rfl (Ev.now _)
  | false =>
    rw [dv_in (hn rfl)]
    refine ev_neg (by simp) ?_
    have key : ∀ x y : Int, x = y → Ev (fun _ => some x) y := fun x y e => by rw [e]; exact Ev.now _
    cases hm <;> cases hl
    · refine ev_neg (by simp) (ev_ite (fun c => ev_neg (by simp) (ev_ite (fun d => key _ _ (by rw [if_neg (by simp; omega)])) (fun d => key _ _ (by rw [if_pos (by simp; omega)])))) (fun c => key _ _ (by rw [if_pos (by simp; omega)])))
    · refine ev_neg (by simp) (ev_ite (fun c => ev_pos rfl (key _ _ (by rw [if_neg (by simp; omega)]))) (fun c => key _ _ (by rw [if_pos (by simp; omega)])))
    · refine ev_pos rfl (ev_neg (by simp) (ev_ite (fun d => key _ _ (by rw [if_neg (by simp; omega)])) (fun d => key _ _ (by rw [if_pos (by simp; omega)]))))
    · refine ev_pos rfl (ev_pos rfl (ev_ite (fun d => key _ _ (by rw [if_pos (by simp; omega)])) (fun d => key _ _ (by rw [if_neg (by simp; omega)]))))
theorem dv_j1 (r a p : Int) (hm : Bool) (m : Int) (hl : Bool) (l : Int) (b : Bool) (hb : b = true → dvalid r a p hm m hl l = 2) (hn : b = false → rt r ∧ 0 ≤ a ∧ a ≤ 100000000 ∧ (a = 0 → p = 0) ∧ (a > 0 → 1 ≤ p ∧ p ≤ 1000000)) :
    Ev (fun k => duty_Validate.j1 k b r a p hm m hl l) (dvalid r a p hm m hl l) := by
  refine Ev.step (fun k => by rw [duty_Validate.j1]) ?_
  cases b with
  | true => rw [hb rfl]; exact ev_pos rfl (Ev.now _)
  | false =>
    have h := hn rfl
    refine ev_neg (by simp) ?_
    rw [rate_eq, rate_eq]
    refine ev_let ?_
    by_cases c1 : rt m
    · refine ev_pos (decide_eq_true c1) (ev_let (dv_j2 r a p hm m hl l _ (fun hb => dv_range ?_) (fun hb => ?_)))
      · have : ¬ rt l := fun c => by rw [decide_eq_true c] at hb; cases hb
        omega
      · have : rt l := Decidable.byContradiction fun c => by rw [decide_eq_false c] at hb; cases hb
        omega
    · exact ev_neg (by simpa using c1) (dv_j2 r a p hm m hl l _ (fun _ => dv_range (by omega)) (fun hb => by cases hb))
theorem dv_j0 (r a p : Int) (hm : Bool) (m : Int) (hl : Bool) (l : Int) (b : Bool) (hb : b = true → dvalid r a p hm m hl l = 2) (hn : b = false → rt r ∧ 0 ≤ a ∧ a ≤ 100000000) :
    Ev (fun k => duty_Validate.j0 k b r a p hm m hl l) (dvalid r a p hm m hl l) := by
  refine Ev.step (fun k => by rw [duty_Validate.j0]) ?_
  cases b with
  | true => rw [hb rfl]; exact ev_pos rfl (Ev.now _)
  | false =>
    have h := hn rfl
    refine ev_neg (by simp) ?_
    refine ev_ite (fun c1 => ev_ite (fun c2 => ev_neg (by omega) (dv_j1 _ _ _ _ _ _ _ _ (fun hb => by cases hb) (fun _ => ?_))) (fun c2 => dv_j1 _ _ _ _ _ _ _ _ (fun _ => dv_range (by omega)) (fun hb => by cases hb))) (fun c1 => ev_pos (by omega) (ev_ite (fun c3 => dv_j1 _ _ _ _ _ _ _ _ (fun _ => dv_range (by omega)) (fun hb => by cases hb)) (fun c3 => dv_j1 _ _ _ _ _ _ _ _ (fun hb => dv_range ?_) (fun hb => ?_))))
    · exact ⟨h.1, h.2.1, h.2.2, by omega, by omega⟩
    · have := of_decide_eq_true hb; omega
    · have := of_decide_eq_false hb; exact ⟨h.1, h.2.1, h.2.2, by omega, by omega⟩
theorem dvalidate_ev (r a p : Int) (hm : Bool) (m : Int) (hl : Bool) (l : Int) : Ev (fun k => duty_Validate.f k r a p hm m hl l) (dvalid r a p hm m hl l) := by
  unfold duty_Validate.f
  rw [rate_eq]
  refine ev_let ?_
  by_cases c1 : rt r
  · refine ev_pos (decide_eq_true c1) (ev_ite (fun c2 => dv_j0 _ _ _ _ _ _ _ _ (fun _ => dv_range (by omega)) (fun hb => by cases hb)) (fun c2 => dv_j0 _ _ _ _ _ _ _ _ (fun hb => dv_range ?_) (fun hb => ?_)))
    · have := of_decide_eq_true hb; omega
    · have := of_decide_eq_false hb; exact ⟨c1, by omega, by omega⟩
  · exact ev_neg (by simpa using c1) (dv_j0 _ _ _ _ _ _ _ _ (fun _ => dv_range (by omega)) (fun hb => by cases hb))
end Go.Proofs.YtfpkgdkcllobiaaDoor.D
end
