import Derived.Test.YthdahpnjiighfaaF0
namespace Go.Proofs.Ythdahpnjiighfaa.F
open Go.RowKit Go.Proofs.YthdahpnjiighfaaW.PrintWords Go.Proofs.YthdahpnjiighfaaW.PrintLast Go.Proofs.YthdahpnjiighfaaW.PrintMore
attribute [local go_sem] max2_int min2_int max_two min_two max_three min_three max_four min_four
set_option linter.unusedVariables false
set_option linter.unusedSimpArgs false
/-! ### customsref06_SameSegments: function 17 -/
mutual
def customsref06_SameSegments.l0 : Nat → List (S24) → List (S24) → Int → Option (Bool)
  | 0, _, _, _ => none
  | k + 1, x0, x1, x5 => if x5 < (x0.length : Int) then (if 0 ≤ x5 then (if x5 < (x1.length : Int) then (if ((rd_T24 x0 x5).f0).toList = ((rd_T24 x1 x5).f0).toList then (customsref06_SameSegments.j1 k x0 x1 x5 ((((rd_T24 x0 x5).f1).length : Int) != (((rd_T24 x1 x5).f1).length : Int))) else (customsref06_SameSegments.j1 k x0 x1 x5 true)) else (none)) else (none)) else (some true)
def customsref06_SameSegments.j1 : Nat → List (S24) → List (S24) → Int → Bool → Option (Bool)
  | 0, _, _, _, _ => none
  | k + 1, x0, x1, x5, x46 => if x46 = true then (some false) else (customsref06_SameSegments.l1 k x0 x1 x5 0)
def customsref06_SameSegments.l1 : Nat → List (S24) → List (S24) → Int → Int → Option (Bool)
  | 0, _, _, _, _ => none
  | k + 1, x0, x1, x5, x6 => if 0 ≤ x5 then (if x5 < (x0.length : Int) then (if x6 < (((rd_T24 x0 x5).f1).length : Int) then (if 0 ≤ x6 then (if x5 < (x1.length : Int) then (if x6 < (((rd_T24 x1 x5).f1).length : Int) then (if ((rd_L1 ((rd_T24 x0 x5).f1) x6).length : Int) = ((rd_L1 ((rd_T24 x1 x5).f1) x6).length : Int) then (customsref06_SameSegments.l2 k x0 x1 x5 x6 (rd_L1 ((rd_T24 x0 x5).f1) x6) (rd_L1 ((rd_T24 x1 x5).f1) x6) 0) else (some false)) else (none)) else (none)) else (none)) else (customsref06_SameSegments.l0 k x0 x1 (wrap64 (x5 + 1)))) else (none)) else (none)
def customsref06_SameSegments.l2 : Nat → List (S24) → List (S24) → Int → Int → List ByteArray → List ByteArray → Int → Option (Bool)
  | 0, _, _, _, _, _, _, _ => none
  | k + 1, x0, x1, x5, x6, x7, x8, x9 => if x9 < (x7.length : Int) then (if 0 ≤ x9 then (if x9 < (x8.length : Int) then (if (rdOf ByteArray.empty x7 x9).toList = (rdOf ByteArray.empty x8 x9).toList then (customsref06_SameSegments.l2 k x0 x1 x5 x6 x7 x8 (wrap64 (x9 + 1))) else (some false)) else (none)) else (none)) else (customsref06_SameSegments.l1 k x0 x1 x5 (wrap64 (x6 + 1)))
end
def customsref06_SameSegments.f (k : Nat) (l0 : List (S24)) (l1 : List (S24)) : Option (Bool) := if (l0.length : Int) = (l1.length : Int) then (customsref06_SameSegments.l0 k l0 l1 0) else (some false)
theorem customsref06_SameSegments.mono_l : ∀ k, (∀ y0 y1 y2, LeO (customsref06_SameSegments.l0 k y0 y1 y2) (customsref06_SameSegments.l0 (k + 1) y0 y1 y2)) ∧ (∀ y0 y1 y2 y3, LeO (customsref06_SameSegments.j1 k y0 y1 y2 y3) (customsref06_SameSegments.j1 (k + 1) y0 y1 y2 y3)) ∧ (∀ y0 y1 y2 y3, LeO (customsref06_SameSegments.l1 k y0 y1 y2 y3) (customsref06_SameSegments.l1 (k + 1) y0 y1 y2 y3)) ∧ (∀ y0 y1 y2 y3 y4 y5 y6, LeO (customsref06_SameSegments.l2 k y0 y1 y2 y3 y4 y5 y6) (customsref06_SameSegments.l2 (k + 1) y0 y1 y2 y3 y4 y5 y6))
  | 0 => ⟨fun _ _ _ r h => by simp [customsref06_SameSegments.l0] at h, fun _ _ _ _ r h => by simp [customsref06_SameSegments.j1] at h, fun _ _ _ _ r h => by simp [customsref06_SameSegments.l1] at h, fun _ _ _ _ _ _ _ r h => by simp [customsref06_SameSegments.l2] at h⟩
  | k + 1 => by
    obtain ⟨ih0, ih1, ih2, ih3⟩ := customsref06_SameSegments.mono_l k
    refine ⟨?_, ?_, ?_, ?_⟩
    · intro y0 y1 y2
      unfold customsref06_SameSegments.l0
      repeat' first
      | (with_reducible exact ih0 _ _ _)
      | (with_reducible exact ih1 _ _ _ _)
      | (with_reducible exact ih2 _ _ _ _)
      | (with_reducible exact ih3 _ _ _ _ _ _ _)
      | (with_reducible exact LeO.refl _)
      | (with_reducible exact LeO.none _)
      | (with_reducible refine LeO.ite ?_ ?_)
      | (with_reducible refine LeO.bind ?_ (fun _ => ?_))
      | exact ih0 _ _ _
      | exact ih1 _ _ _ _
      | exact ih2 _ _ _ _
      | exact ih3 _ _ _ _ _ _ _
      | exact LeO.none _
      | refine LeO.ite ?_ ?_
      | refine LeO.bind ?_ (fun _ => ?_)
    · intro y0 y1 y2 y3
      unfold customsref06_SameSegments.j1
      repeat' first
      | (with_reducible exact ih0 _ _ _)
      | (with_reducible exact ih1 _ _ _ _)
      | (with_reducible exact ih2 _ _ _ _)
      | (with_reducible exact ih3 _ _ _ _ _ _ _)
      | (with_reducible exact LeO.refl _)
      | (with_reducible exact LeO.none _)
      | (with_reducible refine LeO.ite ?_ ?_)
      | (with_reducible refine LeO.bind ?_ (fun _ => ?_))
      | exact ih0 _ _ _
      | exact ih1 _ _ _ _
      | exact ih2 _ _ _ _
      | exact ih3 _ _ _ _ _ _ _
      | exact LeO.none _
      | refine LeO.ite ?_ ?_
      | refine LeO.bind ?_ (fun _ => ?_)
    · intro y0 y1 y2 y3
      unfold customsref06_SameSegments.l1
      repeat' first
      | (with_reducible exact ih0 _ _ _)
      | (with_reducible exact ih1 _ _ _ _)
      | (with_reducible exact ih2 _ _ _ _)
      | (with_reducible exact ih3 _ _ _ _ _ _ _)
      | (with_reducible exact LeO.refl _)
      | (with_reducible exact LeO.none _)
      | (with_reducible refine LeO.ite ?_ ?_)
      | (with_reducible refine LeO.bind ?_ (fun _ => ?_))
      | exact ih0 _ _ _
      | exact ih1 _ _ _ _
      | exact ih2 _ _ _ _
      | exact ih3 _ _ _ _ _ _ _
      | exact LeO.none _
      | refine LeO.ite ?_ ?_
      | refine LeO.bind ?_ (fun _ => ?_)
    · intro y0 y1 y2 y3 y4 y5 y6
      unfold customsref06_SameSegments.l2
      repeat' first
      | (with_reducible exact ih0 _ _ _)
      | (with_reducible exact ih1 _ _ _ _)
      | (with_reducible exact ih2 _ _ _ _)
      | (with_reducible exact ih3 _ _ _ _ _ _ _)
      | (with_reducible exact LeO.refl _)
      | (with_reducible exact LeO.none _)
      | (with_reducible refine LeO.ite ?_ ?_)
      | (with_reducible refine LeO.bind ?_ (fun _ => ?_))
      | exact ih0 _ _ _
      | exact ih1 _ _ _ _
      | exact ih2 _ _ _ _
      | exact ih3 _ _ _ _ _ _ _
      | exact LeO.none _
      | refine LeO.ite ?_ ?_
      | refine LeO.bind ?_ (fun _ => ?_)
theorem customsref06_SameSegments.mono : ∀ a0 a1 k, LeO (customsref06_SameSegments.f k a0 a1) (customsref06_SameSegments.f (k + 1) a0 a1) := by
  intro a0 a1 k; (obtain ⟨ih0, ih1, ih2, ih3⟩ := customsref06_SameSegments.mono_l k); (unfold customsref06_SameSegments.f)
  repeat' first
      | (with_reducible exact ih0 _ _ _)
      | (with_reducible exact ih1 _ _ _ _)
      | (with_reducible exact ih2 _ _ _ _)
      | (with_reducible exact ih3 _ _ _ _ _ _ _)
      | (with_reducible exact LeO.refl _)
      | (with_reducible exact LeO.none _)
      | (with_reducible refine LeO.ite ?_ ?_)
      | (with_reducible refine LeO.bind ?_ (fun _ => ?_))
      | exact ih0 _ _ _
      | exact ih1 _ _ _ _
      | exact ih2 _ _ _ _
      | exact ih3 _ _ _ _ _ _ _
      | exact LeO.none _
      | refine LeO.ite ?_ ?_
      | refine LeO.bind ?_ (fun _ => ?_)
set_option maxHeartbeats 8000000 in
set_option maxRecDepth 100000 in
theorem customsref06_SameSegments.calls (k : Nat) (A0 : Option Addr) (c0 : Nat) (l0 : List (S24)) (A1 : Option Addr) (c1 : Nat) (l1 : List (S24)) (r : Bool) (w : World) (hr0 : Kd.C k24 w A0 l0.length l0) (hc0 : l0.length ≤ c0) (hr1 : Kd.C k24 w A1 l1.length l1) (hc1 : l1.length ≤ c1) (h : customsref06_SameSegments.f k l0 l1 = some r) :
    Calls Try.prog 17 #[.slice A0 l0.length c0, .slice A1 l1.length c1] w fun e w' => e = .returned (.bool r) ∧ Drawn0 w w' := by
  have HR0 := Aside0.mk hr0; have HC0 := Aside0.mk hc0; clear hr0 hc0; have HR1 := Aside0.mk hr1; have HC1 := Aside0.mk hc1; clear hr1 hc1; (have H : (if (l0.length : Int) = (l1.length : Int) then (customsref06_SameSegments.l0 k l0 l1 0) else (some false)) = some r := h); clear h; (by_cases c3 : (l0.length : Int) = (l1.length : Int))
  · (rw [if_pos c3] at H); (have c3b0 : ((l0.length : Int) == (l1.length : Int)) = true := beq_iff_eq.mpr c3); (have c3b1 : ((l0.length : Int) != (l1.length : Int)) = false := bne_eq_false_iff_eq.mpr c3); (have c3b2 : (l0.length == l1.length) = true := by first | simpa using c3 | (simp at c3 ⊢; omega)); clear c3; have H' := Aside0.mk H; clear H; (go_enter Try.func17, Try.ntmps17); go_wp2; (repeat (go_quiet (fail); try go_wp2)); (go_loopg [5] k (fun kq v5 w' => ∃ (x5_1 : Int), v5 = .int .i64 x5_1 ∧ Aside0 (customsref06_SameSegments.l0 kq l0 l1 x5_1 = some r) ∧ Aside0 (kq ≤ k) ∧ Drawn0 w w')); (case atStart => exact ⟨(0), (by first | rfl | (simp; done) | (simp [*]; done)), H', ⟨Nat.le_refl _⟩, by repeat (first | exact Drawn0.refl _ | apply Drawn0.step)⟩)
    case round =>
      clear H'; (try clear c1); (try clear p2); (try clear c3); (try clear c3b0); (try clear c3b1); (try clear c3b2); (obtain ⟨x5_1, rfl, HA, HK1, ⟨m1, rfl⟩⟩ := hrel)
      cases gk with
      | zero => exact absurd HA.out (by simp [customsref06_SameSegments.l0])
      | succ k1 =>
        have H := HA.out; clear HA; (simp only [customsref06_SameSegments.l0] at H); (by_cases c4 : x5_1 < (l0.length : Int))
        · (rw [if_pos c4] at H); (have c4b0 : decide (x5_1 < (l0.length : Int)) = true := decide_eq_true c4); clear c4; have HC5 := Aside0.mk H; clear H; (go_upto_region 6 with (fail)); (repeat (go_quiet (fail); go_upto_region 6 with (fail))); (go_cut [46] (fun v46 wc => ∃ (kq : Nat) (x46_4 : Bool), v46 = .bool x46_4 ∧ Aside0 (customsref06_SameSegments.j1 kq l0 l1 x5_1 x46_4 = some r) ∧ Aside0 (kq ≤ k1) ∧ Drawn0 w wc))
          case first =>
            have H := HC5.out; clear HC5; (by_cases c6 : 0 ≤ x5_1)
            · (rw [if_pos c6] at H); (have c6b0 : decide (0 ≤ x5_1) = true := decide_eq_true c6); clear c6; (first | rw [c6b0] | (simp only [i64_w, i32_w]; rw [c6b0]) | skip); (by_cases c7 : x5_1 < (l1.length : Int))
              · (rw [if_pos c7] at H); (have c7b0 : decide (x5_1 < (l1.length : Int)) = true := decide_eq_true c7); clear c7; (by_cases c8 : ((rd_T24 l0 x5_1).f0).toList = ((rd_T24 l1 x5_1).f0).toList)
                · (rw [if_pos c8] at H); (have c8b0 : (((rd_T24 l0 x5_1).f0).toList == ((rd_T24 l1 x5_1).f0).toList) = true := beq_iff_eq.mpr c8); (have c8b1 : (((rd_T24 l0 x5_1).f0).toList != ((rd_T24 l1 x5_1).f0).toList) = false := bne_eq_false_iff_eq.mpr c8); clear c8; have H' := Aside0.mk H; clear H; (have p379 : 0 ≤ (x5_1 : Int) := of_decide_eq_true (by first | (with_reducible assumption) | assumption)); (have q379 : x5_1 < (l0.length : Int) := of_decide_eq_true (by first | (with_reducible assumption) | assumption)); (obtain ⟨ad379, A379_1, c379_1, e379, hx379_0, hx379_1, hl379_1, hi379_1⟩ := at_T24 HR0.out x5_1 p379 q379); (cases e379); have HR379_1 := Aside0.mk hi379_1; have HC379_1 := Aside0.mk hl379_1; clear hi379_1 hl379_1; replace p379 := eq_true p379; replace q379 := eq_true q379; (have p380 : 0 ≤ (x5_1 : Int) := of_decide_eq_true (by first | (with_reducible assumption) | assumption)); (have q380 : x5_1 < (l1.length : Int) := of_decide_eq_true (by first | (with_reducible assumption) | assumption)); (obtain ⟨ad380, A380_1, c380_1, e380, hx380_0, hx380_1, hl380_1, hi380_1⟩ := at_T24 HR1.out x5_1 p380 q380); (cases e380); have HR380_1 := Aside0.mk hi380_1; have HC380_1 := Aside0.mk hl380_1; clear hi380_1 hl380_1; replace p380 := eq_true p380; replace q380 := eq_true q380; (have p381 : 0 ≤ (x5_1 : Int) := of_decide_eq_true (by first | (with_reducible assumption) | assumption)); (have q381 : x5_1 < (l0.length : Int) := of_decide_eq_true (by first | (with_reducible assumption) | assumption)); (obtain ⟨ad381, A381_1, c381_1, e381, hx381_0, hx381_1, hl381_1, hi381_1⟩ := at_T24 HR0.out x5_1 p381 q381); (obtain rfl : ad379 = ad381 := (by injection e381)); have HR381_1 := Aside0.mk hi381_1; have HC381_1 := Aside0.mk hl381_1; clear hi381_1 hl381_1; replace p381 := eq_true p381; replace q381 := eq_true q381; (have ea_ := Option.some.inj (hx379_1.symm.trans hx381_1)); (injection ea_ with ea_ en_ ec_); subst ea_; subst ec_; clear en_; (have p382 : 0 ≤ (x5_1 : Int) := of_decide_eq_true (by first | (with_reducible assumption) | assumption)); (have q382 : x5_1 < (l1.length : Int) := of_decide_eq_true (by first | (with_reducible assumption) | assumption)); (obtain ⟨ad382, A382_1, c382_1, e382, hx382_0, hx382_1, hl382_1, hi382_1⟩ := at_T24 HR1.out x5_1 p382 q382); (obtain rfl : ad380 = ad382 := (by injection e382)); have HR382_1 := Aside0.mk hi382_1; have HC382_1 := Aside0.mk hl382_1; clear hi382_1 hl382_1; replace p382 := eq_true p382; replace q382 := eq_true q382; (have ea_ := Option.some.inj (hx380_1.symm.trans hx382_1)); (injection ea_ with ea_ en_ ec_); subst ea_; subst ec_; clear en_; go_wp2; (repeat (go_quiet (fail); try go_wp2)); (go_meet); (case rel => exact ⟨_, (((((rd_T24 l0 x5_1).f1).length : Int) != (((rd_T24 l1 x5_1).f1).length : Int))), (by first | rfl | (simp; done) | (simp [*]; done)), H', ⟨by have := HK1.out; first | omega | exact Nat.le_refl _⟩, by repeat (first | exact Drawn0.refl _ | apply Drawn0.step)⟩)
                · (rw [if_neg c8] at H); (have c8b0 : (((rd_T24 l0 x5_1).f0).toList == ((rd_T24 l1 x5_1).f0).toList) = false := beq_eq_false_iff_ne.mpr c8); (have c8b1 : (((rd_T24 l0 x5_1).f0).toList != ((rd_T24 l1 x5_1).f0).toList) = true := bne_iff_ne.mpr c8); have H' := Aside0.mk H; clear H; (have p379 : 0 ≤ (x5_1 : Int) := of_decide_eq_true (by first | (with_reducible assumption) | assumption)); (have q379 : x5_1 < (l0.length : Int) := of_decide_eq_true (by first | (with_reducible assumption) | assumption)); (obtain ⟨ad379, A379_1, c379_1, e379, hx379_0, hx379_1, hl379_1, hi379_1⟩ := at_T24 HR0.out x5_1 p379 q379); (cases e379); have HR379_1 := Aside0.mk hi379_1; have HC379_1 := Aside0.mk hl379_1; clear hi379_1 hl379_1; replace p379 := eq_true p379; replace q379 := eq_true q379; (have p380 : 0 ≤ (x5_1 : Int) := of_decide_eq_true (by first | (with_reducible assumption) | assumption)); (have q380 : x5_1 < (l1.length : Int) := of_decide_eq_true (by first | (with_reducible assumption) | assumption)); (obtain ⟨ad380, A380_1, c380_1, e380, hx380_0, hx380_1, hl380_1, hi380_1⟩ := at_T24 HR1.out x5_1 p380 q380); (cases e380); have HR380_1 := Aside0.mk hi380_1; have HC380_1 := Aside0.mk hl380_1; clear hi380_1 hl380_1; replace p380 := eq_true p380; replace q380 := eq_true q380; go_wp2; (repeat (go_quiet (fail); try go_wp2)); (go_meet); (case rel => exact ⟨_, (true), (by first | rfl | (simp; done) | (simp [*]; done)), H', ⟨by have := HK1.out; first | omega | exact Nat.le_refl _⟩, by repeat (first | exact Drawn0.refl _ | apply Drawn0.step)⟩)
              · (rw [if_neg c7] at H); (exact absurd H (by simp))
            · (rw [if_neg c6] at H); (exact absurd H (by simp))
          case rest =>
            clear HC5; (try clear c1); (try clear p2); (try clear c3); (try clear c3b0); (try clear c3b1); (try clear c3b2); (try clear p3); (try clear q3); (try clear hx3); (try clear c4); (try clear c4b0); (try clear c6); (try clear c6b0); (try clear c7); (try clear c7b0); (try clear c8); (try clear c8b0); (try clear c8b1); (try clear hx379_0); (try clear hx379_1); (try clear hx380_0); (try clear hx380_1); (try clear hx381_0); (try clear hx381_1); (try clear hx382_0); (try clear hx382_1); (try clear p2); (try clear p379); (try clear p380); (try clear p381); (try clear p382); (try clear q379); (try clear q380); (try clear q381); (try clear q382); (obtain ⟨kq, x46_4, rfl, HA, HJ4, ⟨mc4, rfl⟩⟩ := hcut)
            cases kq with
            | zero => exact absurd HA.out (by simp [customsref06_SameSegments.j1])
            | succ kj4 =>
              have H := HA.out; clear HA; (simp only [customsref06_SameSegments.j1] at H); (by_cases c9 : x46_4 = true)
              · subst c9; (have H1 : (some false) = some r := by rw [if_pos rfl] at H; exact H); clear H; have H := H1; clear H1; (obtain rfl := Option.some.inj H); go_wp2; (repeat (go_quiet (fail); try go_wp2)); go_ret; (exact ⟨by first | rfl | (simp; done) | (simp [*]; done), by repeat (first | exact Drawn0.refl _ | apply Drawn0.step)⟩)
              · (replace c9 := Bool.eq_false_iff.mpr c9); subst c9; (have H1 : (customsref06_SameSegments.l1 kj4 l0 l1 x5_1 0) = some r := by rw [if_neg (show ¬ (false = true) by decide)] at H; exact H); clear H; have H := H1; clear H1; have H' := Aside0.mk H; clear H; go_wp2; (repeat (go_quiet (fail); try go_wp2)); (go_loopg [6] kj4 (fun kq v6 w' => ∃ (x6_3 : Int), v6 = .int .i64 x6_3 ∧ Aside0 (customsref06_SameSegments.l1 kq l0 l1 x5_1 x6_3 = some r) ∧ Aside0 (kq ≤ kj4) ∧ Drawn0 w w')); (case atStart => exact ⟨(0), (by first | rfl | (simp; done) | (simp [*]; done)), H', ⟨Nat.le_refl _⟩, by repeat (first | exact Drawn0.refl _ | apply Drawn0.step)⟩)
                case round =>
                  clear H'; (try clear c1); (try clear p2); (try clear c3); (try clear c3b0); (try clear c3b1); (try clear c3b2); (try clear p3); (try clear q3); (try clear hx3); (try clear c4); (try clear c4b0); (try clear c6); (try clear c6b0); (try clear c7); (try clear c7b0); (try clear c8); (try clear c8b0); (try clear c8b1); (try clear c9); (try clear hx379_0); (try clear hx379_1); (try clear hx380_0); (try clear hx380_1); (try clear hx381_0); (try clear hx381_1); (try clear hx382_0); (try clear hx382_1); (try clear p2); (try clear p3); (try clear p379); (try clear p380); (try clear p381); (try clear p382); (try clear q3); (try clear q379); (try clear q380); (try clear q381); (try clear q382); (obtain ⟨x6_3, rfl, HA, HK3, ⟨m3, rfl⟩⟩ := hrel)
                  cases gk with
                  | zero => exact absurd HA.out (by simp [customsref06_SameSegments.l1])
                  | succ k3 =>
                    have H := HA.out; clear HA; (simp only [customsref06_SameSegments.l1] at H); (by_cases c10 : 0 ≤ x5_1)
                    · (rw [if_pos c10] at H); (have c10b0 : decide (0 ≤ x5_1) = true := decide_eq_true c10); clear c10; (by_cases c11 : x5_1 < (l0.length : Int))
                      · (rw [if_pos c11] at H); (have c11b0 : decide (x5_1 < (l0.length : Int)) = true := decide_eq_true c11); clear c11; (by_cases c12 : x6_3 < (((rd_T24 l0 x5_1).f1).length : Int))
                        · (rw [if_pos c12] at H); (have c12b0 : decide (x6_3 < (((rd_T24 l0 x5_1).f1).length : Int)) = true := decide_eq_true c12); clear c12; (by_cases c13 : 0 ≤ x6_3)
                          · (rw [if_pos c13] at H); (have c13b0 : decide (0 ≤ x6_3) = true := decide_eq_true c13); clear c13; (by_cases c14 : x5_1 < (l1.length : Int))
                            · (rw [if_pos c14] at H); (have c14b0 : decide (x5_1 < (l1.length : Int)) = true := decide_eq_true c14); clear c14; (by_cases c15 : x6_3 < (((rd_T24 l1 x5_1).f1).length : Int))
                              · (rw [if_pos c15] at H); (have c15b0 : decide (x6_3 < (((rd_T24 l1 x5_1).f1).length : Int)) = true := decide_eq_true c15); clear c15; (by_cases c16 : ((rd_L1 ((rd_T24 l0 x5_1).f1) x6_3).length : Int) = ((rd_L1 ((rd_T24 l1 x5_1).f1) x6_3).length : Int))
                                · (rw [if_pos c16] at H); (have c16b0 : (((rd_L1 ((rd_T24 l0 x5_1).f1) x6_3).length : Int) == ((rd_L1 ((rd_T24 l1 x5_1).f1) x6_3).length : Int)) = true := beq_iff_eq.mpr c16); (have c16b1 : (((rd_L1 ((rd_T24 l0 x5_1).f1) x6_3).length : Int) != ((rd_L1 ((rd_T24 l1 x5_1).f1) x6_3).length : Int)) = false := bne_eq_false_iff_eq.mpr c16); (have c16b2 : ((rd_L1 ((rd_T24 l0 x5_1).f1) x6_3).length == (rd_L1 ((rd_T24 l1 x5_1).f1) x6_3).length) = true := by first | simpa using c16 | (simp at c16 ⊢; omega)); clear c16; have H' := Aside0.mk H; clear H; (have p383 : 0 ≤ (x5_1 : Int) := of_decide_eq_true (by first | (with_reducible assumption) | assumption)); (have q383 : x5_1 < (l0.length : Int) := of_decide_eq_true (by first | (with_reducible assumption) | assumption)); (obtain ⟨ad383, A383_1, c383_1, e383, hx383_0, hx383_1, hl383_1, hi383_1⟩ := at_T24 HR0.out x5_1 p383 q383); (cases e383); have HR383_1 := Aside0.mk hi383_1; have HC383_1 := Aside0.mk hl383_1; clear hi383_1 hl383_1; replace p383 := eq_true p383; replace q383 := eq_true q383; (have p384 : 0 ≤ (x5_1 : Int) := of_decide_eq_true (by first | (with_reducible assumption) | assumption)); (have q384 : x5_1 < (l0.length : Int) := of_decide_eq_true (by first | (with_reducible assumption) | assumption)); (obtain ⟨ad384, A384_1, c384_1, e384, hx384_0, hx384_1, hl384_1, hi384_1⟩ := at_T24 HR0.out x5_1 p384 q384); (obtain rfl : ad383 = ad384 := (by injection e384)); have HR384_1 := Aside0.mk hi384_1; have HC384_1 := Aside0.mk hl384_1; clear hi384_1 hl384_1; replace p384 := eq_true p384; replace q384 := eq_true q384; (have ea_ := Option.some.inj (hx383_1.symm.trans hx384_1)); (injection ea_ with ea_ en_ ec_); subst ea_; subst ec_; clear en_; (have p385 : 0 ≤ (x6_3 : Int) := of_decide_eq_true (by first | (with_reducible assumption) | assumption)); (have q385 : x6_3 < (((rd_T24 l0 x5_1).f1).length : Int) := of_decide_eq_true (by first | (with_reducible assumption) | assumption)); (obtain ⟨ad385, A385_0, c385_0, e385, hx385_0, hl385_0, hi385_0⟩ := at_L1 HR384_1.out x6_3 p385 q385); (cases e385); have HR385_0 := Aside0.mk hi385_0; have HC385_0 := Aside0.mk hl385_0; clear hi385_0 hl385_0; replace p385 := eq_true p385; replace q385 := eq_true q385; (have p386 : 0 ≤ (x5_1 : Int) := of_decide_eq_true (by first | (with_reducible assumption) | assumption)); (have q386 : x5_1 < (l1.length : Int) := of_decide_eq_true (by first | (with_reducible assumption) | assumption)); (obtain ⟨ad386, A386_1, c386_1, e386, hx386_0, hx386_1, hl386_1, hi386_1⟩ := at_T24 HR1.out x5_1 p386 q386); (cases e386); have HR386_1 := Aside0.mk hi386_1; have HC386_1 := Aside0.mk hl386_1; clear hi386_1 hl386_1; replace p386 := eq_true p386; replace q386 := eq_true q386; (have p387 : 0 ≤ (x6_3 : Int) := of_decide_eq_true (by first | (with_reducible assumption) | assumption)); (have q387 : x6_3 < (((rd_T24 l1 x5_1).f1).length : Int) := of_decide_eq_true (by first | (with_reducible assumption) | assumption)); (obtain ⟨ad387, A387_0, c387_0, e387, hx387_0, hl387_0, hi387_0⟩ := at_L1 HR386_1.out x6_3 p387 q387); (cases e387); have HR387_0 := Aside0.mk hi387_0; have HC387_0 := Aside0.mk hl387_0; clear hi387_0 hl387_0; replace p387 := eq_true p387; replace q387 := eq_true q387; go_wp2; (repeat (go_quiet (fail); try go_wp2)); (go_loopg [9] k3 (fun kq v9 w' => ∃ (x9_4 : Int), v9 = .int .i64 x9_4 ∧ Aside0 (customsref06_SameSegments.l2 kq l0 l1 x5_1 x6_3 (rd_L1 ((rd_T24 l0 x5_1).f1) x6_3) (rd_L1 ((rd_T24 l1 x5_1).f1) x6_3) x9_4 = some r) ∧ Aside0 (kq ≤ k3) ∧ Drawn0 w w')); (case atStart => exact ⟨(0), (by first | rfl | (simp; done) | (simp [*]; done)), H', ⟨Nat.le_refl _⟩, by repeat (first | exact Drawn0.refl _ | apply Drawn0.step)⟩)
                                  case round =>
                                    clear H'; (try clear c1); (try clear p2); (try clear c3); (try clear c3b0); (try clear c3b1); (try clear c3b2); (try clear p3); (try clear q3); (try clear hx3); (try clear c4); (try clear c4b0); (try clear c6); (try clear c6b0); (try clear c7); (try clear c7b0); (try clear c8); (try clear c8b0); (try clear c8b1); (try clear c9); (try clear c10); (try clear c10b0); (try clear c11); (try clear c11b0); (try clear c12); (try clear c12b0); (try clear c13); (try clear c13b0); (try clear c14); (try clear c14b0); (try clear c15); (try clear c15b0); (try clear c16); (try clear c16b0); (try clear c16b1); (try clear c16b2); (try clear hx379_0); (try clear hx379_1); (try clear hx380_0); (try clear hx380_1); (try clear hx381_0); (try clear hx381_1); (try clear hx382_0); (try clear hx382_1); (try clear hx383_0); (try clear hx383_1); (try clear hx384_0); (try clear hx384_1); (try clear hx385_0); (try clear hx386_0); (try clear hx386_1); (try clear hx387_0); (try clear p2); (try clear p3); (try clear p379); (try clear p380); (try clear p381); (try clear p382); (try clear p383); (try clear p384); (try clear p385); (try clear p386); (try clear p387); (try clear q3); (try clear q379); (try clear q380); (try clear q381); (try clear q382); (try clear q383); (try clear q384); (try clear q385); (try clear q386); (try clear q387); (obtain ⟨x9_4, rfl, HA, HK4, ⟨m4, rfl⟩⟩ := hrel)
                                    cases gk with
                                    | zero => exact absurd HA.out (by simp [customsref06_SameSegments.l2])
                                    | succ k4 =>
                                      have H := HA.out; clear HA; (simp only [customsref06_SameSegments.l2] at H); (by_cases c17 : x9_4 < ((rd_L1 ((rd_T24 l0 x5_1).f1) x6_3).length : Int))
                                      · (rw [if_pos c17] at H); (have c17b0 : decide (x9_4 < ((rd_L1 ((rd_T24 l0 x5_1).f1) x6_3).length : Int)) = true := decide_eq_true c17); clear c17; (by_cases c18 : 0 ≤ x9_4)
                                        · (rw [if_pos c18] at H); (have c18b0 : decide (0 ≤ x9_4) = true := decide_eq_true c18); clear c18; (by_cases c19 : x9_4 < ((rd_L1 ((rd_T24 l1 x5_1).f1) x6_3).length : Int))
                                          · (rw [if_pos c19] at H); (have c19b0 : decide (x9_4 < ((rd_L1 ((rd_T24 l1 x5_1).f1) x6_3).length : Int)) = true := decide_eq_true c19); clear c19; (by_cases c20 : (rdOf ByteArray.empty (rd_L1 ((rd_T24 l0 x5_1).f1) x6_3) x9_4).toList = (rdOf ByteArray.empty (rd_L1 ((rd_T24 l1 x5_1).f1) x6_3) x9_4).toList)
                                            · (rw [if_pos c20] at H); (have c20b0 : ((rdOf ByteArray.empty (rd_L1 ((rd_T24 l0 x5_1).f1) x6_3) x9_4).toList == (rdOf ByteArray.empty (rd_L1 ((rd_T24 l1 x5_1).f1) x6_3) x9_4).toList) = true := beq_iff_eq.mpr c20); (have c20b1 : ((rdOf ByteArray.empty (rd_L1 ((rd_T24 l0 x5_1).f1) x6_3) x9_4).toList != (rdOf ByteArray.empty (rd_L1 ((rd_T24 l1 x5_1).f1) x6_3) x9_4).toList) = false := bne_eq_false_iff_eq.mpr c20); clear c20; have H' := Aside0.mk H; clear H; (have p388 : 0 ≤ (x9_4 : Int) := of_decide_eq_true (by first | (with_reducible assumption) | assumption)); (have q388 : x9_4 < ((rd_L1 ((rd_T24 l0 x5_1).f1) x6_3).length : Int) := of_decide_eq_true (by first | (with_reducible assumption) | assumption)); (obtain ⟨ad388, e388, hx388_0⟩ := Kd.at_string HR385_0.out x9_4 p388 q388); (cases e388); replace p388 := eq_true p388; replace q388 := eq_true q388; (have p389 : 0 ≤ (x9_4 : Int) := of_decide_eq_true (by first | (with_reducible assumption) | assumption)); (have q389 : x9_4 < ((rd_L1 ((rd_T24 l1 x5_1).f1) x6_3).length : Int) := of_decide_eq_true (by first | (with_reducible assumption) | assumption)); (obtain ⟨ad389, e389, hx389_0⟩ := Kd.at_string HR387_0.out x9_4 p389 q389); (cases e389); replace p389 := eq_true p389; replace q389 := eq_true q389; go_wp2; (repeat (go_quiet (fail); try go_wp2)); (go_roundg k4); (case measure => have := HK1.out; have := HJ4.out; have := HK3.out; have := HK4.out; omega); (case rel => exact ⟨(wrap64 (x9_4 + 1)), (by first | rfl | (simp; done) | (simp [*]; done)), H', ⟨by have := HK1.out; have := HJ4.out; have := HK3.out; have := HK4.out; omega⟩, by repeat (first | exact Drawn0.refl _ | apply Drawn0.step)⟩)
                                            · (rw [if_neg c20] at H); (have c20b0 : ((rdOf ByteArray.empty (rd_L1 ((rd_T24 l0 x5_1).f1) x6_3) x9_4).toList == (rdOf ByteArray.empty (rd_L1 ((rd_T24 l1 x5_1).f1) x6_3) x9_4).toList) = false := beq_eq_false_iff_ne.mpr c20); (have c20b1 : ((rdOf ByteArray.empty (rd_L1 ((rd_T24 l0 x5_1).f1) x6_3) x9_4).toList != (rdOf ByteArray.empty (rd_L1 ((rd_T24 l1 x5_1).f1) x6_3) x9_4).toList) = true := bne_iff_ne.mpr c20); (obtain rfl := Option.some.inj H); (have p388 : 0 ≤ (x9_4 : Int) := of_decide_eq_true (by first | (with_reducible assumption) | assumption)); (have q388 : x9_4 < ((rd_L1 ((rd_T24 l0 x5_1).f1) x6_3).length : Int) := of_decide_eq_true (by first | (with_reducible assumption) | assumption)); (obtain ⟨ad388, e388, hx388_0⟩ := Kd.at_string HR385_0.out x9_4 p388 q388); (cases e388); replace p388 := eq_true p388; replace q388 := eq_true q388; (have p389 : 0 ≤ (x9_4 : Int) := of_decide_eq_true (by first | (with_reducible assumption) | assumption)); (have q389 : x9_4 < ((rd_L1 ((rd_T24 l1 x5_1).f1) x6_3).length : Int) := of_decide_eq_true (by first | (with_reducible assumption) | assumption)); (obtain ⟨ad389, e389, hx389_0⟩ := Kd.at_string HR387_0.out x9_4 p389 q389); (cases e389); replace p389 := eq_true p389; replace q389 := eq_true q389; go_wp2; (repeat (go_quiet (fail); try go_wp2)); go_ret; (exact ⟨by first | rfl | (simp; done) | (simp [*]; done), by repeat (first | exact Drawn0.refl _ | apply Drawn0.step)⟩)
                                          · (rw [if_neg c19] at H); (exact absurd H (by simp))
                                        · (rw [if_neg c18] at H); (exact absurd H (by simp))
                                      · (rw [if_neg c17] at H); (have c17b0 : decide (x9_4 < ((rd_L1 ((rd_T24 l0 x5_1).f1) x6_3).length : Int)) = false := decide_eq_false c17); clear c17; have H' := Aside0.mk H; clear H; go_wp2; (repeat (go_quiet (fail); try go_wp2)); (go_roundg k4); (case measure => have := HK1.out; have := HJ4.out; have := HK3.out; have := HK4.out; omega); (case rel => exact ⟨(wrap64 (x6_3 + 1)), (by first | rfl | (simp; done) | (simp [*]; done)), H', ⟨by have := HK1.out; have := HJ4.out; have := HK3.out; have := HK4.out; omega⟩, by repeat (first | exact Drawn0.refl _ | apply Drawn0.step)⟩)
                                · (rw [if_neg c16] at H); (have c16b0 : (((rd_L1 ((rd_T24 l0 x5_1).f1) x6_3).length : Int) == ((rd_L1 ((rd_T24 l1 x5_1).f1) x6_3).length : Int)) = false := beq_eq_false_iff_ne.mpr c16); (have c16b1 : (((rd_L1 ((rd_T24 l0 x5_1).f1) x6_3).length : Int) != ((rd_L1 ((rd_T24 l1 x5_1).f1) x6_3).length : Int)) = true := bne_iff_ne.mpr c16); (have c16b2 : ((rd_L1 ((rd_T24 l0 x5_1).f1) x6_3).length == (rd_L1 ((rd_T24 l1 x5_1).f1) x6_3).length) = false := by first | simpa using c16 | (simp at c16 ⊢; omega)); (obtain rfl := Option.some.inj H); (have p383 : 0 ≤ (x5_1 : Int) := of_decide_eq_true (by first | (with_reducible assumption) | assumption)); (have q383 : x5_1 < (l0.length : Int) := of_decide_eq_true (by first | (with_reducible assumption) | assumption)); (obtain ⟨ad383, A383_1, c383_1, e383, hx383_0, hx383_1, hl383_1, hi383_1⟩ := at_T24 HR0.out x5_1 p383 q383); (cases e383); have HR383_1 := Aside0.mk hi383_1; have HC383_1 := Aside0.mk hl383_1; clear hi383_1 hl383_1; replace p383 := eq_true p383; replace q383 := eq_true q383; (have p384 : 0 ≤ (x5_1 : Int) := of_decide_eq_true (by first | (with_reducible assumption) | assumption)); (have q384 : x5_1 < (l0.length : Int) := of_decide_eq_true (by first | (with_reducible assumption) | assumption)); (obtain ⟨ad384, A384_1, c384_1, e384, hx384_0, hx384_1, hl384_1, hi384_1⟩ := at_T24 HR0.out x5_1 p384 q384); (obtain rfl : ad383 = ad384 := (by injection e384)); have HR384_1 := Aside0.mk hi384_1; have HC384_1 := Aside0.mk hl384_1; clear hi384_1 hl384_1; replace p384 := eq_true p384; replace q384 := eq_true q384; (have ea_ := Option.some.inj (hx383_1.symm.trans hx384_1)); (injection ea_ with ea_ en_ ec_); subst ea_; subst ec_; clear en_; (have p385 : 0 ≤ (x6_3 : Int) := of_decide_eq_true (by first | (with_reducible assumption) | assumption)); (have q385 : x6_3 < (((rd_T24 l0 x5_1).f1).length : Int) := of_decide_eq_true (by first | (with_reducible assumption) | assumption)); (obtain ⟨ad385, A385_0, c385_0, e385, hx385_0, hl385_0, hi385_0⟩ := at_L1 HR384_1.out x6_3 p385 q385); (cases e385); have HR385_0 := Aside0.mk hi385_0; have HC385_0 := Aside0.mk hl385_0; clear hi385_0 hl385_0; replace p385 := eq_true p385; replace q385 := eq_true q385; (have p386 : 0 ≤ (x5_1 : Int) := of_decide_eq_true (by first | (with_reducible assumption) | assumption)); (have q386 : x5_1 < (l1.length : Int) := of_decide_eq_true (by first | (with_reducible assumption) | assumption)); (obtain ⟨ad386, A386_1, c386_1, e386, hx386_0, hx386_1, hl386_1, hi386_1⟩ := at_T24 HR1.out x5_1 p386 q386); (cases e386); have HR386_1 := Aside0.mk hi386_1; have HC386_1 := Aside0.mk hl386_1; clear hi386_1 hl386_1; replace p386 := eq_true p386; replace q386 := eq_true q386; (have p387 : 0 ≤ (x6_3 : Int) := of_decide_eq_true (by first | (with_reducible assumption) | assumption)); (have q387 : x6_3 < (((rd_T24 l1 x5_1).f1).length : Int) := of_decide_eq_true (by first | (with_reducible assumption) | assumption)); (obtain ⟨ad387, A387_0, c387_0, e387, hx387_0, hl387_0, hi387_0⟩ := at_L1 HR386_1.out x6_3 p387 q387); (cases e387); have HR387_0 := Aside0.mk hi387_0; have HC387_0 := Aside0.mk hl387_0; clear hi387_0 hl387_0; replace p387 := eq_true p387; replace q387 := eq_true q387; go_wp2; (repeat (go_quiet (fail); try go_wp2)); go_ret; (exact ⟨by first | rfl | (simp; done) | (simp [*]; done), by repeat (first | exact Drawn0.refl _ | apply Drawn0.step)⟩)
                              · (rw [if_neg c15] at H); (exact absurd H (by simp))
                            · (rw [if_neg c14] at H); (exact absurd H (by simp))
                          · (rw [if_neg c13] at H); (exact absurd H (by simp))
                        · (rw [if_neg c12] at H); (have c12b0 : decide (x6_3 < (((rd_T24 l0 x5_1).f1).length : Int)) = false := decide_eq_false c12); clear c12; have H' := Aside0.mk H; clear H; (have p383 : 0 ≤ (x5_1 : Int) := of_decide_eq_true (by first | (with_reducible assumption) | assumption)); (have q383 : x5_1 < (l0.length : Int) := of_decide_eq_true (by first | (with_reducible assumption) | assumption)); (obtain ⟨ad383, A383_1, c383_1, e383, hx383_0, hx383_1, hl383_1, hi383_1⟩ := at_T24 HR0.out x5_1 p383 q383); (cases e383); have HR383_1 := Aside0.mk hi383_1; have HC383_1 := Aside0.mk hl383_1; clear hi383_1 hl383_1; replace p383 := eq_true p383; replace q383 := eq_true q383; go_wp2; (repeat (go_quiet (fail); try go_wp2)); (go_roundg k3); (case measure => have := HK1.out; have := HJ4.out; have := HK3.out; omega); (case rel => exact ⟨(wrap64 (x5_1 + 1)), (by first | rfl | (simp; done) | (simp [*]; done)), H', ⟨by have := HK1.out; have := HJ4.out; have := HK3.out; omega⟩, by repeat (first | exact Drawn0.refl _ | apply Drawn0.step)⟩)
                      · (rw [if_neg c11] at H); (exact absurd H (by simp))
                    · (rw [if_neg c10] at H); (exact absurd H (by simp))
        · (rw [if_neg c4] at H); (have c4b0 : decide (x5_1 < (l0.length : Int)) = false := decide_eq_false c4); clear c4; (obtain rfl := Option.some.inj H); go_wp2; (repeat (go_quiet (fail); try go_wp2)); go_ret; (exact ⟨by first | rfl | (simp; done) | (simp [*]; done), by repeat (first | exact Drawn0.refl _ | apply Drawn0.step)⟩)
  · (rw [if_neg c3] at H); (have c3b0 : ((l0.length : Int) == (l1.length : Int)) = false := beq_eq_false_iff_ne.mpr c3); (have c3b1 : ((l0.length : Int) != (l1.length : Int)) = true := bne_iff_ne.mpr c3); (have c3b2 : (l0.length == l1.length) = false := by first | simpa using c3 | (simp at c3 ⊢; omega)); (obtain rfl := Option.some.inj H); (go_enter Try.func17, Try.ntmps17); go_wp2; (repeat (go_quiet (fail); try go_wp2)); go_ret; (exact ⟨by first | rfl | (simp; done) | (simp [*]; done), by repeat (first | exact Drawn0.refl _ | apply Drawn0.step)⟩)
end Go.Proofs.Ythdahpnjiighfaa.F
