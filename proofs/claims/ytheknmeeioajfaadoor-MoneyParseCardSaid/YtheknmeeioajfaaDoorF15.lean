-- printed by this session's own copy of a printing program, out of the translation
import Derived.Test.YtheknmeeioajfaaDoorF0
import Derived.Test.YtheknmeeioajfaaDoorF13
namespace Go.Proofs.YtheknmeeioajfaaDoor.F
open Go.RowKit Go.Proofs.YtheknmeeioajfaaDoorW.PrintWords Go.Proofs.YtheknmeeioajfaaDoorW.PrintLast Go.Proofs.YtheknmeeioajfaaDoorW.PrintMore
attribute [local go_sem] max2_int min2_int max_two min_two max_three min_three max_four min_four   -- for this text's walks alone
set_option linter.unusedVariables false
set_option linter.unusedSimpArgs false

/-! ### customsref02_Parse: function 18 -/
mutual
def customsref02_Parse.l0 : Nat → ByteArray → Int → Int → Int → Option (Int × Int)
  | 0, _, _, _, _ => none
  | k + 1, x0, x4, x5, x6 => if x6 < (x0.size : Int) then (customsref02_Parse.j1 k x0 x4 x5 x6 (decide (x6 < 20))) else (customsref02_Parse.j1 k x0 x4 x5 x6 false)
def customsref02_Parse.j1 : Nat → ByteArray → Int → Int → Int → Bool → Option (Int × Int)
  | 0, _, _, _, _, _ => none
  | k + 1, x0, x4, x5, x6, x14 => if x14 = true then (if 0 ≤ x6 then (if x6 < (x0.size : Int) then (if (bt x0 x6) = 45 then (customsref02_Parse.l0 k x0 x4 (-1) (wrap64 (x6 + 1))) else (if (bt x0 x6) ≥ 48 then (if (bt x0 x6) ≤ 57 then (if x4 ≤ 1000000000000 then (customsref02_Parse.l0 k x0 (wrap64 ((wrap64 (10 * x4)) + (((bt x0 x6) - 48) % 256))) x5 (wrap64 (x6 + 1))) else (customsref02_Parse.l0 k x0 x4 x5 (wrap64 (x6 + 1)))) else (customsref02_Parse.l0 k x0 x4 x5 (wrap64 (x6 + 1)))) else (customsref02_Parse.l0 k x0 x4 x5 (wrap64 (x6 + 1))))) else (none)) else (none)) else (if x0.toList = ([] : List UInt8) then (some (0, 4)) else ((customsref02_Format.f k (wrap64 (x5 * x4))).bind fun t231 => (if t231.toList = x0.toList then (some (wrap64 (x5 * x4), 0)) else (some (0, 4)))))
end
def customsref02_Parse.f (k : Nat) (a0 : ByteArray) : Option (Int × Int) := customsref02_Parse.l0 k a0 0 1 0
theorem customsref02_Parse.mono_l : ∀ k, (∀ y0 y1 y2 y3, LeO (customsref02_Parse.l0 k y0 y1 y2 y3) (customsref02_Parse.l0 (k + 1) y0 y1 y2 y3)) ∧ (∀ y0 y1 y2 y3 y4, LeO (customsref02_Parse.j1 k y0 y1 y2 y3 y4) (customsref02_Parse.j1 (k + 1) y0 y1 y2 y3 y4))
  | 0 => ⟨fun _ _ _ _ r h => by simp [customsref02_Parse.l0] at h, fun _ _ _ _ _ r h => by simp [customsref02_Parse.j1] at h⟩
  | k + 1 => by
    obtain ⟨ih0, ih1⟩ := customsref02_Parse.mono_l k
    refine ⟨?_, ?_⟩
    · intro y0 y1 y2 y3
      unfold customsref02_Parse.l0
      repeat' first
      | (with_reducible exact ih0 _ _ _ _)
      | (with_reducible exact ih1 _ _ _ _ _)
      | (with_reducible exact customsref02_Format.mono _ _)
      | (with_reducible exact LeO.refl _)
      | (with_reducible exact LeO.none _)
      | (with_reducible refine LeO.ite ?_ ?_)
      | (with_reducible refine LeO.bind ?_ (fun _ => ?_))
      | exact ih0 _ _ _ _
      | exact ih1 _ _ _ _ _
      | exact customsref02_Format.mono _ _
      | exact LeO.none _
      | refine LeO.ite ?_ ?_
      | refine LeO.bind ?_ (fun _ => ?_)
    · intro y0 y1 y2 y3 y4
      unfold customsref02_Parse.j1
      repeat' first
      | (with_reducible exact ih0 _ _ _ _)
      | (with_reducible exact ih1 _ _ _ _ _)
      | (with_reducible exact customsref02_Format.mono _ _)
      | (with_reducible exact LeO.refl _)
      | (with_reducible exact LeO.none _)
      | (with_reducible refine LeO.ite ?_ ?_)
      | (with_reducible refine LeO.bind ?_ (fun _ => ?_))
      | exact ih0 _ _ _ _
      | exact ih1 _ _ _ _ _
      | exact customsref02_Format.mono _ _
      | exact LeO.none _
      | refine LeO.ite ?_ ?_
      | refine LeO.bind ?_ (fun _ => ?_)
theorem customsref02_Parse.mono : ∀ a0 k, LeO (customsref02_Parse.f k a0) (customsref02_Parse.f (k + 1) a0) := by
  intro a0 k
  obtain ⟨ih0, ih1⟩ := customsref02_Parse.mono_l k
  unfold customsref02_Parse.f
  repeat' first
      | (with_reducible exact ih0 _ _ _ _)
      | (with_reducible exact ih1 _ _ _ _ _)
      | (with_reducible exact customsref02_Format.mono _ _)
      | (with_reducible exact LeO.refl _)
      | (with_reducible exact LeO.none _)
      | (with_reducible refine LeO.ite ?_ ?_)
      | (with_reducible refine LeO.bind ?_ (fun _ => ?_))
      | exact ih0 _ _ _ _
      | exact ih1 _ _ _ _ _
      | exact customsref02_Format.mono _ _
      | exact LeO.none _
      | refine LeO.ite ?_ ?_
      | refine LeO.bind ?_ (fun _ => ?_)
set_option maxHeartbeats 8000000 in
set_option maxRecDepth 100000 in
theorem customsref02_Parse.calls (k : Nat) (a0 : ByteArray) (r1 : Int) (r2 : Int) (w : World) (h : customsref02_Parse.f k a0 = some (r1, r2)) :
    Calls Tryd.prog 18 #[.string a0] w fun e w' => e = .returned (.tuple #[.int .i64 r1, .int .i64 r2]) ∧ Below w.heap.size w w' := by
  have HB := Aside0.mk (Below.refl w.heap.size w)
  have H : (customsref02_Parse.l0 k a0 0 1 0) = some (r1, r2) := h
  clear h
  have H' := Aside0.mk H
  clear H
  go_enter Tryd.func18, Tryd.ntmps18
  go_wp2
  go_loopg [4, 5, 6] k (fun kq v4 v5 v6 w' => ∃ (x4_1 : Int) (x5_1 : Int) (x6_1 : Int), v4 = .int .i64 x4_1 ∧ v5 = .int .i64 x5_1 ∧ v6 = .int .i64 x6_1 ∧ Aside0 (customsref02_Parse.l0 kq a0 x4_1 x5_1 x6_1 = some (r1, r2)) ∧ Aside0 (kq ≤ k) ∧ Aside0 (Below w.heap.size w w'))
  case atStart => exact ⟨(0), (1), (0), (by first | rfl | (simp; done) | (simp [*]; done)), (by first | rfl | (simp; done) | (simp [*]; done)), (by first | rfl | (simp; done) | (simp [*]; done)), H', ⟨Nat.le_refl _⟩, ⟨by repeat (first | (with_reducible first | exact HB.out | apply below_alloc | apply pw_below_drewN | apply below_drew1) | exact HB.out)⟩⟩
  case round =>
    clear H'
    try clear c1
    obtain ⟨x4_1, x5_1, x6_1, rfl, rfl, rfl, HA, HK1, HB⟩ := hrel
    cases gk with
    | zero => exact absurd HA.out (by simp [customsref02_Parse.l0])
    | succ k1 =>
      have H := HA.out
      clear HA
      simp only [customsref02_Parse.l0] at H
      have HC2 := Aside0.mk H
      clear H
      go_upto_region 3 with (fail)
      go_cut [14] (fun v14 wc => ∃ (kq : Nat) (x14_1 : Bool), v14 = .bool x14_1 ∧ Aside0 (customsref02_Parse.j1 kq a0 x4_1 x5_1 x6_1 x14_1 = some (r1, r2)) ∧ Aside0 (kq ≤ k1) ∧ Aside0 (Below w.heap.size w wc))
      case first =>
        have H := HC2.out
        clear HC2
        by_cases c3 : x6_1 < (a0.size : Int)
        · rw [if_pos c3] at H
          have c3b0 : decide (x6_1 < (a0.size : Int)) = true := decide_eq_true c3
          clear c3
          (first | rw [c3b0] | (simp only [i64_w, i32_w]; rw [c3b0]) | skip)
          have H' := Aside0.mk H
          clear H
          go_wp2
          go_meet
          case rel => exact ⟨_, (decide (x6_1 < 20)), (by first | rfl | (simp; done) | (simp [*]; done)), H', ⟨by have := HK1.out; first | omega | exact Nat.le_refl _⟩, ⟨by repeat (first | (with_reducible first | exact HB.out | apply below_alloc | apply pw_below_drewN | apply below_drew1) | exact HB.out)⟩⟩
        · rw [if_neg c3] at H
          have c3b0 : decide (x6_1 < (a0.size : Int)) = false := decide_eq_false c3
          clear c3
          (first | rw [c3b0] | (simp only [i64_w, i32_w]; rw [c3b0]) | skip)
          have H' := Aside0.mk H
          clear H
          go_wp2
          go_meet
          case rel => exact ⟨_, (false), (by first | rfl | (simp; done) | (simp [*]; done)), H', ⟨by have := HK1.out; first | omega | exact Nat.le_refl _⟩, ⟨by repeat (first | (with_reducible first | exact HB.out | apply below_alloc | apply pw_below_drewN | apply below_drew1) | exact HB.out)⟩⟩
      case rest =>
        clear HC2
        try clear c1
        try clear p2
        try clear c3
        try clear c3b0
        obtain ⟨kq, x14_1, rfl, HA, HJ1, HB⟩ := hcut
        cases kq with
        | zero => exact absurd HA.out (by simp [customsref02_Parse.j1])
        | succ kj1 =>
          have H := HA.out
          clear HA
          simp only [customsref02_Parse.j1] at H
          by_cases c4 : x14_1 = true
          · subst c4
            have H1 : (if 0 ≤ x6_1 then (if x6_1 < (a0.size : Int) then (if (bt a0 x6_1) = 45 then (customsref02_Parse.l0 kj1 a0 x4_1 (-1) (wrap64 (x6_1 + 1))) else (if (bt a0 x6_1) ≥ 48 then (if (bt a0 x6_1) ≤ 57 then (if x4_1 ≤ 1000000000000 then (customsref02_Parse.l0 kj1 a0 (wrap64 ((wrap64 (10 * x4_1)) + (((bt a0 x6_1) - 48) % 256))) x5_1 (wrap64 (x6_1 + 1))) else (customsref02_Parse.l0 kj1 a0 x4_1 x5_1 (wrap64 (x6_1 + 1)))) else (customsref02_Parse.l0 kj1 a0 x4_1 x5_1 (wrap64 (x6_1 + 1)))) else (customsref02_Parse.l0 kj1 a0 x4_1 x5_1 (wrap64 (x6_1 + 1))))) else (none)) else (none)) = some (r1, r2) := by rw [if_pos rfl] at H; exact H
            clear H
            have H := H1
            clear H1
            by_cases c5 : 0 ≤ x6_1
            · rw [if_pos c5] at H
              have c5b0 : decide (0 ≤ x6_1) = true := decide_eq_true c5
              clear c5
              by_cases c6 : x6_1 < (a0.size : Int)
              · rw [if_pos c6] at H
                have c6b0 : decide (x6_1 < (a0.size : Int)) = true := decide_eq_true c6
                clear c6
                by_cases c8 : (bt a0 x6_1) = 45
                · rw [if_pos c8] at H
                  have c8b0 : ((bt a0 x6_1) == 45) = true := beq_iff_eq.mpr c8
                  have c8b1 : ((bt a0 x6_1) != 45) = false := bne_eq_false_iff_eq.mpr c8
                  clear c8
                  have H' := Aside0.mk H
                  clear H
                  have p7 : 0 ≤ (x6_1 : Int) := of_decide_eq_true (by first | (with_reducible assumption) | assumption)
                  have q7 : x6_1 < (a0.size : Int) := of_decide_eq_true (by first | (with_reducible assumption) | assumption)
                  have hx7 := bt_at a0 x6_1
                  replace p7 := eq_true p7
                  replace q7 := eq_true q7
                  go_wp2
                  go_roundg kj1
                  case measure => have := HK1.out; have := HJ1.out; omega
                  case rel => exact ⟨(x4_1), ((-1)), (wrap64 (x6_1 + 1)), (by first | rfl | (simp; done) | (simp [*]; done)), (by first | rfl | (simp; done) | (simp [*]; done)), (by first | rfl | (simp; done) | (simp [*]; done)), H', ⟨by have := HK1.out; have := HJ1.out; omega⟩, ⟨by repeat (first | (with_reducible first | exact HB.out | apply below_alloc | apply pw_below_drewN | apply below_drew1) | exact HB.out)⟩⟩
                · rw [if_neg c8] at H
                  have c8b0 : ((bt a0 x6_1) == 45) = false := beq_eq_false_iff_ne.mpr c8
                  have c8b1 : ((bt a0 x6_1) != 45) = true := bne_iff_ne.mpr c8
                  by_cases c10 : (bt a0 x6_1) ≥ 48
                  · rw [if_pos c10] at H
                    have c10b0 : decide (48 ≤ (bt a0 x6_1)) = true := decide_eq_true c10
                    clear c10
                    by_cases c12 : (bt a0 x6_1) ≤ 57
                    · rw [if_pos c12] at H
                      have c12b0 : decide ((bt a0 x6_1) ≤ 57) = true := decide_eq_true c12
                      clear c12
                      by_cases c13 : x4_1 ≤ 1000000000000
                      · rw [if_pos c13] at H
                        have c13b0 : decide (x4_1 ≤ 1000000000000) = true := decide_eq_true c13
                        clear c13
                        have H' := Aside0.mk H
                        clear H
                        have p7 : 0 ≤ (x6_1 : Int) := of_decide_eq_true (by first | (with_reducible assumption) | assumption)
                        have q7 : x6_1 < (a0.size : Int) := of_decide_eq_true (by first | (with_reducible assumption) | assumption)
                        have hx7 := bt_at a0 x6_1
                        replace p7 := eq_true p7
                        replace q7 := eq_true q7
                        have p9 : 0 ≤ (x6_1 : Int) := of_decide_eq_true (by first | (with_reducible assumption) | assumption)
                        have q9 : x6_1 < (a0.size : Int) := of_decide_eq_true (by first | (with_reducible assumption) | assumption)
                        have hx9 := bt_at a0 x6_1
                        replace p9 := eq_true p9
                        replace q9 := eq_true q9
                        have p11 : 0 ≤ (x6_1 : Int) := of_decide_eq_true (by first | (with_reducible assumption) | assumption)
                        have q11 : x6_1 < (a0.size : Int) := of_decide_eq_true (by first | (with_reducible assumption) | assumption)
                        have hx11 := bt_at a0 x6_1
                        replace p11 := eq_true p11
                        replace q11 := eq_true q11
                        have p14 : 0 ≤ (x6_1 : Int) := of_decide_eq_true (by first | (with_reducible assumption) | assumption)
                        have q14 : x6_1 < (a0.size : Int) := of_decide_eq_true (by first | (with_reducible assumption) | assumption)
                        have hx14 := bt_at a0 x6_1
                        replace p14 := eq_true p14
                        replace q14 := eq_true q14
                        go_wp2
                        go_roundg kj1
                        case measure => have := HK1.out; have := HJ1.out; omega
                        case rel => exact ⟨(wrap64 ((wrap64 (10 * x4_1)) + (((bt a0 x6_1) - 48) % 256))), (x5_1), (wrap64 (x6_1 + 1)), (by first | rfl | (simp; done) | (simp [*]; done)), (by first | rfl | (simp; done) | (simp [*]; done)), (by first | rfl | (simp; done) | (simp [*]; done)), H', ⟨by have := HK1.out; have := HJ1.out; omega⟩, ⟨by repeat (first | (with_reducible first | exact HB.out | apply below_alloc | apply pw_below_drewN | apply below_drew1) | exact HB.out)⟩⟩
                      · rw [if_neg c13] at H
                        have c13b0 : decide (x4_1 ≤ 1000000000000) = false := decide_eq_false c13
                        clear c13
                        have H' := Aside0.mk H
                        clear H
                        have p7 : 0 ≤ (x6_1 : Int) := of_decide_eq_true (by first | (with_reducible assumption) | assumption)
                        have q7 : x6_1 < (a0.size : Int) := of_decide_eq_true (by first | (with_reducible assumption) | assumption)
                        have hx7 := bt_at a0 x6_1
                        replace p7 := eq_true p7
                        replace q7 := eq_true q7
                        have p9 : 0 ≤ (x6_1 : Int) := of_decide_eq_true (by first | (with_reducible assumption) | assumption)
                        have q9 : x6_1 < (a0.size : Int) := of_decide_eq_true (by first | (with_reducible assumption) | assumption)
                        have hx9 := bt_at a0 x6_1
                        replace p9 := eq_true p9
                        replace q9 := eq_true q9
                        have p11 : 0 ≤ (x6_1 : Int) := of_decide_eq_true (by first | (with_reducible assumption) | assumption)
                        have q11 : x6_1 < (a0.size : Int) := of_decide_eq_true (by first | (with_reducible assumption) | assumption)
                        have hx11 := bt_at a0 x6_1
                        replace p11 := eq_true p11
                        replace q11 := eq_true q11
                        go_wp2
                        go_roundg kj1
                        case measure => have := HK1.out; have := HJ1.out; omega
                        case rel => exact ⟨(x4_1), (x5_1), (wrap64 (x6_1 + 1)), (by first | rfl | (simp; done) | (simp [*]; done)), (by first | rfl | (simp; done) | (simp [*]; done)), (by first | rfl | (simp; done) | (simp [*]; done)), H', ⟨by have := HK1.out; have := HJ1.out; omega⟩, ⟨by repeat (first | (with_reducible first | exact HB.out | apply below_alloc | apply pw_below_drewN | apply below_drew1) | exact HB.out)⟩⟩
                    · rw [if_neg c12] at H
                      have c12b0 : decide ((bt a0 x6_1) ≤ 57) = false := decide_eq_false c12
                      clear c12
                      have H' := Aside0.mk H
                      clear H
                      have p7 : 0 ≤ (x6_1 : Int) := of_decide_eq_true (by first | (with_reducible assumption) | assumption)
                      have q7 : x6_1 < (a0.size : Int) := of_decide_eq_true (by first | (with_reducible assumption) | assumption)
                      have hx7 := bt_at a0 x6_1
                      replace p7 := eq_true p7
                      replace q7 := eq_true q7
                      have p9 : 0 ≤ (x6_1 : Int) := of_decide_eq_true (by first | (with_reducible assumption) | assumption)
                      have q9 : x6_1 < (a0.size : Int) := of_decide_eq_true (by first | (with_reducible assumption) | assumption)
                      have hx9 := bt_at a0 x6_1
                      replace p9 := eq_true p9
                      replace q9 := eq_true q9
                      have p11 : 0 ≤ (x6_1 : Int) := of_decide_eq_true (by first | (with_reducible assumption) | assumption)
                      have q11 : x6_1 < (a0.size : Int) := of_decide_eq_true (by first | (with_reducible assumption) | assumption)
                      have hx11 := bt_at a0 x6_1
                      replace p11 := eq_true p11
                      replace q11 := eq_true q11
                      go_wp2
                      go_roundg kj1
                      case measure => have := HK1.out; have := HJ1.out; omega
                      case rel => exact ⟨(x4_1), (x5_1), (wrap64 (x6_1 + 1)), (by first | rfl | (simp; done) | (simp [*]; done)), (by first | rfl | (simp; done) | (simp [*]; done)), (by first | rfl | (simp; done) | (simp [*]; done)), H', ⟨by have := HK1.out; have := HJ1.out; omega⟩, ⟨by repeat (first | (with_reducible first | exact HB.out | apply below_alloc | apply pw_below_drewN | apply below_drew1) | exact HB.out)⟩⟩
                  · rw [if_neg c10] at H
                    have c10b0 : decide (48 ≤ (bt a0 x6_1)) = false := decide_eq_false c10
                    clear c10
                    have H' := Aside0.mk H
                    clear H
                    have p7 : 0 ≤ (x6_1 : Int) := of_decide_eq_true (by first | (with_reducible assumption) | assumption)
                    have q7 : x6_1 < (a0.size : Int) := of_decide_eq_true (by first | (with_reducible assumption) | assumption)
                    have hx7 := bt_at a0 x6_1
                    replace p7 := eq_true p7
                    replace q7 := eq_true q7
                    have p9 : 0 ≤ (x6_1 : Int) := of_decide_eq_true (by first | (with_reducible assumption) | assumption)
                    have q9 : x6_1 < (a0.size : Int) := of_decide_eq_true (by first | (with_reducible assumption) | assumption)
                    have hx9 := bt_at a0 x6_1
                    replace p9 := eq_true p9
                    replace q9 := eq_true q9
                    go_wp2
                    go_roundg kj1
                    case measure => have := HK1.out; have := HJ1.out; omega
                    case rel => exact ⟨(x4_1), (x5_1), (wrap64 (x6_1 + 1)), (by first | rfl | (simp; done) | (simp [*]; done)), (by first | rfl | (simp; done) | (simp [*]; done)), (by first | rfl | (simp; done) | (simp [*]; done)), H', ⟨by have := HK1.out; have := HJ1.out; omega⟩, ⟨by repeat (first | (with_reducible first | exact HB.out | apply below_alloc | apply pw_below_drewN | apply below_drew1) | exact HB.out)⟩⟩
              · rw [if_neg c6] at H
                exact absurd H (by simp)
            · rw [if_neg c5] at H
              exact absurd H (by simp)
          · replace c4 := Bool.eq_false_iff.mpr c4
            subst c4
            have H1 : (if a0.toList = ([] : List UInt8) then (some (0, 4)) else ((customsref02_Format.f kj1 (wrap64 (x5_1 * x4_1))).bind fun t231 => (if t231.toList = a0.toList then (some (wrap64 (x5_1 * x4_1), 0)) else (some (0, 4))))) = some (r1, r2) := by rw [if_neg (show ¬ (false = true) by decide)] at H; exact H
            clear H
            have H := H1
            clear H1
            by_cases c15 : a0.toList = ([] : List UInt8)
            · rw [if_pos c15] at H
              have c15b0 : (a0.toList == ([] : List UInt8)) = true := beq_iff_eq.mpr c15
              have c15b1 : (a0.toList != ([] : List UInt8)) = false := bne_eq_false_iff_eq.mpr c15
              clear c15
              simp only [Option.some.injEq, Prod.mk.injEq] at H
              obtain ⟨rfl, rfl⟩ := H
              go_wp2
              go_ret2
              exact ⟨by first | rfl | (simp [errW_none, errW_some] <;> rfl) | (simp [*, errW_none, errW_some] <;> rfl), by repeat (first | (with_reducible first | exact HB.out | apply below_alloc | apply pw_below_drewN | apply below_drew1) | exact HB.out)⟩
            · rw [if_neg c15] at H
              have c15b0 : (a0.toList == ([] : List UInt8)) = false := beq_eq_false_iff_ne.mpr c15
              have c15b1 : (a0.toList != ([] : List UInt8)) = true := bne_iff_ne.mpr c15
              replace H := Option.bind_eq_some_iff.mp H
              obtain ⟨t231, A160, H⟩ := H
              replace H : (if t231.toList = a0.toList then (some (wrap64 (x5_1 * x4_1), 0)) else (some (0, 4))) = some (r1, r2) := H
              have A16 := Aside0.mk A160
              clear A160
              by_cases c17 : t231.toList = a0.toList
              · rw [if_pos c17] at H
                have c17b0 : (t231.toList == a0.toList) = true := beq_iff_eq.mpr c17
                have c17b1 : (t231.toList != a0.toList) = false := bne_eq_false_iff_eq.mpr c17
                clear c17
                simp only [Option.some.injEq, Prod.mk.injEq] at H
                obtain ⟨rfl, rfl⟩ := H
                go_wp2_with (first | (go_at_call 16; (with_reducible refine (customsref02_Format.calls kj1 (wrap64 (x5_1 * x4_1)) t231 _ A16.out).mono ?_); rintro e w18 ⟨rfl, hb⟩; have n0_ := Aside0.mk (below_step (by repeat (first | (with_reducible first | exact HB.out | apply below_alloc | apply pw_below_drewN | apply below_drew1) | exact HB.out)) hb); clear HB; have HB := n0_; clear n0_; (try clear hb); (try clear hb2); (try clear hk); (try clear hi)))
                go_ret2
                exact ⟨by first | rfl | (simp [errW_none, errW_some] <;> rfl) | (simp [*, errW_none, errW_some] <;> rfl), by repeat (first | (with_reducible first | exact HB.out | apply below_alloc | apply pw_below_drewN | apply below_drew1) | exact HB.out)⟩
              · rw [if_neg c17] at H
                have c17b0 : (t231.toList == a0.toList) = false := beq_eq_false_iff_ne.mpr c17
                have c17b1 : (t231.toList != a0.toList) = true := bne_iff_ne.mpr c17
                simp only [Option.some.injEq, Prod.mk.injEq] at H
                obtain ⟨rfl, rfl⟩ := H
                go_wp2_with (first | (go_at_call 16; (with_reducible refine (customsref02_Format.calls kj1 (wrap64 (x5_1 * x4_1)) t231 _ A16.out).mono ?_); rintro e w19 ⟨rfl, hb⟩; have n0_ := Aside0.mk (below_step (by repeat (first | (with_reducible first | exact HB.out | apply below_alloc | apply pw_below_drewN | apply below_drew1) | exact HB.out)) hb); clear HB; have HB := n0_; clear n0_; (try clear hb); (try clear hb2); (try clear hk); (try clear hi)))
                go_ret2
                exact ⟨by first | rfl | (simp [errW_none, errW_some] <;> rfl) | (simp [*, errW_none, errW_some] <;> rfl), by repeat (first | (with_reducible first | exact HB.out | apply below_alloc | apply pw_below_drewN | apply below_drew1) | exact HB.out)⟩

-- NOT PRINTED: function 7 (customslaw02_MoneyParse)

end Go.Proofs.YtheknmeeioajfaaDoor.F
