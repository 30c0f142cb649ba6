-- printed by this session's own copy of a printing program, out of the translation
import Derived.Test.YthdahpnjiighfaaF0
namespace Go.Proofs.Ythdahpnjiighfaa.F
open Go.RowKit Go.Proofs.YthdahpnjiighfaaW.PrintWords Go.Proofs.YthdahpnjiighfaaW.PrintLast Go.Proofs.YthdahpnjiighfaaW.PrintMore
attribute [local go_sem] max2_int min2_int max_two min_two max_three min_three max_four min_four   -- for this text's walks alone
set_option linter.unusedVariables false
set_option linter.unusedSimpArgs false

/-! ### customsref06_Segment: function 10 -/
mutual
def customsref06_Segment.l0 : Nat → Int → ByteArray → List (List ByteArray) → Option (Int)
  | 0, _, _, _ => none
  | k + 1, x3, x111000, x111001 => if x3 < 3 then (if 0 ≤ x3 then (if x3 < (x111000.size : Int) then (if (bt x111000 x3) ≥ 65 then (if (bt x111000 x3) ≥ 48 then (if ((bt x111000 x3) ≤ 90) then (customsref06_Segment.l0 k (wrap64 (x3 + 1)) x111000 x111001) else (if ((bt x111000 x3) ≤ 57) then (if x3 = 0 then (some 1) else (customsref06_Segment.l0 k (wrap64 (x3 + 1)) x111000 x111001)) else (some 1))) else (if ((bt x111000 x3) ≤ 90) then (customsref06_Segment.l0 k (wrap64 (x3 + 1)) x111000 x111001) else (some 1))) else (if (bt x111000 x3) ≥ 48 then (if ((bt x111000 x3) ≤ 57) then (if x3 = 0 then (some 1) else (customsref06_Segment.l0 k (wrap64 (x3 + 1)) x111000 x111001)) else (some 1)) else (some 1))) else (none)) else (none)) else (customsref06_Segment.l1 k (decide ((x111001.length : Int) > 100)) 0 x111000 x111001)
def customsref06_Segment.l1 : Nat → Bool → Int → ByteArray → List (List ByteArray) → Option (Int)
  | 0, _, _, _, _ => none
  | k + 1, x6, x7, x111000, x111001 => if x7 < (x111001.length : Int) then (if x6 = true then (customsref06_Segment.j2 k true x7 x111000 x111001) else (if 0 ≤ x7 then (customsref06_Segment.j2 k (decide (((rd_L1 x111001 x7).length : Int) > 100)) x7 x111000 x111001) else (none))) else (if x6 = true then (some 8) else (customsref06_Segment.l3 k 0 x111000 x111001))
def customsref06_Segment.j2 : Nat → Bool → Int → ByteArray → List (List ByteArray) → Option (Int)
  | 0, _, _, _, _ => none
  | k + 1, x6, x7, x111000, x111001 => customsref06_Segment.l2 k x6 x7 0 x111000 x111001
def customsref06_Segment.l2 : Nat → Bool → Int → Int → ByteArray → List (List ByteArray) → Option (Int)
  | 0, _, _, _, _, _ => none
  | k + 1, x6, x7, x8, x111000, x111001 => if 0 ≤ x7 then (if x7 < (x111001.length : Int) then (if x8 < ((rd_L1 x111001 x7).length : Int) then (if x6 = true then (customsref06_Segment.l2 k true x7 (wrap64 (x8 + 1)) x111000 x111001) else (if 0 ≤ x8 then (customsref06_Segment.l2 k (decide (((rdOf ByteArray.empty (rd_L1 x111001 x7) x8).size : Int) > 1000)) x7 (wrap64 (x8 + 1)) x111000 x111001) else (none))) else (customsref06_Segment.l1 k x6 (wrap64 (x7 + 1)) x111000 x111001)) else (none)) else (none)
def customsref06_Segment.l3 : Nat → Int → ByteArray → List (List ByteArray) → Option (Int)
  | 0, _, _, _ => none
  | k + 1, x9, x111000, x111001 => if x9 < (x111001.length : Int) then (if 0 ≤ x9 then (if ((rd_L1 x111001 x9).length : Int) = 0 then (if x9 = (wrap64 ((x111001.length : Int) - 1)) then (some 1) else (if ((rd_L1 x111001 x9).length : Int) > 0 then (if 0 ≤ (wrap64 (((rd_L1 x111001 x9).length : Int) - 1)) then (if (wrap64 (((rd_L1 x111001 x9).length : Int) - 1)) < ((rd_L1 x111001 x9).length : Int) then (if (rdOf ByteArray.empty (rd_L1 x111001 x9) (wrap64 (((rd_L1 x111001 x9).length : Int) - 1))).toList = ([] : List UInt8) then (some 1) else (customsref06_Segment.l3 k (wrap64 (x9 + 1)) x111000 x111001)) else (none)) else (none)) else (customsref06_Segment.l3 k (wrap64 (x9 + 1)) x111000 x111001))) else (if ((rd_L1 x111001 x9).length : Int) > 0 then (if 0 ≤ (wrap64 (((rd_L1 x111001 x9).length : Int) - 1)) then (if (wrap64 (((rd_L1 x111001 x9).length : Int) - 1)) < ((rd_L1 x111001 x9).length : Int) then (if (rdOf ByteArray.empty (rd_L1 x111001 x9) (wrap64 (((rd_L1 x111001 x9).length : Int) - 1))).toList = ([] : List UInt8) then (some 1) else (customsref06_Segment.l3 k (wrap64 (x9 + 1)) x111000 x111001)) else (none)) else (none)) else (customsref06_Segment.l3 k (wrap64 (x9 + 1)) x111000 x111001))) else (none)) else (some 0)
end
def customsref06_Segment.f (k : Nat) (a0_0 : ByteArray) (l0_1 : List (List ByteArray)) : Option (Int) := if (a0_0.size : Int) = 3 then (customsref06_Segment.l0 k 0 a0_0 l0_1) else (some 1)
theorem customsref06_Segment.mono_l : ∀ k, (∀ y0 y1 y2, LeO (customsref06_Segment.l0 k y0 y1 y2) (customsref06_Segment.l0 (k + 1) y0 y1 y2)) ∧ (∀ y0 y1 y2 y3, LeO (customsref06_Segment.l1 k y0 y1 y2 y3) (customsref06_Segment.l1 (k + 1) y0 y1 y2 y3)) ∧ (∀ y0 y1 y2 y3, LeO (customsref06_Segment.j2 k y0 y1 y2 y3) (customsref06_Segment.j2 (k + 1) y0 y1 y2 y3)) ∧ (∀ y0 y1 y2 y3 y4, LeO (customsref06_Segment.l2 k y0 y1 y2 y3 y4) (customsref06_Segment.l2 (k + 1) y0 y1 y2 y3 y4)) ∧ (∀ y0 y1 y2, LeO (customsref06_Segment.l3 k y0 y1 y2) (customsref06_Segment.l3 (k + 1) y0 y1 y2))
  | 0 => ⟨fun _ _ _ r h => by simp [customsref06_Segment.l0] at h, fun _ _ _ _ r h => by simp [customsref06_Segment.l1] at h, fun _ _ _ _ r h => by simp [customsref06_Segment.j2] at h, fun _ _ _ _ _ r h => by simp [customsref06_Segment.l2] at h, fun _ _ _ r h => by simp [customsref06_Segment.l3] at h⟩
  | k + 1 => by
    obtain ⟨ih0, ih1, ih2, ih3, ih4⟩ := customsref06_Segment.mono_l k
    refine ⟨?_, ?_, ?_, ?_, ?_⟩
    · intro y0 y1 y2
      unfold customsref06_Segment.l0
      repeat' first
      | (with_reducible exact ih0 _ _ _)
      | (with_reducible exact ih1 _ _ _ _)
      | (with_reducible exact ih2 _ _ _ _)
      | (with_reducible exact ih3 _ _ _ _ _)
      | (with_reducible exact ih4 _ _ _)
      | (with_reducible exact LeO.refl _)
      | (with_reducible exact LeO.none _)
      | (with_reducible refine LeO.ite ?_ ?_)
      | (with_reducible refine LeO.bind ?_ (fun _ => ?_))
      | exact ih0 _ _ _
      | exact ih1 _ _ _ _
      | exact ih2 _ _ _ _
      | exact ih3 _ _ _ _ _
      | exact ih4 _ _ _
      | exact LeO.none _
      | refine LeO.ite ?_ ?_
      | refine LeO.bind ?_ (fun _ => ?_)
    · intro y0 y1 y2 y3
      unfold customsref06_Segment.l1
      repeat' first
      | (with_reducible exact ih0 _ _ _)
      | (with_reducible exact ih1 _ _ _ _)
      | (with_reducible exact ih2 _ _ _ _)
      | (with_reducible exact ih3 _ _ _ _ _)
      | (with_reducible exact ih4 _ _ _)
      | (with_reducible exact LeO.refl _)
      | (with_reducible exact LeO.none _)
      | (with_reducible refine LeO.ite ?_ ?_)
      | (with_reducible refine LeO.bind ?_ (fun _ => ?_))
      | exact ih0 _ _ _
      | exact ih1 _ _ _ _
      | exact ih2 _ _ _ _
      | exact ih3 _ _ _ _ _
      | exact ih4 _ _ _
      | exact LeO.none _
      | refine LeO.ite ?_ ?_
      | refine LeO.bind ?_ (fun _ => ?_)
    · intro y0 y1 y2 y3
      unfold customsref06_Segment.j2
      repeat' first
      | (with_reducible exact ih0 _ _ _)
      | (with_reducible exact ih1 _ _ _ _)
      | (with_reducible exact ih2 _ _ _ _)
      | (with_reducible exact ih3 _ _ _ _ _)
      | (with_reducible exact ih4 _ _ _)
      | (with_reducible exact LeO.refl _)
      | (with_reducible exact LeO.none _)
      | (with_reducible refine LeO.ite ?_ ?_)
      | (with_reducible refine LeO.bind ?_ (fun _ => ?_))
      | exact ih0 _ _ _
      | exact ih1 _ _ _ _
      | exact ih2 _ _ _ _
      | exact ih3 _ _ _ _ _
      | exact ih4 _ _ _
      | exact LeO.none _
      | refine LeO.ite ?_ ?_
      | refine LeO.bind ?_ (fun _ => ?_)
    · intro y0 y1 y2 y3 y4
      unfold customsref06_Segment.l2
      repeat' first
      | (with_reducible exact ih0 _ _ _)
      | (with_reducible exact ih1 _ _ _ _)
      | (with_reducible exact ih2 _ _ _ _)
      | (with_reducible exact ih3 _ _ _ _ _)
      | (with_reducible exact ih4 _ _ _)
      | (with_reducible exact LeO.refl _)
      | (with_reducible exact LeO.none _)
      | (with_reducible refine LeO.ite ?_ ?_)
      | (with_reducible refine LeO.bind ?_ (fun _ => ?_))
      | exact ih0 _ _ _
      | exact ih1 _ _ _ _
      | exact ih2 _ _ _ _
      | exact ih3 _ _ _ _ _
      | exact ih4 _ _ _
      | exact LeO.none _
      | refine LeO.ite ?_ ?_
      | refine LeO.bind ?_ (fun _ => ?_)
    · intro y0 y1 y2
      unfold customsref06_Segment.l3
      repeat' first
      | (with_reducible exact ih0 _ _ _)
      | (with_reducible exact ih1 _ _ _ _)
      | (with_reducible exact ih2 _ _ _ _)
      | (with_reducible exact ih3 _ _ _ _ _)
      | (with_reducible exact ih4 _ _ _)
      | (with_reducible exact LeO.refl _)
      | (with_reducible exact LeO.none _)
      | (with_reducible refine LeO.ite ?_ ?_)
      | (with_reducible refine LeO.bind ?_ (fun _ => ?_))
      | exact ih0 _ _ _
      | exact ih1 _ _ _ _
      | exact ih2 _ _ _ _
      | exact ih3 _ _ _ _ _
      | exact ih4 _ _ _
      | exact LeO.none _
      | refine LeO.ite ?_ ?_
      | refine LeO.bind ?_ (fun _ => ?_)
theorem customsref06_Segment.mono : ∀ a0 a1 k, LeO (customsref06_Segment.f k a0 a1) (customsref06_Segment.f (k + 1) a0 a1) := by
  intro a0 a1 k
  obtain ⟨ih0, ih1, ih2, ih3, ih4⟩ := customsref06_Segment.mono_l k
  unfold customsref06_Segment.f
  repeat' first
      | (with_reducible exact ih0 _ _ _)
      | (with_reducible exact ih1 _ _ _ _)
      | (with_reducible exact ih2 _ _ _ _)
      | (with_reducible exact ih3 _ _ _ _ _)
      | (with_reducible exact ih4 _ _ _)
      | (with_reducible exact LeO.refl _)
      | (with_reducible exact LeO.none _)
      | (with_reducible refine LeO.ite ?_ ?_)
      | (with_reducible refine LeO.bind ?_ (fun _ => ?_))
      | exact ih0 _ _ _
      | exact ih1 _ _ _ _
      | exact ih2 _ _ _ _
      | exact ih3 _ _ _ _ _
      | exact ih4 _ _ _
      | exact LeO.none _
      | refine LeO.ite ?_ ?_
      | refine LeO.bind ?_ (fun _ => ?_)
set_option maxHeartbeats 8000000 in
set_option maxRecDepth 100000 in
theorem customsref06_Segment.calls (k : Nat) (a0_0 : ByteArray) (A0_1 : Option Addr) (c0_1 : Nat) (l0_1 : List (List ByteArray)) (r : Int) (w : World) (hr0_1 : Kd.C (Kd.slice 9 Kd.string) w A0_1 l0_1.length l0_1) (hc0_1 : l0_1.length ≤ c0_1) (h : customsref06_Segment.f k a0_0 l0_1 = some r) :
    Calls Try.prog 10 #[.agg #[.string a0_0, .slice A0_1 l0_1.length c0_1]] w fun e w' => e = .returned (.int .i64 r) ∧ Below w.heap.size w w' := by
  have hu24 := Try.underlying24
  have HR0_1 := Aside0.mk hr0_1
  have HC0_1 := Aside0.mk hc0_1
  clear hr0_1 hc0_1
  have HB := Aside0.mk (Below.refl w.heap.size w)
  have H : (if (a0_0.size : Int) = 3 then (customsref06_Segment.l0 k 0 a0_0 l0_1) else (some 1)) = some r := h
  clear h
  by_cases c2 : (a0_0.size : Int) = 3
  · rw [if_pos c2] at H
    have c2b0 : ((a0_0.size : Int) == 3) = true := beq_iff_eq.mpr c2
    have c2b1 : ((a0_0.size : Int) != 3) = false := bne_eq_false_iff_eq.mpr c2
    clear c2
    have H' := Aside0.mk H
    clear H
    go_enter Try.func10, Try.ntmps10
    go_wp2_with (first | ((with_reducible refine gate_dst (N := 1) rfl ?_); (try (refine gate_guard (by rfl) ?_; dsimp only)); refine box_event ?hg (N := 1) ?hd (cs := #[.string a0_0, .slice A0_1 l0_1.length c0_1]) (t := 24) ?hr ?_; (case hd => rfl); (case hg => rfl); (case hr => first | (go_simp; done) | (go_simp; rfl)); intro gb110 hg w3 hbox hb; have n0_ := Aside0.mk (below_step (by repeat (first | (with_reducible first | exact HB.out | apply below_alloc | apply pw_below_drewN | apply below_drew1) | exact HB.out)) hb); have n1_ := Aside0.mk (hbox); have n2_ := Aside0.mk ((by rw [hg]; exact (below_size (by repeat (first | (with_reducible first | exact HB.out | apply below_alloc | apply pw_below_drewN | apply below_drew1) | exact HB.out))) : w.heap.size ≤ gb110)); have n3_ := Aside0.mk ((by rw [hg]; exact (below_size (by repeat (first | (with_reducible first | exact HB.out | apply below_alloc | apply pw_below_drewN | apply below_drew1) | exact HB.out))) : w.heap.size ≤ gb110)); clear HB; have HB := n0_; have BK110 := n1_; have GW110 := n2_; have GE110 := n3_; clear n0_ n1_ n2_ n3_; clear hb hbox hg; have hcz4_0 : w3.cell? ⟨gb110, 0, none⟩ = some (.string a0_0) := (blk_cell BK110.out 0).trans rfl; have hcz4_1 : w3.cell? ⟨gb110, 1, none⟩ = some (.slice A0_1 l0_1.length c0_1) := (blk_cell BK110.out 1).trans rfl; have hfz4_0 := blk_frozen BK110.out 0; have hfz4_1 := blk_frozen BK110.out 1))
    repeat (go_quiet (fail); try go_wp2_with (fail))
    go_loopg [3] k (fun kq v3 w' => ∃ (x3_1 : Int), v3 = .int .i64 x3_1 ∧ Aside0 (customsref06_Segment.l0 kq x3_1 a0_0 l0_1 = some r) ∧ Aside0 (kq ≤ k) ∧ Aside0 (w'.heap[gb110]? = some (.cells #[.string a0_0, (.slice A0_1 l0_1.length c0_1)] 24 (0, 0))) ∧ Aside0 (Below w.heap.size w w'))
    case atStart => exact ⟨(0), (by first | rfl | (simp; done) | (simp [*]; done)), H', ⟨Nat.le_refl _⟩, ⟨by (with_reducible repeat (first | refine blk_drewN ?_ _ | refine blk_drew ?_ | refine blk_alloc ?_ _)); exact BK110.out⟩, ⟨by repeat (first | (with_reducible first | exact HB.out | apply below_alloc | apply pw_below_drewN | apply below_drew1 | refine below_set ?_ GE110.out) | exact HB.out)⟩⟩
    case round =>
      clear H'
      try clear c1
      try clear c2
      try clear c2b0
      try clear c2b1
      try clear p2
      try clear hcz4_0
      try clear hcz4_1
      try clear hfz4_0
      try clear hfz4_1
      obtain ⟨x3_1, rfl, HA, HK1, BK110, HB⟩ := hrel
      cases gk with
      | zero => exact absurd HA.out (by simp [customsref06_Segment.l0])
      | succ k1 =>
        have H := HA.out
        clear HA
        simp only [customsref06_Segment.l0] at H
        by_cases c5 : x3_1 < 3
        · rw [if_pos c5] at H
          have c5b0 : decide (x3_1 < 3) = true := decide_eq_true c5
          clear c5
          by_cases c6 : 0 ≤ x3_1
          · rw [if_pos c6] at H
            have c6b0 : decide (0 ≤ x3_1) = true := decide_eq_true c6
            clear c6
            by_cases c7 : x3_1 < (a0_0.size : Int)
            · rw [if_pos c7] at H
              have c7b0 : decide (x3_1 < (a0_0.size : Int)) = true := decide_eq_true c7
              clear c7
              by_cases c9 : (bt a0_0 x3_1) ≥ 65
              · rw [if_pos c9] at H
                have c9b0 : decide (65 ≤ (bt a0_0 x3_1)) = true := decide_eq_true c9
                clear c9
                by_cases c12 : (bt a0_0 x3_1) ≥ 48
                · rw [if_pos c12] at H
                  have c12b0 : decide (48 ≤ (bt a0_0 x3_1)) = true := decide_eq_true c12
                  clear c12
                  by_cases c14 : ((bt a0_0 x3_1) ≤ 90)
                  · rw [if_pos c14] at H
                    have c14b0 : decide ((bt a0_0 x3_1) ≤ 90) = true := decide_eq_true c14
                    clear c14
                    have H' := Aside0.mk H
                    clear H
                    have hcz15_0 : wr.cell? ⟨gb110, 0, none⟩ = some (.string a0_0) := (blk_cell BK110.out 0).trans rfl
                    have hcz15_1 : wr.cell? ⟨gb110, 1, none⟩ = some (.slice A0_1 l0_1.length c0_1) := (blk_cell BK110.out 1).trans rfl
                    have hfz15_0 := blk_frozen BK110.out 0
                    have hfz15_1 := blk_frozen BK110.out 1
                    have p8 : 0 ≤ (x3_1 : Int) := of_decide_eq_true (by first | (with_reducible assumption) | assumption)
                    have q8 : x3_1 < (a0_0.size : Int) := of_decide_eq_true (by first | (with_reducible assumption) | assumption)
                    have hx8 := bt_at a0_0 x3_1
                    replace p8 := eq_true p8
                    replace q8 := eq_true q8
                    have p10 : 0 ≤ (x3_1 : Int) := of_decide_eq_true (by first | (with_reducible assumption) | assumption)
                    have q10 : x3_1 < (a0_0.size : Int) := of_decide_eq_true (by first | (with_reducible assumption) | assumption)
                    have hx10 := bt_at a0_0 x3_1
                    replace p10 := eq_true p10
                    replace q10 := eq_true q10
                    have p11 : 0 ≤ (x3_1 : Int) := of_decide_eq_true (by first | (with_reducible assumption) | assumption)
                    have q11 : x3_1 < (a0_0.size : Int) := of_decide_eq_true (by first | (with_reducible assumption) | assumption)
                    have hx11 := bt_at a0_0 x3_1
                    replace p11 := eq_true p11
                    replace q11 := eq_true q11
                    have p13 : 0 ≤ (x3_1 : Int) := of_decide_eq_true (by first | (with_reducible assumption) | assumption)
                    have q13 : x3_1 < (a0_0.size : Int) := of_decide_eq_true (by first | (with_reducible assumption) | assumption)
                    have hx13 := bt_at a0_0 x3_1
                    replace p13 := eq_true p13
                    replace q13 := eq_true q13
                    go_wp2
                    repeat (go_quiet (fail); try go_wp2)
                    go_roundg k1
                    case measure => have := HK1.out; omega
                    case rel => exact ⟨(wrap64 (x3_1 + 1)), (by first | rfl | (simp; done) | (simp [*]; done)), H', ⟨by have := HK1.out; omega⟩, ⟨by (with_reducible repeat (first | refine blk_drewN ?_ _ | refine blk_drew ?_ | refine blk_alloc ?_ _)); exact BK110.out⟩, ⟨by repeat (first | (with_reducible first | exact HB.out | apply below_alloc | apply pw_below_drewN | apply below_drew1 | refine below_set ?_ GE110.out) | exact HB.out)⟩⟩
                  · rw [if_neg c14] at H
                    have c14b0 : decide ((bt a0_0 x3_1) ≤ 90) = false := decide_eq_false c14
                    clear c14
                    by_cases c16 : ((bt a0_0 x3_1) ≤ 57)
                    · rw [if_pos c16] at H
                      have c16b0 : decide ((bt a0_0 x3_1) ≤ 57) = true := decide_eq_true c16
                      clear c16
                      by_cases c17 : x3_1 = 0
                      · rw [if_pos c17] at H
                        have c17b0 : (x3_1 == 0) = true := beq_iff_eq.mpr c17
                        have c17b1 : (x3_1 != 0) = false := bne_eq_false_iff_eq.mpr c17
                        clear c17
                        obtain rfl := Option.some.inj H
                        have hcz18_0 : wr.cell? ⟨gb110, 0, none⟩ = some (.string a0_0) := (blk_cell BK110.out 0).trans rfl
                        have hcz18_1 : wr.cell? ⟨gb110, 1, none⟩ = some (.slice A0_1 l0_1.length c0_1) := (blk_cell BK110.out 1).trans rfl
                        have hfz18_0 := blk_frozen BK110.out 0
                        have hfz18_1 := blk_frozen BK110.out 1
                        have p8 : 0 ≤ (x3_1 : Int) := of_decide_eq_true (by first | (with_reducible assumption) | assumption)
                        have q8 : x3_1 < (a0_0.size : Int) := of_decide_eq_true (by first | (with_reducible assumption) | assumption)
                        have hx8 := bt_at a0_0 x3_1
                        replace p8 := eq_true p8
                        replace q8 := eq_true q8
                        have p10 : 0 ≤ (x3_1 : Int) := of_decide_eq_true (by first | (with_reducible assumption) | assumption)
                        have q10 : x3_1 < (a0_0.size : Int) := of_decide_eq_true (by first | (with_reducible assumption) | assumption)
                        have hx10 := bt_at a0_0 x3_1
                        replace p10 := eq_true p10
                        replace q10 := eq_true q10
                        have p11 : 0 ≤ (x3_1 : Int) := of_decide_eq_true (by first | (with_reducible assumption) | assumption)
                        have q11 : x3_1 < (a0_0.size : Int) := of_decide_eq_true (by first | (with_reducible assumption) | assumption)
                        have hx11 := bt_at a0_0 x3_1
                        replace p11 := eq_true p11
                        replace q11 := eq_true q11
                        have p13 : 0 ≤ (x3_1 : Int) := of_decide_eq_true (by first | (with_reducible assumption) | assumption)
                        have q13 : x3_1 < (a0_0.size : Int) := of_decide_eq_true (by first | (with_reducible assumption) | assumption)
                        have hx13 := bt_at a0_0 x3_1
                        replace p13 := eq_true p13
                        replace q13 := eq_true q13
                        go_wp2
                        repeat (go_quiet (fail); try go_wp2)
                        go_ret
                        exact ⟨by first | rfl | (simp [errW_none, errW_some] <;> rfl) | (simp [*, errW_none, errW_some] <;> rfl), by repeat (first | (with_reducible first | exact HB.out | apply below_alloc | apply pw_below_drewN | apply below_drew1 | refine below_set ?_ GE110.out) | exact HB.out)⟩
                      · rw [if_neg c17] at H
                        have c17b0 : (x3_1 == 0) = false := beq_eq_false_iff_ne.mpr c17
                        have c17b1 : (x3_1 != 0) = true := bne_iff_ne.mpr c17
                        have H' := Aside0.mk H
                        clear H
                        have hcz19_0 : wr.cell? ⟨gb110, 0, none⟩ = some (.string a0_0) := (blk_cell BK110.out 0).trans rfl
                        have hcz19_1 : wr.cell? ⟨gb110, 1, none⟩ = some (.slice A0_1 l0_1.length c0_1) := (blk_cell BK110.out 1).trans rfl
                        have hfz19_0 := blk_frozen BK110.out 0
                        have hfz19_1 := blk_frozen BK110.out 1
                        have p8 : 0 ≤ (x3_1 : Int) := of_decide_eq_true (by first | (with_reducible assumption) | assumption)
                        have q8 : x3_1 < (a0_0.size : Int) := of_decide_eq_true (by first | (with_reducible assumption) | assumption)
                        have hx8 := bt_at a0_0 x3_1
                        replace p8 := eq_true p8
                        replace q8 := eq_true q8
                        have p10 : 0 ≤ (x3_1 : Int) := of_decide_eq_true (by first | (with_reducible assumption) | assumption)
                        have q10 : x3_1 < (a0_0.size : Int) := of_decide_eq_true (by first | (with_reducible assumption) | assumption)
                        have hx10 := bt_at a0_0 x3_1
                        replace p10 := eq_true p10
                        replace q10 := eq_true q10
                        have p11 : 0 ≤ (x3_1 : Int) := of_decide_eq_true (by first | (with_reducible assumption) | assumption)
                        have q11 : x3_1 < (a0_0.size : Int) := of_decide_eq_true (by first | (with_reducible assumption) | assumption)
                        have hx11 := bt_at a0_0 x3_1
                        replace p11 := eq_true p11
                        replace q11 := eq_true q11
                        have p13 : 0 ≤ (x3_1 : Int) := of_decide_eq_true (by first | (with_reducible assumption) | assumption)
                        have q13 : x3_1 < (a0_0.size : Int) := of_decide_eq_true (by first | (with_reducible assumption) | assumption)
                        have hx13 := bt_at a0_0 x3_1
                        replace p13 := eq_true p13
                        replace q13 := eq_true q13
                        go_wp2
                        repeat (go_quiet (fail); try go_wp2)
                        go_roundg k1
                        case measure => have := HK1.out; omega
                        case rel => exact ⟨(wrap64 (x3_1 + 1)), (by first | rfl | (simp; done) | (simp [*]; done)), H', ⟨by have := HK1.out; omega⟩, ⟨by (with_reducible repeat (first | refine blk_drewN ?_ _ | refine blk_drew ?_ | refine blk_alloc ?_ _)); exact BK110.out⟩, ⟨by repeat (first | (with_reducible first | exact HB.out | apply below_alloc | apply pw_below_drewN | apply below_drew1 | refine below_set ?_ GE110.out) | exact HB.out)⟩⟩
                    · rw [if_neg c16] at H
                      have c16b0 : decide ((bt a0_0 x3_1) ≤ 57) = false := decide_eq_false c16
                      clear c16
                      obtain rfl := Option.some.inj H
                      have hcz20_0 : wr.cell? ⟨gb110, 0, none⟩ = some (.string a0_0) := (blk_cell BK110.out 0).trans rfl
                      have hcz20_1 : wr.cell? ⟨gb110, 1, none⟩ = some (.slice A0_1 l0_1.length c0_1) := (blk_cell BK110.out 1).trans rfl
                      have hfz20_0 := blk_frozen BK110.out 0
                      have hfz20_1 := blk_frozen BK110.out 1
                      have p8 : 0 ≤ (x3_1 : Int) := of_decide_eq_true (by first | (with_reducible assumption) | assumption)
                      have q8 : x3_1 < (a0_0.size : Int) := of_decide_eq_true (by first | (with_reducible assumption) | assumption)
                      have hx8 := bt_at a0_0 x3_1
                      replace p8 := eq_true p8
                      replace q8 := eq_true q8
                      have p10 : 0 ≤ (x3_1 : Int) := of_decide_eq_true (by first | (with_reducible assumption) | assumption)
                      have q10 : x3_1 < (a0_0.size : Int) := of_decide_eq_true (by first | (with_reducible assumption) | assumption)
                      have hx10 := bt_at a0_0 x3_1
                      replace p10 := eq_true p10
                      replace q10 := eq_true q10
                      have p11 : 0 ≤ (x3_1 : Int) := of_decide_eq_true (by first | (with_reducible assumption) | assumption)
                      have q11 : x3_1 < (a0_0.size : Int) := of_decide_eq_true (by first | (with_reducible assumption) | assumption)
                      have hx11 := bt_at a0_0 x3_1
                      replace p11 := eq_true p11
                      replace q11 := eq_true q11
                      have p13 : 0 ≤ (x3_1 : Int) := of_decide_eq_true (by first | (with_reducible assumption) | assumption)
                      have q13 : x3_1 < (a0_0.size : Int) := of_decide_eq_true (by first | (with_reducible assumption) | assumption)
                      have hx13 := bt_at a0_0 x3_1
                      replace p13 := eq_true p13
                      replace q13 := eq_true q13
                      go_wp2
                      repeat (go_quiet (fail); try go_wp2)
                      go_ret
                      exact ⟨by first | rfl | (simp [errW_none, errW_some] <;> rfl) | (simp [*, errW_none, errW_some] <;> rfl), by repeat (first | (with_reducible first | exact HB.out | apply below_alloc | apply pw_below_drewN | apply below_drew1 | refine below_set ?_ GE110.out) | exact HB.out)⟩
                · rw [if_neg c12] at H
                  have c12b0 : decide (48 ≤ (bt a0_0 x3_1)) = false := decide_eq_false c12
                  clear c12
                  by_cases c21 : ((bt a0_0 x3_1) ≤ 90)
                  · rw [if_pos c21] at H
                    have c21b0 : decide ((bt a0_0 x3_1) ≤ 90) = true := decide_eq_true c21
                    clear c21
                    have H' := Aside0.mk H
                    clear H
                    have hcz22_0 : wr.cell? ⟨gb110, 0, none⟩ = some (.string a0_0) := (blk_cell BK110.out 0).trans rfl
                    have hcz22_1 : wr.cell? ⟨gb110, 1, none⟩ = some (.slice A0_1 l0_1.length c0_1) := (blk_cell BK110.out 1).trans rfl
                    have hfz22_0 := blk_frozen BK110.out 0
                    have hfz22_1 := blk_frozen BK110.out 1
                    have p8 : 0 ≤ (x3_1 : Int) := of_decide_eq_true (by first | (with_reducible assumption) | assumption)
                    have q8 : x3_1 < (a0_0.size : Int) := of_decide_eq_true (by first | (with_reducible assumption) | assumption)
                    have hx8 := bt_at a0_0 x3_1
                    replace p8 := eq_true p8
                    replace q8 := eq_true q8
                    have p10 : 0 ≤ (x3_1 : Int) := of_decide_eq_true (by first | (with_reducible assumption) | assumption)
                    have q10 : x3_1 < (a0_0.size : Int) := of_decide_eq_true (by first | (with_reducible assumption) | assumption)
                    have hx10 := bt_at a0_0 x3_1
                    replace p10 := eq_true p10
                    replace q10 := eq_true q10
                    have p11 : 0 ≤ (x3_1 : Int) := of_decide_eq_true (by first | (with_reducible assumption) | assumption)
                    have q11 : x3_1 < (a0_0.size : Int) := of_decide_eq_true (by first | (with_reducible assumption) | assumption)
                    have hx11 := bt_at a0_0 x3_1
                    replace p11 := eq_true p11
                    replace q11 := eq_true q11
                    go_wp2
                    repeat (go_quiet (fail); try go_wp2)
                    go_roundg k1
                    case measure => have := HK1.out; omega
                    case rel => exact ⟨(wrap64 (x3_1 + 1)), (by first | rfl | (simp; done) | (simp [*]; done)), H', ⟨by have := HK1.out; omega⟩, ⟨by (with_reducible repeat (first | refine blk_drewN ?_ _ | refine blk_drew ?_ | refine blk_alloc ?_ _)); exact BK110.out⟩, ⟨by repeat (first | (with_reducible first | exact HB.out | apply below_alloc | apply pw_below_drewN | apply below_drew1 | refine below_set ?_ GE110.out) | exact HB.out)⟩⟩
                  · rw [if_neg c21] at H
                    have c21b0 : decide ((bt a0_0 x3_1) ≤ 90) = false := decide_eq_false c21
                    clear c21
                    obtain rfl := Option.some.inj H
                    have hcz23_0 : wr.cell? ⟨gb110, 0, none⟩ = some (.string a0_0) := (blk_cell BK110.out 0).trans rfl
                    have hcz23_1 : wr.cell? ⟨gb110, 1, none⟩ = some (.slice A0_1 l0_1.length c0_1) := (blk_cell BK110.out 1).trans rfl
                    have hfz23_0 := blk_frozen BK110.out 0
                    have hfz23_1 := blk_frozen BK110.out 1
                    have p8 : 0 ≤ (x3_1 : Int) := of_decide_eq_true (by first | (with_reducible assumption) | assumption)
                    have q8 : x3_1 < (a0_0.size : Int) := of_decide_eq_true (by first | (with_reducible assumption) | assumption)
                    have hx8 := bt_at a0_0 x3_1
                    replace p8 := eq_true p8
                    replace q8 := eq_true q8
                    have p10 : 0 ≤ (x3_1 : Int) := of_decide_eq_true (by first | (with_reducible assumption) | assumption)
                    have q10 : x3_1 < (a0_0.size : Int) := of_decide_eq_true (by first | (with_reducible assumption) | assumption)
                    have hx10 := bt_at a0_0 x3_1
                    replace p10 := eq_true p10
                    replace q10 := eq_true q10
                    have p11 : 0 ≤ (x3_1 : Int) := of_decide_eq_true (by first | (with_reducible assumption) | assumption)
                    have q11 : x3_1 < (a0_0.size : Int) := of_decide_eq_true (by first | (with_reducible assumption) | assumption)
                    have hx11 := bt_at a0_0 x3_1
                    replace p11 := eq_true p11
                    replace q11 := eq_true q11
                    go_wp2
                    repeat (go_quiet (fail); try go_wp2)
                    go_ret
                    exact ⟨by first | rfl | (simp [errW_none, errW_some] <;> rfl) | (simp [*, errW_none, errW_some] <;> rfl), by repeat (first | (with_reducible first | exact HB.out | apply below_alloc | apply pw_below_drewN | apply below_drew1 | refine below_set ?_ GE110.out) | exact HB.out)⟩
              · rw [if_neg c9] at H
                have c9b0 : decide (65 ≤ (bt a0_0 x3_1)) = false := decide_eq_false c9
                clear c9
                by_cases c25 : (bt a0_0 x3_1) ≥ 48
                · rw [if_pos c25] at H
                  have c25b0 : decide (48 ≤ (bt a0_0 x3_1)) = true := decide_eq_true c25
                  clear c25
                  by_cases c27 : ((bt a0_0 x3_1) ≤ 57)
                  · rw [if_pos c27] at H
                    have c27b0 : decide ((bt a0_0 x3_1) ≤ 57) = true := decide_eq_true c27
                    clear c27
                    by_cases c28 : x3_1 = 0
                    · rw [if_pos c28] at H
                      have c28b0 : (x3_1 == 0) = true := beq_iff_eq.mpr c28
                      have c28b1 : (x3_1 != 0) = false := bne_eq_false_iff_eq.mpr c28
                      clear c28
                      obtain rfl := Option.some.inj H
                      have hcz29_0 : wr.cell? ⟨gb110, 0, none⟩ = some (.string a0_0) := (blk_cell BK110.out 0).trans rfl
                      have hcz29_1 : wr.cell? ⟨gb110, 1, none⟩ = some (.slice A0_1 l0_1.length c0_1) := (blk_cell BK110.out 1).trans rfl
                      have hfz29_0 := blk_frozen BK110.out 0
                      have hfz29_1 := blk_frozen BK110.out 1
                      have p8 : 0 ≤ (x3_1 : Int) := of_decide_eq_true (by first | (with_reducible assumption) | assumption)
                      have q8 : x3_1 < (a0_0.size : Int) := of_decide_eq_true (by first | (with_reducible assumption) | assumption)
                      have hx8 := bt_at a0_0 x3_1
                      replace p8 := eq_true p8
                      replace q8 := eq_true q8
                      have p24 : 0 ≤ (x3_1 : Int) := of_decide_eq_true (by first | (with_reducible assumption) | assumption)
                      have q24 : x3_1 < (a0_0.size : Int) := of_decide_eq_true (by first | (with_reducible assumption) | assumption)
                      have hx24 := bt_at a0_0 x3_1
                      replace p24 := eq_true p24
                      replace q24 := eq_true q24
                      have p26 : 0 ≤ (x3_1 : Int) := of_decide_eq_true (by first | (with_reducible assumption) | assumption)
                      have q26 : x3_1 < (a0_0.size : Int) := of_decide_eq_true (by first | (with_reducible assumption) | assumption)
                      have hx26 := bt_at a0_0 x3_1
                      replace p26 := eq_true p26
                      replace q26 := eq_true q26
                      go_wp2
                      repeat (go_quiet (fail); try go_wp2)
                      go_ret
                      exact ⟨by first | rfl | (simp [errW_none, errW_some] <;> rfl) | (simp [*, errW_none, errW_some] <;> rfl), by repeat (first | (with_reducible first | exact HB.out | apply below_alloc | apply pw_below_drewN | apply below_drew1 | refine below_set ?_ GE110.out) | exact HB.out)⟩
                    · rw [if_neg c28] at H
                      have c28b0 : (x3_1 == 0) = false := beq_eq_false_iff_ne.mpr c28
                      have c28b1 : (x3_1 != 0) = true := bne_iff_ne.mpr c28
                      have H' := Aside0.mk H
                      clear H
                      have hcz30_0 : wr.cell? ⟨gb110, 0, none⟩ = some (.string a0_0) := (blk_cell BK110.out 0).trans rfl
                      have hcz30_1 : wr.cell? ⟨gb110, 1, none⟩ = some (.slice A0_1 l0_1.length c0_1) := (blk_cell BK110.out 1).trans rfl
                      have hfz30_0 := blk_frozen BK110.out 0
                      have hfz30_1 := blk_frozen BK110.out 1
                      have p8 : 0 ≤ (x3_1 : Int) := of_decide_eq_true (by first | (with_reducible assumption) | assumption)
                      have q8 : x3_1 < (a0_0.size : Int) := of_decide_eq_true (by first | (with_reducible assumption) | assumption)
                      have hx8 := bt_at a0_0 x3_1
                      replace p8 := eq_true p8
                      replace q8 := eq_true q8
                      have p24 : 0 ≤ (x3_1 : Int) := of_decide_eq_true (by first | (with_reducible assumption) | assumption)
                      have q24 : x3_1 < (a0_0.size : Int) := of_decide_eq_true (by first | (with_reducible assumption) | assumption)
                      have hx24 := bt_at a0_0 x3_1
                      replace p24 := eq_true p24
                      replace q24 := eq_true q24
                      have p26 : 0 ≤ (x3_1 : Int) := of_decide_eq_true (by first | (with_reducible assumption) | assumption)
                      have q26 : x3_1 < (a0_0.size : Int) := of_decide_eq_true (by first | (with_reducible assumption) | assumption)
                      have hx26 := bt_at a0_0 x3_1
                      replace p26 := eq_true p26
                      replace q26 := eq_true q26
                      go_wp2
                      repeat (go_quiet (fail); try go_wp2)
                      go_roundg k1
                      case measure => have := HK1.out; omega
                      case rel => exact ⟨(wrap64 (x3_1 + 1)), (by first | rfl | (simp; done) | (simp [*]; done)), H', ⟨by have := HK1.out; omega⟩, ⟨by (with_reducible repeat (first | refine blk_drewN ?_ _ | refine blk_drew ?_ | refine blk_alloc ?_ _)); exact BK110.out⟩, ⟨by repeat (first | (with_reducible first | exact HB.out | apply below_alloc | apply pw_below_drewN | apply below_drew1 | refine below_set ?_ GE110.out) | exact HB.out)⟩⟩
                  · rw [if_neg c27] at H
                    have c27b0 : decide ((bt a0_0 x3_1) ≤ 57) = false := decide_eq_false c27
                    clear c27
                    obtain rfl := Option.some.inj H
                    have hcz31_0 : wr.cell? ⟨gb110, 0, none⟩ = some (.string a0_0) := (blk_cell BK110.out 0).trans rfl
                    have hcz31_1 : wr.cell? ⟨gb110, 1, none⟩ = some (.slice A0_1 l0_1.length c0_1) := (blk_cell BK110.out 1).trans rfl
                    have hfz31_0 := blk_frozen BK110.out 0
                    have hfz31_1 := blk_frozen BK110.out 1
                    have p8 : 0 ≤ (x3_1 : Int) := of_decide_eq_true (by first | (with_reducible assumption) | assumption)
                    have q8 : x3_1 < (a0_0.size : Int) := of_decide_eq_true (by first | (with_reducible assumption) | assumption)
                    have hx8 := bt_at a0_0 x3_1
                    replace p8 := eq_true p8
                    replace q8 := eq_true q8
                    have p24 : 0 ≤ (x3_1 : Int) := of_decide_eq_true (by first | (with_reducible assumption) | assumption)
                    have q24 : x3_1 < (a0_0.size : Int) := of_decide_eq_true (by first | (with_reducible assumption) | assumption)
                    have hx24 := bt_at a0_0 x3_1
                    replace p24 := eq_true p24
                    replace q24 := eq_true q24
                    have p26 : 0 ≤ (x3_1 : Int) := of_decide_eq_true (by first | (with_reducible assumption) | assumption)
                    have q26 : x3_1 < (a0_0.size : Int) := of_decide_eq_true (by first | (with_reducible assumption) | assumption)
                    have hx26 := bt_at a0_0 x3_1
                    replace p26 := eq_true p26
                    replace q26 := eq_true q26
                    go_wp2
                    repeat (go_quiet (fail); try go_wp2)
                    go_ret
                    exact ⟨by first | rfl | (simp [errW_none, errW_some] <;> rfl) | (simp [*, errW_none, errW_some] <;> rfl), by repeat (first | (with_reducible first | exact HB.out | apply below_alloc | apply pw_below_drewN | apply below_drew1 | refine below_set ?_ GE110.out) | exact HB.out)⟩
                · rw [if_neg c25] at H
                  have c25b0 : decide (48 ≤ (bt a0_0 x3_1)) = false := decide_eq_false c25
                  clear c25
                  obtain rfl := Option.some.inj H
                  have hcz32_0 : wr.cell? ⟨gb110, 0, none⟩ = some (.string a0_0) := (blk_cell BK110.out 0).trans rfl
                  have hcz32_1 : wr.cell? ⟨gb110, 1, none⟩ = some (.slice A0_1 l0_1.length c0_1) := (blk_cell BK110.out 1).trans rfl
                  have hfz32_0 := blk_frozen BK110.out 0
                  have hfz32_1 := blk_frozen BK110.out 1
                  have p8 : 0 ≤ (x3_1 : Int) := of_decide_eq_true (by first | (with_reducible assumption) | assumption)
                  have q8 : x3_1 < (a0_0.size : Int) := of_decide_eq_true (by first | (with_reducible assumption) | assumption)
                  have hx8 := bt_at a0_0 x3_1
                  replace p8 := eq_true p8
                  replace q8 := eq_true q8
                  have p24 : 0 ≤ (x3_1 : Int) := of_decide_eq_true (by first | (with_reducible assumption) | assumption)
                  have q24 : x3_1 < (a0_0.size : Int) := of_decide_eq_true (by first | (with_reducible assumption) | assumption)
                  have hx24 := bt_at a0_0 x3_1
                  replace p24 := eq_true p24
                  replace q24 := eq_true q24
                  go_wp2
                  repeat (go_quiet (fail); try go_wp2)
                  go_ret
                  exact ⟨by first | rfl | (simp [errW_none, errW_some] <;> rfl) | (simp [*, errW_none, errW_some] <;> rfl), by repeat (first | (with_reducible first | exact HB.out | apply below_alloc | apply pw_below_drewN | apply below_drew1 | refine below_set ?_ GE110.out) | exact HB.out)⟩
            · rw [if_neg c7] at H
              exact absurd H (by simp)
          · rw [if_neg c6] at H
            exact absurd H (by simp)
        · rw [if_neg c5] at H
          have c5b0 : decide (x3_1 < 3) = false := decide_eq_false c5
          clear c5
          have H' := Aside0.mk H
          clear H
          have hcz33_0 : wr.cell? ⟨gb110, 0, none⟩ = some (.string a0_0) := (blk_cell BK110.out 0).trans rfl
          have hcz33_1 : wr.cell? ⟨gb110, 1, none⟩ = some (.slice A0_1 l0_1.length c0_1) := (blk_cell BK110.out 1).trans rfl
          have hfz33_0 := blk_frozen BK110.out 0
          have hfz33_1 := blk_frozen BK110.out 1
          go_wp2
          repeat (go_quiet (fail); try go_wp2)
          go_loopg [6, 7] k1 (fun kq v6 v7 w' => ∃ (x6_2 : Bool) (x7_2 : Int), v6 = .bool x6_2 ∧ v7 = .int .i64 x7_2 ∧ Aside0 (customsref06_Segment.l1 kq x6_2 x7_2 a0_0 l0_1 = some r) ∧ Aside0 (kq ≤ k1) ∧ Aside0 (w'.heap[gb110]? = some (.cells #[.string a0_0, (.slice A0_1 l0_1.length c0_1)] 24 (0, 0))) ∧ Aside0 (Below w.heap.size w w'))
          case atStart => exact ⟨(decide ((l0_1.length : Int) > 100)), (0), (by first | rfl | (simp; done) | (simp [*]; done)), (by first | rfl | (simp; done) | (simp [*]; done)), H', ⟨Nat.le_refl _⟩, ⟨by (with_reducible repeat (first | refine blk_drewN ?_ _ | refine blk_drew ?_ | refine blk_alloc ?_ _)); exact BK110.out⟩, ⟨by repeat (first | (with_reducible first | exact HB.out | apply below_alloc | apply pw_below_drewN | apply below_drew1 | refine below_set ?_ GE110.out) | exact HB.out)⟩⟩
          case round =>
            clear H'
            try clear c1
            try clear p1
            try clear q1
            try clear hx1
            try clear c2
            try clear c2b0
            try clear c2b1
            try clear p2
            try clear q2
            try clear hx2
            try clear c5
            try clear c5b0
            try clear c6
            try clear c6b0
            try clear p6
            try clear c7
            try clear c7b0
            try clear p8
            try clear q8
            try clear hx8
            try clear c9
            try clear c9b0
            try clear c10
            try clear p10
            try clear q10
            try clear hx10
            try clear p11
            try clear q11
            try clear hx11
            try clear c12
            try clear c12b0
            try clear p13
            try clear q13
            try clear hx13
            try clear c14
            try clear c14b0
            try clear c16
            try clear c16b0
            try clear c17
            try clear c17b0
            try clear c17b1
            try clear c21
            try clear c21b0
            try clear p24
            try clear q24
            try clear hx24
            try clear c25
            try clear c25b0
            try clear p26
            try clear q26
            try clear hx26
            try clear c27
            try clear c27b0
            try clear c28
            try clear c28b0
            try clear c28b1
            try clear hcz15_0
            try clear hcz15_1
            try clear hcz18_0
            try clear hcz18_1
            try clear hcz19_0
            try clear hcz19_1
            try clear hcz20_0
            try clear hcz20_1
            try clear hcz22_0
            try clear hcz22_1
            try clear hcz23_0
            try clear hcz23_1
            try clear hcz29_0
            try clear hcz29_1
            try clear hcz30_0
            try clear hcz30_1
            try clear hcz31_0
            try clear hcz31_1
            try clear hcz32_0
            try clear hcz32_1
            try clear hcz33_0
            try clear hcz33_1
            try clear hcz4_0
            try clear hcz4_1
            try clear hfz15_0
            try clear hfz15_1
            try clear hfz18_0
            try clear hfz18_1
            try clear hfz19_0
            try clear hfz19_1
            try clear hfz20_0
            try clear hfz20_1
            try clear hfz22_0
            try clear hfz22_1
            try clear hfz23_0
            try clear hfz23_1
            try clear hfz29_0
            try clear hfz29_1
            try clear hfz30_0
            try clear hfz30_1
            try clear hfz31_0
            try clear hfz31_1
            try clear hfz32_0
            try clear hfz32_1
            try clear hfz33_0
            try clear hfz33_1
            try clear hfz4_0
            try clear hfz4_1
            try clear p10
            try clear p11
            try clear p13
            try clear p2
            try clear p24
            try clear p26
            try clear p8
            try clear q10
            try clear q11
            try clear q13
            try clear q24
            try clear q26
            try clear q8
            obtain ⟨x6_2, x7_2, rfl, rfl, HA, HK2, BK110, HB⟩ := hrel
            cases gk with
            | zero => exact absurd HA.out (by simp [customsref06_Segment.l1])
            | succ k2 =>
              have H := HA.out
              clear HA
              simp only [customsref06_Segment.l1] at H
              by_cases c34 : x7_2 < (l0_1.length : Int)
              · rw [if_pos c34] at H
                have c34b0 : decide (x7_2 < (l0_1.length : Int)) = true := decide_eq_true c34
                clear c34
                have HC35 := Aside0.mk H
                clear H
                have hcz36_0 : wr.cell? ⟨gb110, 0, none⟩ = some (.string a0_0) := (blk_cell BK110.out 0).trans rfl
                have hcz36_1 : wr.cell? ⟨gb110, 1, none⟩ = some (.slice A0_1 l0_1.length c0_1) := (blk_cell BK110.out 1).trans rfl
                have hfz36_0 := blk_frozen BK110.out 0
                have hfz36_1 := blk_frozen BK110.out 1
                go_upto_region 13 with (fail)
                repeat (go_quiet (fail); go_upto_region 13 with (fail))
                go_cut [6] (fun v6 wc => ∃ (kq : Nat) (x6_34 : Bool), v6 = .bool x6_34 ∧ Aside0 (customsref06_Segment.j2 kq x6_34 x7_2 a0_0 l0_1 = some r) ∧ Aside0 (kq ≤ k2) ∧ Aside0 (wc.heap[gb110]? = some (.cells #[.string a0_0, (.slice A0_1 l0_1.length c0_1)] 24 (0, 0))) ∧ Aside0 (Below w.heap.size w wc))
                case first =>
                  have H := HC35.out
                  clear HC35
                  by_cases c37 : x6_2 = true
                  · subst c37
                    have H1 : (customsref06_Segment.j2 k2 true x7_2 a0_0 l0_1) = some r := by rw [if_pos rfl] at H; exact H
                    clear H
                    have H := H1
                    clear H1
                    have H' := Aside0.mk H
                    clear H
                    go_wp2
                    repeat (go_quiet (fail); try go_wp2)
                    go_meet
                    case rel => exact ⟨_, (true), (by first | rfl | (simp; done) | (simp [*]; done)), H', ⟨by have := HK1.out; have := HK2.out; first | omega | exact Nat.le_refl _⟩, ⟨by (with_reducible repeat (first | refine blk_drewN ?_ _ | refine blk_drew ?_ | refine blk_alloc ?_ _)); exact BK110.out⟩, ⟨by repeat (first | (with_reducible first | exact HB.out | apply below_alloc | apply pw_below_drewN | apply below_drew1 | refine below_set ?_ GE110.out) | exact HB.out)⟩⟩
                  · replace c37 := Bool.eq_false_iff.mpr c37
                    subst c37
                    have H1 : (if 0 ≤ x7_2 then (customsref06_Segment.j2 k2 (decide (((rd_L1 l0_1 x7_2).length : Int) > 100)) x7_2 a0_0 l0_1) else (none)) = some r := by rw [if_neg (show ¬ (false = true) by decide)] at H; exact H
                    clear H
                    have H := H1
                    clear H1
                    by_cases c38 : 0 ≤ x7_2
                    · rw [if_pos c38] at H
                      have c38b0 : decide (0 ≤ x7_2) = true := decide_eq_true c38
                      clear c38
                      (first | rw [c38b0] | (simp only [i64_w, i32_w]; rw [c38b0]) | skip)
                      have H' := Aside0.mk H
                      clear H
                      have hcz39_0 : wr.cell? ⟨gb110, 0, none⟩ = some (.string a0_0) := (blk_cell BK110.out 0).trans rfl
                      have hcz39_1 : wr.cell? ⟨gb110, 1, none⟩ = some (.slice A0_1 l0_1.length c0_1) := (blk_cell BK110.out 1).trans rfl
                      have hfz39_0 := blk_frozen BK110.out 0
                      have hfz39_1 := blk_frozen BK110.out 1
                      have p111 : 0 ≤ (x7_2 : Int) := of_decide_eq_true (by first | (with_reducible assumption) | assumption)
                      have q111 : x7_2 < (l0_1.length : Int) := of_decide_eq_true (by first | (with_reducible assumption) | assumption)
                      obtain ⟨ad111, A111_0, c111_0, e111, hx111_0, hl111_0, hi111_0⟩ := at_L1 HR0_1.out x7_2 p111 q111
                      cases e111
                      replace hx111_0 := (HB.out.cell (World.block_lt_of_cell? w _ hx111_0)).trans hx111_0
                      have HR111_0 := Aside0.mk hi111_0
                      have HC111_0 := Aside0.mk hl111_0
                      clear hi111_0 hl111_0
                      replace p111 := eq_true p111
                      replace q111 := eq_true q111
                      go_wp2
                      repeat (go_quiet (fail); try go_wp2)
                      go_meet
                      case rel => exact ⟨_, (decide (((rd_L1 l0_1 x7_2).length : Int) > 100)), (by first | rfl | (simp; done) | (simp [*]; done)), H', ⟨by have := HK1.out; have := HK2.out; first | omega | exact Nat.le_refl _⟩, ⟨by (with_reducible repeat (first | refine blk_drewN ?_ _ | refine blk_drew ?_ | refine blk_alloc ?_ _)); exact BK110.out⟩, ⟨by repeat (first | (with_reducible first | exact HB.out | apply below_alloc | apply pw_below_drewN | apply below_drew1 | refine below_set ?_ GE110.out) | exact HB.out)⟩⟩
                    · rw [if_neg c38] at H
                      exact absurd H (by simp)
                case rest =>
                  clear HC35
                  try clear c1
                  try clear p1
                  try clear q1
                  try clear hx1
                  try clear c2
                  try clear c2b0
                  try clear c2b1
                  try clear p2
                  try clear q2
                  try clear hx2
                  try clear c3
                  try clear c5
                  try clear c5b0
                  try clear c6
                  try clear c6b0
                  try clear p6
                  try clear c7
                  try clear c7b0
                  try clear p8
                  try clear q8
                  try clear hx8
                  try clear c9
                  try clear c9b0
                  try clear c10
                  try clear p10
                  try clear q10
                  try clear hx10
                  try clear c11
                  try clear p11
                  try clear q11
                  try clear hx11
                  try clear c12
                  try clear c12b0
                  try clear p13
                  try clear q13
                  try clear hx13
                  try clear c14
                  try clear c14b0
                  try clear c16
                  try clear c16b0
                  try clear c17
                  try clear c17b0
                  try clear c17b1
                  try clear c21
                  try clear c21b0
                  try clear p24
                  try clear q24
                  try clear hx24
                  try clear c25
                  try clear c25b0
                  try clear p26
                  try clear q26
                  try clear hx26
                  try clear c27
                  try clear c27b0
                  try clear c28
                  try clear c28b0
                  try clear c28b1
                  try clear c34
                  try clear c34b0
                  try clear c37
                  try clear c38
                  try clear c38b0
                  try clear hcz15_0
                  try clear hcz15_1
                  try clear hcz18_0
                  try clear hcz18_1
                  try clear hcz19_0
                  try clear hcz19_1
                  try clear hcz20_0
                  try clear hcz20_1
                  try clear hcz22_0
                  try clear hcz22_1
                  try clear hcz23_0
                  try clear hcz23_1
                  try clear hcz29_0
                  try clear hcz29_1
                  try clear hcz30_0
                  try clear hcz30_1
                  try clear hcz31_0
                  try clear hcz31_1
                  try clear hcz32_0
                  try clear hcz32_1
                  try clear hcz33_0
                  try clear hcz33_1
                  try clear hcz36_0
                  try clear hcz36_1
                  try clear hcz39_0
                  try clear hcz39_1
                  try clear hcz4_0
                  try clear hcz4_1
                  try clear hfz15_0
                  try clear hfz15_1
                  try clear hfz18_0
                  try clear hfz18_1
                  try clear hfz19_0
                  try clear hfz19_1
                  try clear hfz20_0
                  try clear hfz20_1
                  try clear hfz22_0
                  try clear hfz22_1
                  try clear hfz23_0
                  try clear hfz23_1
                  try clear hfz29_0
                  try clear hfz29_1
                  try clear hfz30_0
                  try clear hfz30_1
                  try clear hfz31_0
                  try clear hfz31_1
                  try clear hfz32_0
                  try clear hfz32_1
                  try clear hfz33_0
                  try clear hfz33_1
                  try clear hfz36_0
                  try clear hfz36_1
                  try clear hfz39_0
                  try clear hfz39_1
                  try clear hfz4_0
                  try clear hfz4_1
                  try clear hx111_0
                  try clear p1
                  try clear p10
                  try clear p11
                  try clear p111
                  try clear p13
                  try clear p2
                  try clear p24
                  try clear p26
                  try clear p6
                  try clear p8
                  try clear q1
                  try clear q10
                  try clear q11
                  try clear q111
                  try clear q13
                  try clear q2
                  try clear q24
                  try clear q26
                  try clear q8
                  obtain ⟨kq, x6_34, rfl, HA, HJ34, BK110, HB⟩ := hcut
                  cases kq with
                  | zero => exact absurd HA.out (by simp [customsref06_Segment.j2])
                  | succ kj34 =>
                    have H := HA.out
                    clear HA
                    simp only [customsref06_Segment.j2] at H
                    have H' := Aside0.mk H
                    clear H
                    go_wp2
                    repeat (go_quiet (fail); try go_wp2)
                    go_loopg [6, 8] kj34 (fun kq v6 v8 w' => ∃ (x6_4 : Bool) (x8_4 : Int), v6 = .bool x6_4 ∧ v8 = .int .i64 x8_4 ∧ Aside0 (customsref06_Segment.l2 kq x6_4 x7_2 x8_4 a0_0 l0_1 = some r) ∧ Aside0 (kq ≤ kj34) ∧ Aside0 (w'.heap[gb110]? = some (.cells #[.string a0_0, (.slice A0_1 l0_1.length c0_1)] 24 (0, 0))) ∧ Aside0 (Below w.heap.size w w'))
                    case atStart => exact ⟨(x6_34), (0), (by first | rfl | (simp; done) | (simp [*]; done)), (by first | rfl | (simp; done) | (simp [*]; done)), H', ⟨Nat.le_refl _⟩, ⟨by (with_reducible repeat (first | refine blk_drewN ?_ _ | refine blk_drew ?_ | refine blk_alloc ?_ _)); exact BK110.out⟩, ⟨by repeat (first | (with_reducible first | exact HB.out | apply below_alloc | apply pw_below_drewN | apply below_drew1 | refine below_set ?_ GE110.out) | exact HB.out)⟩⟩
                    case round =>
                      clear H'
                      try clear c1
                      try clear p1
                      try clear q1
                      try clear hx1
                      try clear c2
                      try clear c2b0
                      try clear c2b1
                      try clear p2
                      try clear q2
                      try clear hx2
                      try clear c3
                      try clear c5
                      try clear c5b0
                      try clear c6
                      try clear c6b0
                      try clear p6
                      try clear c7
                      try clear c7b0
                      try clear p8
                      try clear q8
                      try clear hx8
                      try clear c9
                      try clear c9b0
                      try clear c10
                      try clear p10
                      try clear q10
                      try clear hx10
                      try clear c11
                      try clear p11
                      try clear q11
                      try clear hx11
                      try clear c12
                      try clear c12b0
                      try clear p13
                      try clear q13
                      try clear hx13
                      try clear c14
                      try clear c14b0
                      try clear c16
                      try clear c16b0
                      try clear c17
                      try clear c17b0
                      try clear c17b1
                      try clear c21
                      try clear c21b0
                      try clear p24
                      try clear q24
                      try clear hx24
                      try clear c25
                      try clear c25b0
                      try clear p26
                      try clear q26
                      try clear hx26
                      try clear c27
                      try clear c27b0
                      try clear c28
                      try clear c28b0
                      try clear c28b1
                      try clear c34
                      try clear c34b0
                      try clear c37
                      try clear c38
                      try clear c38b0
                      try clear hcz15_0
                      try clear hcz15_1
                      try clear hcz18_0
                      try clear hcz18_1
                      try clear hcz19_0
                      try clear hcz19_1
                      try clear hcz20_0
                      try clear hcz20_1
                      try clear hcz22_0
                      try clear hcz22_1
                      try clear hcz23_0
                      try clear hcz23_1
                      try clear hcz29_0
                      try clear hcz29_1
                      try clear hcz30_0
                      try clear hcz30_1
                      try clear hcz31_0
                      try clear hcz31_1
                      try clear hcz32_0
                      try clear hcz32_1
                      try clear hcz33_0
                      try clear hcz33_1
                      try clear hcz36_0
                      try clear hcz36_1
                      try clear hcz39_0
                      try clear hcz39_1
                      try clear hcz4_0
                      try clear hcz4_1
                      try clear hfz15_0
                      try clear hfz15_1
                      try clear hfz18_0
                      try clear hfz18_1
                      try clear hfz19_0
                      try clear hfz19_1
                      try clear hfz20_0
                      try clear hfz20_1
                      try clear hfz22_0
                      try clear hfz22_1
                      try clear hfz23_0
                      try clear hfz23_1
                      try clear hfz29_0
                      try clear hfz29_1
                      try clear hfz30_0
                      try clear hfz30_1
                      try clear hfz31_0
                      try clear hfz31_1
                      try clear hfz32_0
                      try clear hfz32_1
                      try clear hfz33_0
                      try clear hfz33_1
                      try clear hfz36_0
                      try clear hfz36_1
                      try clear hfz39_0
                      try clear hfz39_1
                      try clear hfz4_0
                      try clear hfz4_1
                      try clear hx111_0
                      try clear p1
                      try clear p10
                      try clear p11
                      try clear p111
                      try clear p13
                      try clear p2
                      try clear p24
                      try clear p26
                      try clear p6
                      try clear p8
                      try clear q1
                      try clear q10
                      try clear q11
                      try clear q111
                      try clear q13
                      try clear q2
                      try clear q24
                      try clear q26
                      try clear q8
                      obtain ⟨x6_4, x8_4, rfl, rfl, HA, HK4, BK110, HB⟩ := hrel
                      cases gk with
                      | zero => exact absurd HA.out (by simp [customsref06_Segment.l2])
                      | succ k4 =>
                        have H := HA.out
                        clear HA
                        simp only [customsref06_Segment.l2] at H
                        by_cases c40 : 0 ≤ x7_2
                        · rw [if_pos c40] at H
                          have c40b0 : decide (0 ≤ x7_2) = true := decide_eq_true c40
                          clear c40
                          by_cases c41 : x7_2 < (l0_1.length : Int)
                          · rw [if_pos c41] at H
                            have c41b0 : decide (x7_2 < (l0_1.length : Int)) = true := decide_eq_true c41
                            clear c41
                            by_cases c42 : x8_4 < ((rd_L1 l0_1 x7_2).length : Int)
                            · rw [if_pos c42] at H
                              have c42b0 : decide (x8_4 < ((rd_L1 l0_1 x7_2).length : Int)) = true := decide_eq_true c42
                              clear c42
                              by_cases c43 : x6_4 = true
                              · subst c43
                                have H1 : (customsref06_Segment.l2 k4 true x7_2 (wrap64 (x8_4 + 1)) a0_0 l0_1) = some r := by rw [if_pos rfl] at H; exact H
                                clear H
                                have H := H1
                                clear H1
                                have H' := Aside0.mk H
                                clear H
                                have hcz44_0 : wr.cell? ⟨gb110, 0, none⟩ = some (.string a0_0) := (blk_cell BK110.out 0).trans rfl
                                have hcz44_1 : wr.cell? ⟨gb110, 1, none⟩ = some (.slice A0_1 l0_1.length c0_1) := (blk_cell BK110.out 1).trans rfl
                                have hfz44_0 := blk_frozen BK110.out 0
                                have hfz44_1 := blk_frozen BK110.out 1
                                have p112 : 0 ≤ (x7_2 : Int) := of_decide_eq_true (by first | (with_reducible assumption) | assumption)
                                have q112 : x7_2 < (l0_1.length : Int) := of_decide_eq_true (by first | (with_reducible assumption) | assumption)
                                obtain ⟨ad112, A112_0, c112_0, e112, hx112_0, hl112_0, hi112_0⟩ := at_L1 HR0_1.out x7_2 p112 q112
                                cases e112
                                replace hx112_0 := (HB.out.cell (World.block_lt_of_cell? w _ hx112_0)).trans hx112_0
                                have HR112_0 := Aside0.mk hi112_0
                                have HC112_0 := Aside0.mk hl112_0
                                clear hi112_0 hl112_0
                                replace p112 := eq_true p112
                                replace q112 := eq_true q112
                                go_wp2
                                repeat (go_quiet (fail); try go_wp2)
                                go_roundg k4
                                case measure => have := HK1.out; have := HK2.out; have := HJ34.out; have := HK4.out; omega
                                case rel => exact ⟨(true), (wrap64 (x8_4 + 1)), (by first | rfl | (simp; done) | (simp [*]; done)), (by first | rfl | (simp; done) | (simp [*]; done)), H', ⟨by have := HK1.out; have := HK2.out; have := HJ34.out; have := HK4.out; omega⟩, ⟨by (with_reducible repeat (first | refine blk_drewN ?_ _ | refine blk_drew ?_ | refine blk_alloc ?_ _)); exact BK110.out⟩, ⟨by repeat (first | (with_reducible first | exact HB.out | apply below_alloc | apply pw_below_drewN | apply below_drew1 | refine below_set ?_ GE110.out) | exact HB.out)⟩⟩
                              · replace c43 := Bool.eq_false_iff.mpr c43
                                subst c43
                                have H1 : (if 0 ≤ x8_4 then (customsref06_Segment.l2 k4 (decide (((rdOf ByteArray.empty (rd_L1 l0_1 x7_2) x8_4).size : Int) > 1000)) x7_2 (wrap64 (x8_4 + 1)) a0_0 l0_1) else (none)) = some r := by rw [if_neg (show ¬ (false = true) by decide)] at H; exact H
                                clear H
                                have H := H1
                                clear H1
                                by_cases c45 : 0 ≤ x8_4
                                · rw [if_pos c45] at H
                                  have c45b0 : decide (0 ≤ x8_4) = true := decide_eq_true c45
                                  clear c45
                                  have H' := Aside0.mk H
                                  clear H
                                  have hcz46_0 : wr.cell? ⟨gb110, 0, none⟩ = some (.string a0_0) := (blk_cell BK110.out 0).trans rfl
                                  have hcz46_1 : wr.cell? ⟨gb110, 1, none⟩ = some (.slice A0_1 l0_1.length c0_1) := (blk_cell BK110.out 1).trans rfl
                                  have hfz46_0 := blk_frozen BK110.out 0
                                  have hfz46_1 := blk_frozen BK110.out 1
                                  have p112 : 0 ≤ (x7_2 : Int) := of_decide_eq_true (by first | (with_reducible assumption) | assumption)
                                  have q112 : x7_2 < (l0_1.length : Int) := of_decide_eq_true (by first | (with_reducible assumption) | assumption)
                                  obtain ⟨ad112, A112_0, c112_0, e112, hx112_0, hl112_0, hi112_0⟩ := at_L1 HR0_1.out x7_2 p112 q112
                                  cases e112
                                  replace hx112_0 := (HB.out.cell (World.block_lt_of_cell? w _ hx112_0)).trans hx112_0
                                  have HR112_0 := Aside0.mk hi112_0
                                  have HC112_0 := Aside0.mk hl112_0
                                  clear hi112_0 hl112_0
                                  replace p112 := eq_true p112
                                  replace q112 := eq_true q112
                                  have p113 : 0 ≤ (x7_2 : Int) := of_decide_eq_true (by first | (with_reducible assumption) | assumption)
                                  have q113 : x7_2 < (l0_1.length : Int) := of_decide_eq_true (by first | (with_reducible assumption) | assumption)
                                  obtain ⟨ad113, A113_0, c113_0, e113, hx113_0, hl113_0, hi113_0⟩ := at_L1 HR0_1.out x7_2 p113 q113
                                  obtain rfl : ad112 = ad113 := (by injection e113)
                                  replace hx113_0 := (HB.out.cell (World.block_lt_of_cell? w _ hx113_0)).trans hx113_0
                                  have HR113_0 := Aside0.mk hi113_0
                                  have HC113_0 := Aside0.mk hl113_0
                                  clear hi113_0 hl113_0
                                  replace p113 := eq_true p113
                                  replace q113 := eq_true q113
                                  have ea_ := Option.some.inj (hx112_0.symm.trans hx113_0)
                                  injection ea_ with ea_ en_ ec_
                                  subst ea_
                                  subst ec_
                                  clear en_
                                  have p114 : 0 ≤ (x8_4 : Int) := of_decide_eq_true (by first | (with_reducible assumption) | assumption)
                                  have q114 : x8_4 < ((rd_L1 l0_1 x7_2).length : Int) := of_decide_eq_true (by first | (with_reducible assumption) | assumption)
                                  obtain ⟨ad114, e114, hx114_0⟩ := Kd.at_string HR113_0.out x8_4 p114 q114
                                  cases e114
                                  replace hx114_0 := (HB.out.cell (World.block_lt_of_cell? w _ hx114_0)).trans hx114_0
                                  replace p114 := eq_true p114
                                  replace q114 := eq_true q114
                                  go_wp2
                                  repeat (go_quiet (fail); try go_wp2)
                                  go_roundg k4
                                  case measure => have := HK1.out; have := HK2.out; have := HJ34.out; have := HK4.out; omega
                                  case rel => exact ⟨(decide (((rdOf ByteArray.empty (rd_L1 l0_1 x7_2) x8_4).size : Int) > 1000)), (wrap64 (x8_4 + 1)), (by first | rfl | (simp; done) | (simp [*]; done)), (by first | rfl | (simp; done) | (simp [*]; done)), H', ⟨by have := HK1.out; have := HK2.out; have := HJ34.out; have := HK4.out; omega⟩, ⟨by (with_reducible repeat (first | refine blk_drewN ?_ _ | refine blk_drew ?_ | refine blk_alloc ?_ _)); exact BK110.out⟩, ⟨by repeat (first | (with_reducible first | exact HB.out | apply below_alloc | apply pw_below_drewN | apply below_drew1 | refine below_set ?_ GE110.out) | exact HB.out)⟩⟩
                                · rw [if_neg c45] at H
                                  exact absurd H (by simp)
                            · rw [if_neg c42] at H
                              have c42b0 : decide (x8_4 < ((rd_L1 l0_1 x7_2).length : Int)) = false := decide_eq_false c42
                              clear c42
                              have H' := Aside0.mk H
                              clear H
                              have hcz47_0 : wr.cell? ⟨gb110, 0, none⟩ = some (.string a0_0) := (blk_cell BK110.out 0).trans rfl
                              have hcz47_1 : wr.cell? ⟨gb110, 1, none⟩ = some (.slice A0_1 l0_1.length c0_1) := (blk_cell BK110.out 1).trans rfl
                              have hfz47_0 := blk_frozen BK110.out 0
                              have hfz47_1 := blk_frozen BK110.out 1
                              have p112 : 0 ≤ (x7_2 : Int) := of_decide_eq_true (by first | (with_reducible assumption) | assumption)
                              have q112 : x7_2 < (l0_1.length : Int) := of_decide_eq_true (by first | (with_reducible assumption) | assumption)
                              obtain ⟨ad112, A112_0, c112_0, e112, hx112_0, hl112_0, hi112_0⟩ := at_L1 HR0_1.out x7_2 p112 q112
                              cases e112
                              replace hx112_0 := (HB.out.cell (World.block_lt_of_cell? w _ hx112_0)).trans hx112_0
                              have HR112_0 := Aside0.mk hi112_0
                              have HC112_0 := Aside0.mk hl112_0
                              clear hi112_0 hl112_0
                              replace p112 := eq_true p112
                              replace q112 := eq_true q112
                              go_wp2
                              repeat (go_quiet (fail); try go_wp2)
                              go_roundg k4
                              case measure => have := HK1.out; have := HK2.out; have := HJ34.out; have := HK4.out; omega
                              case rel => exact ⟨(x6_4), (wrap64 (x7_2 + 1)), (by first | rfl | (simp; done) | (simp [*]; done)), (by first | rfl | (simp; done) | (simp [*]; done)), H', ⟨by have := HK1.out; have := HK2.out; have := HJ34.out; have := HK4.out; omega⟩, ⟨by (with_reducible repeat (first | refine blk_drewN ?_ _ | refine blk_drew ?_ | refine blk_alloc ?_ _)); exact BK110.out⟩, ⟨by repeat (first | (with_reducible first | exact HB.out | apply below_alloc | apply pw_below_drewN | apply below_drew1 | refine below_set ?_ GE110.out) | exact HB.out)⟩⟩
                          · rw [if_neg c41] at H
                            exact absurd H (by simp)
                        · rw [if_neg c40] at H
                          exact absurd H (by simp)
              · rw [if_neg c34] at H
                have c34b0 : decide (x7_2 < (l0_1.length : Int)) = false := decide_eq_false c34
                clear c34
                by_cases c48 : x6_2 = true
                · subst c48
                  have H1 : (some 8) = some r := by rw [if_pos rfl] at H; exact H
                  clear H
                  have H := H1
                  clear H1
                  obtain rfl := Option.some.inj H
                  have hcz49_0 : wr.cell? ⟨gb110, 0, none⟩ = some (.string a0_0) := (blk_cell BK110.out 0).trans rfl
                  have hcz49_1 : wr.cell? ⟨gb110, 1, none⟩ = some (.slice A0_1 l0_1.length c0_1) := (blk_cell BK110.out 1).trans rfl
                  have hfz49_0 := blk_frozen BK110.out 0
                  have hfz49_1 := blk_frozen BK110.out 1
                  go_wp2
                  repeat (go_quiet (fail); try go_wp2)
                  go_ret
                  exact ⟨by first | rfl | (simp [errW_none, errW_some] <;> rfl) | (simp [*, errW_none, errW_some] <;> rfl), by repeat (first | (with_reducible first | exact HB.out | apply below_alloc | apply pw_below_drewN | apply below_drew1 | refine below_set ?_ GE110.out) | exact HB.out)⟩
                · replace c48 := Bool.eq_false_iff.mpr c48
                  subst c48
                  have H1 : (customsref06_Segment.l3 k2 0 a0_0 l0_1) = some r := by rw [if_neg (show ¬ (false = true) by decide)] at H; exact H
                  clear H
                  have H := H1
                  clear H1
                  have H' := Aside0.mk H
                  clear H
                  have hcz50_0 : wr.cell? ⟨gb110, 0, none⟩ = some (.string a0_0) := (blk_cell BK110.out 0).trans rfl
                  have hcz50_1 : wr.cell? ⟨gb110, 1, none⟩ = some (.slice A0_1 l0_1.length c0_1) := (blk_cell BK110.out 1).trans rfl
                  have hfz50_0 := blk_frozen BK110.out 0
                  have hfz50_1 := blk_frozen BK110.out 1
                  go_wp2
                  repeat (go_quiet (fail); try go_wp2)
                  go_loopg [9] k2 (fun kq v9 w' => ∃ (x9_3 : Int), v9 = .int .i64 x9_3 ∧ Aside0 (customsref06_Segment.l3 kq x9_3 a0_0 l0_1 = some r) ∧ Aside0 (kq ≤ k2) ∧ Aside0 (w'.heap[gb110]? = some (.cells #[.string a0_0, (.slice A0_1 l0_1.length c0_1)] 24 (0, 0))) ∧ Aside0 (Below w.heap.size w w'))
                  case atStart => exact ⟨(0), (by first | rfl | (simp; done) | (simp [*]; done)), H', ⟨Nat.le_refl _⟩, ⟨by (with_reducible repeat (first | refine blk_drewN ?_ _ | refine blk_drew ?_ | refine blk_alloc ?_ _)); exact BK110.out⟩, ⟨by repeat (first | (with_reducible first | exact HB.out | apply below_alloc | apply pw_below_drewN | apply below_drew1 | refine below_set ?_ GE110.out) | exact HB.out)⟩⟩
                  case round =>
                    clear H'
                    try clear c1
                    try clear p1
                    try clear q1
                    try clear hx1
                    try clear c2
                    try clear c2b0
                    try clear c2b1
                    try clear p2
                    try clear q2
                    try clear hx2
                    try clear c3
                    try clear c4
                    try clear c5
                    try clear c5b0
                    try clear c6
                    try clear c6b0
                    try clear p6
                    try clear c7
                    try clear c7b0
                    try clear p8
                    try clear q8
                    try clear hx8
                    try clear c9
                    try clear c9b0
                    try clear c10
                    try clear p10
                    try clear q10
                    try clear hx10
                    try clear c11
                    try clear p11
                    try clear q11
                    try clear hx11
                    try clear c12
                    try clear c12b0
                    try clear p13
                    try clear q13
                    try clear hx13
                    try clear c14
                    try clear c14b0
                    try clear c16
                    try clear c16b0
                    try clear c17
                    try clear c17b0
                    try clear c17b1
                    try clear c21
                    try clear c21b0
                    try clear p24
                    try clear q24
                    try clear hx24
                    try clear c25
                    try clear c25b0
                    try clear p26
                    try clear q26
                    try clear hx26
                    try clear c27
                    try clear c27b0
                    try clear c28
                    try clear c28b0
                    try clear c28b1
                    try clear c34
                    try clear c34b0
                    try clear c37
                    try clear c38
                    try clear c38b0
                    try clear c40
                    try clear c40b0
                    try clear c41
                    try clear c41b0
                    try clear c42
                    try clear c42b0
                    try clear c43
                    try clear c45
                    try clear c45b0
                    try clear c48
                    try clear hcz15_0
                    try clear hcz15_1
                    try clear hcz18_0
                    try clear hcz18_1
                    try clear hcz19_0
                    try clear hcz19_1
                    try clear hcz20_0
                    try clear hcz20_1
                    try clear hcz22_0
                    try clear hcz22_1
                    try clear hcz23_0
                    try clear hcz23_1
                    try clear hcz29_0
                    try clear hcz29_1
                    try clear hcz30_0
                    try clear hcz30_1
                    try clear hcz31_0
                    try clear hcz31_1
                    try clear hcz32_0
                    try clear hcz32_1
                    try clear hcz33_0
                    try clear hcz33_1
                    try clear hcz36_0
                    try clear hcz36_1
                    try clear hcz39_0
                    try clear hcz39_1
                    try clear hcz44_0
                    try clear hcz44_1
                    try clear hcz46_0
                    try clear hcz46_1
                    try clear hcz47_0
                    try clear hcz47_1
                    try clear hcz49_0
                    try clear hcz49_1
                    try clear hcz4_0
                    try clear hcz4_1
                    try clear hcz50_0
                    try clear hcz50_1
                    try clear hfz15_0
                    try clear hfz15_1
                    try clear hfz18_0
                    try clear hfz18_1
                    try clear hfz19_0
                    try clear hfz19_1
                    try clear hfz20_0
                    try clear hfz20_1
                    try clear hfz22_0
                    try clear hfz22_1
                    try clear hfz23_0
                    try clear hfz23_1
                    try clear hfz29_0
                    try clear hfz29_1
                    try clear hfz30_0
                    try clear hfz30_1
                    try clear hfz31_0
                    try clear hfz31_1
                    try clear hfz32_0
                    try clear hfz32_1
                    try clear hfz33_0
                    try clear hfz33_1
                    try clear hfz36_0
                    try clear hfz36_1
                    try clear hfz39_0
                    try clear hfz39_1
                    try clear hfz44_0
                    try clear hfz44_1
                    try clear hfz46_0
                    try clear hfz46_1
                    try clear hfz47_0
                    try clear hfz47_1
                    try clear hfz49_0
                    try clear hfz49_1
                    try clear hfz4_0
                    try clear hfz4_1
                    try clear hfz50_0
                    try clear hfz50_1
                    try clear hx111_0
                    try clear hx112_0
                    try clear hx113_0
                    try clear hx114_0
                    try clear p1
                    try clear p10
                    try clear p11
                    try clear p111
                    try clear p112
                    try clear p113
                    try clear p114
                    try clear p13
                    try clear p2
                    try clear p24
                    try clear p26
                    try clear p6
                    try clear p8
                    try clear q1
                    try clear q10
                    try clear q11
                    try clear q111
                    try clear q112
                    try clear q113
                    try clear q114
                    try clear q13
                    try clear q2
                    try clear q24
                    try clear q26
                    try clear q8
                    obtain ⟨x9_3, rfl, HA, HK3, BK110, HB⟩ := hrel
                    cases gk with
                    | zero => exact absurd HA.out (by simp [customsref06_Segment.l3])
                    | succ k3 =>
                      have H := HA.out
                      clear HA
                      simp only [customsref06_Segment.l3] at H
                      by_cases c51 : x9_3 < (l0_1.length : Int)
                      · rw [if_pos c51] at H
                        have c51b0 : decide (x9_3 < (l0_1.length : Int)) = true := decide_eq_true c51
                        clear c51
                        by_cases c52 : 0 ≤ x9_3
                        · rw [if_pos c52] at H
                          have c52b0 : decide (0 ≤ x9_3) = true := decide_eq_true c52
                          clear c52
                          by_cases c53 : ((rd_L1 l0_1 x9_3).length : Int) = 0
                          · rw [if_pos c53] at H
                            have c53b0 : (((rd_L1 l0_1 x9_3).length : Int) == 0) = true := beq_iff_eq.mpr c53
                            have c53b1 : (((rd_L1 l0_1 x9_3).length : Int) != 0) = false := bne_eq_false_iff_eq.mpr c53
                            clear c53
                            by_cases c54 : x9_3 = (wrap64 ((l0_1.length : Int) - 1))
                            · rw [if_pos c54] at H
                              have c54b0 : (x9_3 == (wrap64 ((l0_1.length : Int) - 1))) = true := beq_iff_eq.mpr c54
                              have c54b1 : (x9_3 != (wrap64 ((l0_1.length : Int) - 1))) = false := bne_eq_false_iff_eq.mpr c54
                              clear c54
                              obtain rfl := Option.some.inj H
                              have hcz55_0 : wr.cell? ⟨gb110, 0, none⟩ = some (.string a0_0) := (blk_cell BK110.out 0).trans rfl
                              have hcz55_1 : wr.cell? ⟨gb110, 1, none⟩ = some (.slice A0_1 l0_1.length c0_1) := (blk_cell BK110.out 1).trans rfl
                              have hfz55_0 := blk_frozen BK110.out 0
                              have hfz55_1 := blk_frozen BK110.out 1
                              have p115 : 0 ≤ (x9_3 : Int) := of_decide_eq_true (by first | (with_reducible assumption) | assumption)
                              have q115 : x9_3 < (l0_1.length : Int) := of_decide_eq_true (by first | (with_reducible assumption) | assumption)
                              obtain ⟨ad115, A115_0, c115_0, e115, hx115_0, hl115_0, hi115_0⟩ := at_L1 HR0_1.out x9_3 p115 q115
                              cases e115
                              replace hx115_0 := (HB.out.cell (World.block_lt_of_cell? w _ hx115_0)).trans hx115_0
                              have HR115_0 := Aside0.mk hi115_0
                              have HC115_0 := Aside0.mk hl115_0
                              clear hi115_0 hl115_0
                              replace p115 := eq_true p115
                              replace q115 := eq_true q115
                              go_wp2
                              repeat (go_quiet (fail); try go_wp2)
                              go_ret
                              exact ⟨by first | rfl | (simp [errW_none, errW_some] <;> rfl) | (simp [*, errW_none, errW_some] <;> rfl), by repeat (first | (with_reducible first | exact HB.out | apply below_alloc | apply pw_below_drewN | apply below_drew1 | refine below_set ?_ GE110.out) | exact HB.out)⟩
                            · rw [if_neg c54] at H
                              have c54b0 : (x9_3 == (wrap64 ((l0_1.length : Int) - 1))) = false := beq_eq_false_iff_ne.mpr c54
                              have c54b1 : (x9_3 != (wrap64 ((l0_1.length : Int) - 1))) = true := bne_iff_ne.mpr c54
                              by_cases c56 : ((rd_L1 l0_1 x9_3).length : Int) > 0
                              · rw [if_pos c56] at H
                                have c56b0 : decide (0 < ((rd_L1 l0_1 x9_3).length : Int)) = true := decide_eq_true c56
                                have c56b1 : decide (0 < (rd_L1 l0_1 x9_3).length) = true := decide_eq_true (by omega)
                                clear c56
                                obtain ⟨ji57, hji57⟩ : ∃ j_ : Int, (wrap64 (((rd_L1 l0_1 x9_3).length : Int) - 1)) = j_ := ⟨_, rfl⟩
                                replace H : (if 0 ≤ (ji57) then (if (ji57) < ((rd_L1 l0_1 x9_3).length : Int) then (if (rdOf ByteArray.empty (rd_L1 l0_1 x9_3) (ji57)).toList = ([] : List UInt8) then (some 1) else (customsref06_Segment.l3 k3 (wrap64 (x9_3 + 1)) a0_0 l0_1)) else (none)) else (none)) = some r := by first | (rw [hji57] at H; exact H) | (simp only [hji57] at H ⊢; exact H)
                                have hji57w : (IntKind.i64.wrap (((rd_L1 l0_1 x9_3).length : Int) - 1)) = ji57 := (i64_w _).trans hji57
                                by_cases c58 : 0 ≤ (ji57)
                                · rw [if_pos c58] at H
                                  have c58b0 : decide (0 ≤ (ji57)) = true := decide_eq_true c58
                                  clear c58
                                  by_cases c59 : (ji57) < ((rd_L1 l0_1 x9_3).length : Int)
                                  · rw [if_pos c59] at H
                                    have c59b0 : decide ((ji57) < ((rd_L1 l0_1 x9_3).length : Int)) = true := decide_eq_true c59
                                    clear c59
                                    by_cases c60 : (rdOf ByteArray.empty (rd_L1 l0_1 x9_3) (ji57)).toList = ([] : List UInt8)
                                    · rw [if_pos c60] at H
                                      have c60b0 : ((rdOf ByteArray.empty (rd_L1 l0_1 x9_3) (ji57)).toList == ([] : List UInt8)) = true := beq_iff_eq.mpr c60
                                      have c60b1 : ((rdOf ByteArray.empty (rd_L1 l0_1 x9_3) (ji57)).toList != ([] : List UInt8)) = false := bne_eq_false_iff_eq.mpr c60
                                      clear c60
                                      obtain rfl := Option.some.inj H
                                      have hcz61_0 : wr.cell? ⟨gb110, 0, none⟩ = some (.string a0_0) := (blk_cell BK110.out 0).trans rfl
                                      have hcz61_1 : wr.cell? ⟨gb110, 1, none⟩ = some (.slice A0_1 l0_1.length c0_1) := (blk_cell BK110.out 1).trans rfl
                                      have hfz61_0 := blk_frozen BK110.out 0
                                      have hfz61_1 := blk_frozen BK110.out 1
                                      have p115 : 0 ≤ (x9_3 : Int) := of_decide_eq_true (by first | (with_reducible assumption) | assumption)
                                      have q115 : x9_3 < (l0_1.length : Int) := of_decide_eq_true (by first | (with_reducible assumption) | assumption)
                                      obtain ⟨ad115, A115_0, c115_0, e115, hx115_0, hl115_0, hi115_0⟩ := at_L1 HR0_1.out x9_3 p115 q115
                                      cases e115
                                      replace hx115_0 := (HB.out.cell (World.block_lt_of_cell? w _ hx115_0)).trans hx115_0
                                      have HR115_0 := Aside0.mk hi115_0
                                      have HC115_0 := Aside0.mk hl115_0
                                      clear hi115_0 hl115_0
                                      replace p115 := eq_true p115
                                      replace q115 := eq_true q115
                                      have p116 : 0 ≤ (x9_3 : Int) := of_decide_eq_true (by first | (with_reducible assumption) | assumption)
                                      have q116 : x9_3 < (l0_1.length : Int) := of_decide_eq_true (by first | (with_reducible assumption) | assumption)
                                      obtain ⟨ad116, A116_0, c116_0, e116, hx116_0, hl116_0, hi116_0⟩ := at_L1 HR0_1.out x9_3 p116 q116
                                      obtain rfl : ad115 = ad116 := (by injection e116)
                                      replace hx116_0 := (HB.out.cell (World.block_lt_of_cell? w _ hx116_0)).trans hx116_0
                                      have HR116_0 := Aside0.mk hi116_0
                                      have HC116_0 := Aside0.mk hl116_0
                                      clear hi116_0 hl116_0
                                      replace p116 := eq_true p116
                                      replace q116 := eq_true q116
                                      have ea_ := Option.some.inj (hx115_0.symm.trans hx116_0)
                                      injection ea_ with ea_ en_ ec_
                                      subst ea_
                                      subst ec_
                                      clear en_
                                      have p117 : 0 ≤ ((ji57) : Int) := of_decide_eq_true (by first | (with_reducible assumption) | assumption)
                                      have q117 : (ji57) < ((rd_L1 l0_1 x9_3).length : Int) := of_decide_eq_true (by first | (with_reducible assumption) | assumption)
                                      obtain ⟨ad117, e117, hx117_0⟩ := Kd.at_string HR116_0.out (ji57) p117 q117
                                      cases e117
                                      replace hx117_0 := (HB.out.cell (World.block_lt_of_cell? w _ hx117_0)).trans hx117_0
                                      replace p117 := eq_true p117
                                      replace q117 := eq_true q117
                                      go_wp2
                                      repeat (go_quiet (fail); try go_wp2)
                                      go_ret
                                      exact ⟨by first | rfl | (simp [errW_none, errW_some] <;> rfl) | (simp only [← hji57]; first | rfl | (simp [errW_none, errW_some] <;> rfl)) | (simp [*, errW_none, errW_some] <;> rfl), by repeat (first | (with_reducible first | exact HB.out | apply below_alloc | apply pw_below_drewN | apply below_drew1 | refine below_set ?_ GE110.out) | exact HB.out)⟩
                                    · rw [if_neg c60] at H
                                      have c60b0 : ((rdOf ByteArray.empty (rd_L1 l0_1 x9_3) (ji57)).toList == ([] : List UInt8)) = false := beq_eq_false_iff_ne.mpr c60
                                      have c60b1 : ((rdOf ByteArray.empty (rd_L1 l0_1 x9_3) (ji57)).toList != ([] : List UInt8)) = true := bne_iff_ne.mpr c60
                                      have H' := Aside0.mk H
                                      clear H
                                      have hcz62_0 : wr.cell? ⟨gb110, 0, none⟩ = some (.string a0_0) := (blk_cell BK110.out 0).trans rfl
                                      have hcz62_1 : wr.cell? ⟨gb110, 1, none⟩ = some (.slice A0_1 l0_1.length c0_1) := (blk_cell BK110.out 1).trans rfl
                                      have hfz62_0 := blk_frozen BK110.out 0
                                      have hfz62_1 := blk_frozen BK110.out 1
                                      have p115 : 0 ≤ (x9_3 : Int) := of_decide_eq_true (by first | (with_reducible assumption) | assumption)
                                      have q115 : x9_3 < (l0_1.length : Int) := of_decide_eq_true (by first | (with_reducible assumption) | assumption)
                                      obtain ⟨ad115, A115_0, c115_0, e115, hx115_0, hl115_0, hi115_0⟩ := at_L1 HR0_1.out x9_3 p115 q115
                                      cases e115
                                      replace hx115_0 := (HB.out.cell (World.block_lt_of_cell? w _ hx115_0)).trans hx115_0
                                      have HR115_0 := Aside0.mk hi115_0
                                      have HC115_0 := Aside0.mk hl115_0
                                      clear hi115_0 hl115_0
                                      replace p115 := eq_true p115
                                      replace q115 := eq_true q115
                                      have p116 : 0 ≤ (x9_3 : Int) := of_decide_eq_true (by first | (with_reducible assumption) | assumption)
                                      have q116 : x9_3 < (l0_1.length : Int) := of_decide_eq_true (by first | (with_reducible assumption) | assumption)
                                      obtain ⟨ad116, A116_0, c116_0, e116, hx116_0, hl116_0, hi116_0⟩ := at_L1 HR0_1.out x9_3 p116 q116
                                      obtain rfl : ad115 = ad116 := (by injection e116)
                                      replace hx116_0 := (HB.out.cell (World.block_lt_of_cell? w _ hx116_0)).trans hx116_0
                                      have HR116_0 := Aside0.mk hi116_0
                                      have HC116_0 := Aside0.mk hl116_0
                                      clear hi116_0 hl116_0
                                      replace p116 := eq_true p116
                                      replace q116 := eq_true q116
                                      have ea_ := Option.some.inj (hx115_0.symm.trans hx116_0)
                                      injection ea_ with ea_ en_ ec_
                                      subst ea_
                                      subst ec_
                                      clear en_
                                      have p117 : 0 ≤ ((ji57) : Int) := of_decide_eq_true (by first | (with_reducible assumption) | assumption)
                                      have q117 : (ji57) < ((rd_L1 l0_1 x9_3).length : Int) := of_decide_eq_true (by first | (with_reducible assumption) | assumption)
                                      obtain ⟨ad117, e117, hx117_0⟩ := Kd.at_string HR116_0.out (ji57) p117 q117
                                      cases e117
                                      replace hx117_0 := (HB.out.cell (World.block_lt_of_cell? w _ hx117_0)).trans hx117_0
                                      replace p117 := eq_true p117
                                      replace q117 := eq_true q117
                                      go_wp2
                                      repeat (go_quiet (fail); try go_wp2)
                                      go_roundg k3
                                      case measure => have := HK1.out; have := HK2.out; have := HK3.out; omega
                                      case rel => exact ⟨(wrap64 (x9_3 + 1)), (by first | rfl | (simp; done) | (simp [*]; done)), H', ⟨by have := HK1.out; have := HK2.out; have := HK3.out; omega⟩, ⟨by (with_reducible repeat (first | refine blk_drewN ?_ _ | refine blk_drew ?_ | refine blk_alloc ?_ _)); exact BK110.out⟩, ⟨by repeat (first | (with_reducible first | exact HB.out | apply below_alloc | apply pw_below_drewN | apply below_drew1 | refine below_set ?_ GE110.out) | exact HB.out)⟩⟩
                                  · rw [if_neg c59] at H
                                    exact absurd H (by simp)
                                · rw [if_neg c58] at H
                                  exact absurd H (by simp)
                              · rw [if_neg c56] at H
                                have c56b0 : decide (0 < ((rd_L1 l0_1 x9_3).length : Int)) = false := decide_eq_false c56
                                have c56b1 : decide (0 < (rd_L1 l0_1 x9_3).length) = false := decide_eq_false (by omega)
                                clear c56
                                have H' := Aside0.mk H
                                clear H
                                have hcz63_0 : wr.cell? ⟨gb110, 0, none⟩ = some (.string a0_0) := (blk_cell BK110.out 0).trans rfl
                                have hcz63_1 : wr.cell? ⟨gb110, 1, none⟩ = some (.slice A0_1 l0_1.length c0_1) := (blk_cell BK110.out 1).trans rfl
                                have hfz63_0 := blk_frozen BK110.out 0
                                have hfz63_1 := blk_frozen BK110.out 1
                                have p115 : 0 ≤ (x9_3 : Int) := of_decide_eq_true (by first | (with_reducible assumption) | assumption)
                                have q115 : x9_3 < (l0_1.length : Int) := of_decide_eq_true (by first | (with_reducible assumption) | assumption)
                                obtain ⟨ad115, A115_0, c115_0, e115, hx115_0, hl115_0, hi115_0⟩ := at_L1 HR0_1.out x9_3 p115 q115
                                cases e115
                                replace hx115_0 := (HB.out.cell (World.block_lt_of_cell? w _ hx115_0)).trans hx115_0
                                have HR115_0 := Aside0.mk hi115_0
                                have HC115_0 := Aside0.mk hl115_0
                                clear hi115_0 hl115_0
                                replace p115 := eq_true p115
                                replace q115 := eq_true q115
                                go_wp2
                                repeat (go_quiet (fail); try go_wp2)
                                go_roundg k3
                                case measure => have := HK1.out; have := HK2.out; have := HK3.out; omega
                                case rel => exact ⟨(wrap64 (x9_3 + 1)), (by first | rfl | (simp; done) | (simp [*]; done)), H', ⟨by have := HK1.out; have := HK2.out; have := HK3.out; omega⟩, ⟨by (with_reducible repeat (first | refine blk_drewN ?_ _ | refine blk_drew ?_ | refine blk_alloc ?_ _)); exact BK110.out⟩, ⟨by repeat (first | (with_reducible first | exact HB.out | apply below_alloc | apply pw_below_drewN | apply below_drew1 | refine below_set ?_ GE110.out) | exact HB.out)⟩⟩
                          · rw [if_neg c53] at H
                            have c53b0 : (((rd_L1 l0_1 x9_3).length : Int) == 0) = false := beq_eq_false_iff_ne.mpr c53
                            have c53b1 : (((rd_L1 l0_1 x9_3).length : Int) != 0) = true := bne_iff_ne.mpr c53
                            have c53b2 : ¬ ((rd_L1 l0_1 x9_3) = []) := fun h_ => c53 (by rw [h_]; rfl)
                            by_cases c64 : ((rd_L1 l0_1 x9_3).length : Int) > 0
                            · rw [if_pos c64] at H
                              have c64b0 : decide (0 < ((rd_L1 l0_1 x9_3).length : Int)) = true := decide_eq_true c64
                              have c64b1 : decide (0 < (rd_L1 l0_1 x9_3).length) = true := decide_eq_true (by omega)
                              clear c64
                              obtain ⟨ji65, hji65⟩ : ∃ j_ : Int, (wrap64 (((rd_L1 l0_1 x9_3).length : Int) - 1)) = j_ := ⟨_, rfl⟩
                              replace H : (if 0 ≤ (ji65) then (if (ji65) < ((rd_L1 l0_1 x9_3).length : Int) then (if (rdOf ByteArray.empty (rd_L1 l0_1 x9_3) (ji65)).toList = ([] : List UInt8) then (some 1) else (customsref06_Segment.l3 k3 (wrap64 (x9_3 + 1)) a0_0 l0_1)) else (none)) else (none)) = some r := by first | (rw [hji65] at H; exact H) | (simp only [hji65] at H ⊢; exact H)
                              have hji65w : (IntKind.i64.wrap (((rd_L1 l0_1 x9_3).length : Int) - 1)) = ji65 := (i64_w _).trans hji65
                              by_cases c66 : 0 ≤ (ji65)
                              · rw [if_pos c66] at H
                                have c66b0 : decide (0 ≤ (ji65)) = true := decide_eq_true c66
                                clear c66
                                by_cases c67 : (ji65) < ((rd_L1 l0_1 x9_3).length : Int)
                                · rw [if_pos c67] at H
                                  have c67b0 : decide ((ji65) < ((rd_L1 l0_1 x9_3).length : Int)) = true := decide_eq_true c67
                                  clear c67
                                  by_cases c68 : (rdOf ByteArray.empty (rd_L1 l0_1 x9_3) (ji65)).toList = ([] : List UInt8)
                                  · rw [if_pos c68] at H
                                    have c68b0 : ((rdOf ByteArray.empty (rd_L1 l0_1 x9_3) (ji65)).toList == ([] : List UInt8)) = true := beq_iff_eq.mpr c68
                                    have c68b1 : ((rdOf ByteArray.empty (rd_L1 l0_1 x9_3) (ji65)).toList != ([] : List UInt8)) = false := bne_eq_false_iff_eq.mpr c68
                                    clear c68
                                    obtain rfl := Option.some.inj H
                                    have hcz69_0 : wr.cell? ⟨gb110, 0, none⟩ = some (.string a0_0) := (blk_cell BK110.out 0).trans rfl
                                    have hcz69_1 : wr.cell? ⟨gb110, 1, none⟩ = some (.slice A0_1 l0_1.length c0_1) := (blk_cell BK110.out 1).trans rfl
                                    have hfz69_0 := blk_frozen BK110.out 0
                                    have hfz69_1 := blk_frozen BK110.out 1
                                    have p115 : 0 ≤ (x9_3 : Int) := of_decide_eq_true (by first | (with_reducible assumption) | assumption)
                                    have q115 : x9_3 < (l0_1.length : Int) := of_decide_eq_true (by first | (with_reducible assumption) | assumption)
                                    obtain ⟨ad115, A115_0, c115_0, e115, hx115_0, hl115_0, hi115_0⟩ := at_L1 HR0_1.out x9_3 p115 q115
                                    cases e115
                                    replace hx115_0 := (HB.out.cell (World.block_lt_of_cell? w _ hx115_0)).trans hx115_0
                                    have HR115_0 := Aside0.mk hi115_0
                                    have HC115_0 := Aside0.mk hl115_0
                                    clear hi115_0 hl115_0
                                    replace p115 := eq_true p115
                                    replace q115 := eq_true q115
                                    have p118 : 0 ≤ (x9_3 : Int) := of_decide_eq_true (by first | (with_reducible assumption) | assumption)
                                    have q118 : x9_3 < (l0_1.length : Int) := of_decide_eq_true (by first | (with_reducible assumption) | assumption)
                                    obtain ⟨ad118, A118_0, c118_0, e118, hx118_0, hl118_0, hi118_0⟩ := at_L1 HR0_1.out x9_3 p118 q118
                                    obtain rfl : ad115 = ad118 := (by injection e118)
                                    replace hx118_0 := (HB.out.cell (World.block_lt_of_cell? w _ hx118_0)).trans hx118_0
                                    have HR118_0 := Aside0.mk hi118_0
                                    have HC118_0 := Aside0.mk hl118_0
                                    clear hi118_0 hl118_0
                                    replace p118 := eq_true p118
                                    replace q118 := eq_true q118
                                    have ea_ := Option.some.inj (hx115_0.symm.trans hx118_0)
                                    injection ea_ with ea_ en_ ec_
                                    subst ea_
                                    subst ec_
                                    clear en_
                                    have p119 : 0 ≤ ((ji65) : Int) := of_decide_eq_true (by first | (with_reducible assumption) | assumption)
                                    have q119 : (ji65) < ((rd_L1 l0_1 x9_3).length : Int) := of_decide_eq_true (by first | (with_reducible assumption) | assumption)
                                    obtain ⟨ad119, e119, hx119_0⟩ := Kd.at_string HR118_0.out (ji65) p119 q119
                                    cases e119
                                    replace hx119_0 := (HB.out.cell (World.block_lt_of_cell? w _ hx119_0)).trans hx119_0
                                    replace p119 := eq_true p119
                                    replace q119 := eq_true q119
                                    go_wp2
                                    repeat (go_quiet (fail); try go_wp2)
                                    go_ret
                                    exact ⟨by first | rfl | (simp [errW_none, errW_some] <;> rfl) | (simp only [← hji65]; first | rfl | (simp [errW_none, errW_some] <;> rfl)) | (simp [*, errW_none, errW_some] <;> rfl), by repeat (first | (with_reducible first | exact HB.out | apply below_alloc | apply pw_below_drewN | apply below_drew1 | refine below_set ?_ GE110.out) | exact HB.out)⟩
                                  · rw [if_neg c68] at H
                                    have c68b0 : ((rdOf ByteArray.empty (rd_L1 l0_1 x9_3) (ji65)).toList == ([] : List UInt8)) = false := beq_eq_false_iff_ne.mpr c68
                                    have c68b1 : ((rdOf ByteArray.empty (rd_L1 l0_1 x9_3) (ji65)).toList != ([] : List UInt8)) = true := bne_iff_ne.mpr c68
                                    have H' := Aside0.mk H
                                    clear H
                                    have hcz70_0 : wr.cell? ⟨gb110, 0, none⟩ = some (.string a0_0) := (blk_cell BK110.out 0).trans rfl
                                    have hcz70_1 : wr.cell? ⟨gb110, 1, none⟩ = some (.slice A0_1 l0_1.length c0_1) := (blk_cell BK110.out 1).trans rfl
                                    have hfz70_0 := blk_frozen BK110.out 0
                                    have hfz70_1 := blk_frozen BK110.out 1
                                    have p115 : 0 ≤ (x9_3 : Int) := of_decide_eq_true (by first | (with_reducible assumption) | assumption)
                                    have q115 : x9_3 < (l0_1.length : Int) := of_decide_eq_true (by first | (with_reducible assumption) | assumption)
                                    obtain ⟨ad115, A115_0, c115_0, e115, hx115_0, hl115_0, hi115_0⟩ := at_L1 HR0_1.out x9_3 p115 q115
                                    cases e115
                                    replace hx115_0 := (HB.out.cell (World.block_lt_of_cell? w _ hx115_0)).trans hx115_0
                                    have HR115_0 := Aside0.mk hi115_0
                                    have HC115_0 := Aside0.mk hl115_0
                                    clear hi115_0 hl115_0
                                    replace p115 := eq_true p115
                                    replace q115 := eq_true q115
                                    have p118 : 0 ≤ (x9_3 : Int) := of_decide_eq_true (by first | (with_reducible assumption) | assumption)
                                    have q118 : x9_3 < (l0_1.length : Int) := of_decide_eq_true (by first | (with_reducible assumption) | assumption)
                                    obtain ⟨ad118, A118_0, c118_0, e118, hx118_0, hl118_0, hi118_0⟩ := at_L1 HR0_1.out x9_3 p118 q118
                                    obtain rfl : ad115 = ad118 := (by injection e118)
                                    replace hx118_0 := (HB.out.cell (World.block_lt_of_cell? w _ hx118_0)).trans hx118_0
                                    have HR118_0 := Aside0.mk hi118_0
                                    have HC118_0 := Aside0.mk hl118_0
                                    clear hi118_0 hl118_0
                                    replace p118 := eq_true p118
                                    replace q118 := eq_true q118
                                    have ea_ := Option.some.inj (hx115_0.symm.trans hx118_0)
                                    injection ea_ with ea_ en_ ec_
                                    subst ea_
                                    subst ec_
                                    clear en_
                                    have p119 : 0 ≤ ((ji65) : Int) := of_decide_eq_true (by first | (with_reducible assumption) | assumption)
                                    have q119 : (ji65) < ((rd_L1 l0_1 x9_3).length : Int) := of_decide_eq_true (by first | (with_reducible assumption) | assumption)
                                    obtain ⟨ad119, e119, hx119_0⟩ := Kd.at_string HR118_0.out (ji65) p119 q119
                                    cases e119
                                    replace hx119_0 := (HB.out.cell (World.block_lt_of_cell? w _ hx119_0)).trans hx119_0
                                    replace p119 := eq_true p119
                                    replace q119 := eq_true q119
                                    go_wp2
                                    repeat (go_quiet (fail); try go_wp2)
                                    go_roundg k3
                                    case measure => have := HK1.out; have := HK2.out; have := HK3.out; omega
                                    case rel => exact ⟨(wrap64 (x9_3 + 1)), (by first | rfl | (simp; done) | (simp [*]; done)), H', ⟨by have := HK1.out; have := HK2.out; have := HK3.out; omega⟩, ⟨by (with_reducible repeat (first | refine blk_drewN ?_ _ | refine blk_drew ?_ | refine blk_alloc ?_ _)); exact BK110.out⟩, ⟨by repeat (first | (with_reducible first | exact HB.out | apply below_alloc | apply pw_below_drewN | apply below_drew1 | refine below_set ?_ GE110.out) | exact HB.out)⟩⟩
                                · rw [if_neg c67] at H
                                  exact absurd H (by simp)
                              · rw [if_neg c66] at H
                                exact absurd H (by simp)
                            · rw [if_neg c64] at H
                              have c64b0 : decide (0 < ((rd_L1 l0_1 x9_3).length : Int)) = false := decide_eq_false c64
                              have c64b1 : decide (0 < (rd_L1 l0_1 x9_3).length) = false := decide_eq_false (by omega)
                              clear c64
                              have H' := Aside0.mk H
                              clear H
                              have hcz71_0 : wr.cell? ⟨gb110, 0, none⟩ = some (.string a0_0) := (blk_cell BK110.out 0).trans rfl
                              have hcz71_1 : wr.cell? ⟨gb110, 1, none⟩ = some (.slice A0_1 l0_1.length c0_1) := (blk_cell BK110.out 1).trans rfl
                              have hfz71_0 := blk_frozen BK110.out 0
                              have hfz71_1 := blk_frozen BK110.out 1
                              have p115 : 0 ≤ (x9_3 : Int) := of_decide_eq_true (by first | (with_reducible assumption) | assumption)
                              have q115 : x9_3 < (l0_1.length : Int) := of_decide_eq_true (by first | (with_reducible assumption) | assumption)
                              obtain ⟨ad115, A115_0, c115_0, e115, hx115_0, hl115_0, hi115_0⟩ := at_L1 HR0_1.out x9_3 p115 q115
                              cases e115
                              replace hx115_0 := (HB.out.cell (World.block_lt_of_cell? w _ hx115_0)).trans hx115_0
                              have HR115_0 := Aside0.mk hi115_0
                              have HC115_0 := Aside0.mk hl115_0
                              clear hi115_0 hl115_0
                              replace p115 := eq_true p115
                              replace q115 := eq_true q115
                              go_wp2
                              repeat (go_quiet (fail); try go_wp2)
                              go_roundg k3
                              case measure => have := HK1.out; have := HK2.out; have := HK3.out; omega
                              case rel => exact ⟨(wrap64 (x9_3 + 1)), (by first | rfl | (simp; done) | (simp [*]; done)), H', ⟨by have := HK1.out; have := HK2.out; have := HK3.out; omega⟩, ⟨by (with_reducible repeat (first | refine blk_drewN ?_ _ | refine blk_drew ?_ | refine blk_alloc ?_ _)); exact BK110.out⟩, ⟨by repeat (first | (with_reducible first | exact HB.out | apply below_alloc | apply pw_below_drewN | apply below_drew1 | refine below_set ?_ GE110.out) | exact HB.out)⟩⟩
                        · rw [if_neg c52] at H
                          exact absurd H (by simp)
                      · rw [if_neg c51] at H
                        have c51b0 : decide (x9_3 < (l0_1.length : Int)) = false := decide_eq_false c51
                        clear c51
                        obtain rfl := Option.some.inj H
                        have hcz72_0 : wr.cell? ⟨gb110, 0, none⟩ = some (.string a0_0) := (blk_cell BK110.out 0).trans rfl
                        have hcz72_1 : wr.cell? ⟨gb110, 1, none⟩ = some (.slice A0_1 l0_1.length c0_1) := (blk_cell BK110.out 1).trans rfl
                        have hfz72_0 := blk_frozen BK110.out 0
                        have hfz72_1 := blk_frozen BK110.out 1
                        go_wp2
                        repeat (go_quiet (fail); try go_wp2)
                        go_ret
                        exact ⟨by first | rfl | (simp [errW_none, errW_some] <;> rfl) | (simp [*, errW_none, errW_some] <;> rfl), by repeat (first | (with_reducible first | exact HB.out | apply below_alloc | apply pw_below_drewN | apply below_drew1 | refine below_set ?_ GE110.out) | exact HB.out)⟩
  · rw [if_neg c2] at H
    have c2b0 : ((a0_0.size : Int) == 3) = false := beq_eq_false_iff_ne.mpr c2
    have c2b1 : ((a0_0.size : Int) != 3) = true := bne_iff_ne.mpr c2
    obtain rfl := Option.some.inj H
    go_enter Try.func10, Try.ntmps10
    go_wp2_with (first | ((with_reducible refine gate_dst (N := 1) rfl ?_); (try (refine gate_guard (by rfl) ?_; dsimp only)); refine box_event ?hg (N := 1) ?hd (cs := #[.string a0_0, .slice A0_1 l0_1.length c0_1]) (t := 24) ?hr ?_; (case hd => rfl); (case hg => rfl); (case hr => first | (go_simp; done) | (go_simp; rfl)); intro gb110 hg w73 hbox hb; have n0_ := Aside0.mk (below_step (by repeat (first | (with_reducible first | exact HB.out | apply below_alloc | apply pw_below_drewN | apply below_drew1) | exact HB.out)) hb); have n1_ := Aside0.mk (hbox); have n2_ := Aside0.mk ((by rw [hg]; exact (below_size (by repeat (first | (with_reducible first | exact HB.out | apply below_alloc | apply pw_below_drewN | apply below_drew1) | exact HB.out))) : w.heap.size ≤ gb110)); have n3_ := Aside0.mk ((by rw [hg]; exact (below_size (by repeat (first | (with_reducible first | exact HB.out | apply below_alloc | apply pw_below_drewN | apply below_drew1) | exact HB.out))) : w.heap.size ≤ gb110)); clear HB; have HB := n0_; have BK110 := n1_; have GW110 := n2_; have GE110 := n3_; clear n0_ n1_ n2_ n3_; clear hb hbox hg; have hcz74_0 : w73.cell? ⟨gb110, 0, none⟩ = some (.string a0_0) := (blk_cell BK110.out 0).trans rfl; have hcz74_1 : w73.cell? ⟨gb110, 1, none⟩ = some (.slice A0_1 l0_1.length c0_1) := (blk_cell BK110.out 1).trans rfl; have hfz74_0 := blk_frozen BK110.out 0; have hfz74_1 := blk_frozen BK110.out 1))
    repeat (go_quiet (fail); try go_wp2_with (fail))
    go_ret
    exact ⟨by first | rfl | (simp [errW_none, errW_some] <;> rfl) | (simp [*, errW_none, errW_some] <;> rfl), by repeat (first | (with_reducible first | exact HB.out | apply below_alloc | apply pw_below_drewN | apply below_drew1 | refine below_set ?_ GE110.out) | exact HB.out)⟩

end Go.Proofs.Ythdahpnjiighfaa.F
