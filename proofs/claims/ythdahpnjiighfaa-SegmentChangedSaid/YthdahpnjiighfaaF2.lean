import Derived.Test.YthdahpnjiighfaaF0
namespace Go.Proofs.Ythdahpnjiighfaa.F
open Go.RowKit Go.Proofs.YthdahpnjiighfaaW.PrintWords Go.Proofs.YthdahpnjiighfaaW.PrintLast Go.Proofs.YthdahpnjiighfaaW.PrintMore
attribute [local go_sem] max2_int min2_int max_two min_two max_three min_three max_four min_four
set_option linter.unusedVariables false
set_option linter.unusedSimpArgs false
/-! ### segment_limits: function 22 -/
mutual
def segment_limits.l0 : Nat → List (List ByteArray) → Int → Int → Option (Bool)
  | 0, _, _, _ => none
  | k + 1, x12, x13, x14 => if x14 < x13 then (if 0 ≤ x14 then (if x14 < (x12.length : Int) then (if ((rd_L1 x12 x14).length : Int) > 100 then (some false) else (segment_limits.l1 k x12 x13 x14 (rd_L1 x12 x14) ((rd_L1 x12 x14).length : Int) 0)) else (none)) else (none)) else (some true)
def segment_limits.l1 : Nat → List (List ByteArray) → Int → Int → List ByteArray → Int → Int → Option (Bool)
  | 0, _, _, _, _, _, _ => none
  | k + 1, x12, x13, x14, x21, x22, x23 => if x23 < x22 then (if 0 ≤ x23 then (if x23 < (x21.length : Int) then (if ((rdOf ByteArray.empty x21 x23).size : Int) > 1000 then (some false) else (segment_limits.l1 k x12 x13 x14 x21 x22 (wrap64 (x23 + 1)))) else (none)) else (none)) else (segment_limits.l0 k x12 x13 (wrap64 (x14 + 1)))
end
def segment_limits.f (k : Nat) (a0_0 : ByteArray) (l0_1 : List (List ByteArray)) : Option (Bool) := if (l0_1.length : Int) > 100 then (some false) else (segment_limits.l0 k l0_1 (l0_1.length : Int) 0)
theorem segment_limits.mono_l : ∀ k, (∀ y0 y1 y2, LeO (segment_limits.l0 k y0 y1 y2) (segment_limits.l0 (k + 1) y0 y1 y2)) ∧ (∀ y0 y1 y2 y3 y4 y5, LeO (segment_limits.l1 k y0 y1 y2 y3 y4 y5) (segment_limits.l1 (k + 1) y0 y1 y2 y3 y4 y5))
  | 0 => ⟨fun _ _ _ r h => by simp [segment_limits.l0] at h, fun _ _ _ _ _ _ r h => by simp [segment_limits.l1] at h⟩
  | k + 1 => by
    obtain ⟨ih0, ih1⟩ := segment_limits.mono_l k
    refine ⟨?_, ?_⟩
    · intro y0 y1 y2
      unfold segment_limits.l0
      repeat' first
      | (with_reducible exact ih0 _ _ _)
      | (with_reducible exact ih1 _ _ _ _ _ _)
      | (with_reducible exact LeO.refl _)
      | (with_reducible exact LeO.none _)
      | (with_reducible refine LeO.ite ?_ ?_)
      | (with_reducible refine LeO.bind ?_ (fun _ => ?_))
      | exact ih0 _ _ _
      | exact ih1 _ _ _ _ _ _
      | exact LeO.none _
      | refine LeO.ite ?_ ?_
      | refine LeO.bind ?_ (fun _ => ?_)
    · intro y0 y1 y2 y3 y4 y5
      unfold segment_limits.l1
      repeat' first
      | (with_reducible exact ih0 _ _ _)
      | (with_reducible exact ih1 _ _ _ _ _ _)
      | (with_reducible exact LeO.refl _)
      | (with_reducible exact LeO.none _)
      | (with_reducible refine LeO.ite ?_ ?_)
      | (with_reducible refine LeO.bind ?_ (fun _ => ?_))
      | exact ih0 _ _ _
      | exact ih1 _ _ _ _ _ _
      | exact LeO.none _
      | refine LeO.ite ?_ ?_
      | refine LeO.bind ?_ (fun _ => ?_)
theorem segment_limits.mono : ∀ a0 a1 k, LeO (segment_limits.f k a0 a1) (segment_limits.f (k + 1) a0 a1) := by
  intro a0 a1 k; (obtain ⟨ih0, ih1⟩ := segment_limits.mono_l k); (unfold segment_limits.f)
  repeat' first
      | (with_reducible exact ih0 _ _ _)
      | (with_reducible exact ih1 _ _ _ _ _ _)
      | (with_reducible exact LeO.refl _)
      | (with_reducible exact LeO.none _)
      | (with_reducible refine LeO.ite ?_ ?_)
      | (with_reducible refine LeO.bind ?_ (fun _ => ?_))
      | exact ih0 _ _ _
      | exact ih1 _ _ _ _ _ _
      | exact LeO.none _
      | refine LeO.ite ?_ ?_
      | refine LeO.bind ?_ (fun _ => ?_)
set_option maxHeartbeats 8000000 in
set_option maxRecDepth 100000 in
theorem segment_limits.calls (k : Nat) (a0_0 : ByteArray) (A0_1 : Option Addr) (c0_1 : Nat) (l0_1 : List (List ByteArray)) (r : Bool) (w : World) (hr0_1 : Kd.C (Kd.slice 9 Kd.string) w A0_1 l0_1.length l0_1) (hc0_1 : l0_1.length ≤ c0_1) (h : segment_limits.f k a0_0 l0_1 = some r) :
    Calls Try.prog 22 #[.agg #[.string a0_0, .slice A0_1 l0_1.length c0_1]] w fun e w' => e = .returned (.bool r) ∧ Below w.heap.size w w' := by
  have hu24 := Try.underlying24; have HR0_1 := Aside0.mk hr0_1; have HC0_1 := Aside0.mk hc0_1; clear hr0_1 hc0_1; (have HB := Aside0.mk (Below.refl w.heap.size w)); (have H : (if (l0_1.length : Int) > 100 then (some false) else (segment_limits.l0 k l0_1 (l0_1.length : Int) 0)) = some r := h); clear h; (by_cases c2 : (l0_1.length : Int) > 100)
  · (rw [if_pos c2] at H); (have c2b0 : decide (100 < (l0_1.length : Int)) = true := decide_eq_true c2); (have c2b1 : decide (100 < l0_1.length) = true := decide_eq_true (by omega)); clear c2; (obtain rfl := Option.some.inj H); (go_enter Try.func22, Try.ntmps22); (go_wp2_with (first | ((with_reducible refine gate_dst (N := 1) rfl ?_); refine box_event ?hg (N := 1) ?hd (cs := #[.string a0_0, .slice A0_1 l0_1.length c0_1]) (t := 24) ?hr ?_; (case hd => rfl); (case hg => rfl); (case hr => first | (go_simp; done) | (go_simp; rfl)); intro gb101 hg w3 hbox hb; have n0_ := Aside0.mk (below_step HB.out hb); have n1_ := Aside0.mk (hbox); have n2_ := Aside0.mk ((by rw [hg]; exact (below_size HB.out) : w.heap.size ≤ gb101)); have n3_ := Aside0.mk ((by rw [hg]; exact (below_size HB.out) : w.heap.size ≤ gb101)); clear HB; have HB := n0_; have BK101 := n1_; have GW101 := n2_; have GE101 := n3_; clear n0_ n1_ n2_ n3_; clear hb hbox hg; have hcz4_0 : w3.cell? ⟨gb101, 0, none⟩ = some (.string a0_0) := (blk_cell BK101.out 0).trans rfl; have hcz4_1 : w3.cell? ⟨gb101, 1, none⟩ = some (.slice A0_1 l0_1.length c0_1) := (blk_cell BK101.out 1).trans rfl; have hfz4_0 := blk_frozen BK101.out 0; have hfz4_1 := blk_frozen BK101.out 1))); go_ret; (exact ⟨by first | rfl | (simp [errW_none, errW_some] <;> rfl) | (simp [*, errW_none, errW_some] <;> rfl), by repeat (first | (with_reducible first | exact HB.out | apply below_alloc | apply pw_below_drewN | apply below_drew1 | refine below_set ?_ GE101.out) | exact HB.out)⟩)
  · (rw [if_neg c2] at H); (have c2b0 : decide (100 < (l0_1.length : Int)) = false := decide_eq_false c2); (have c2b1 : decide (100 < l0_1.length) = false := decide_eq_false (by omega)); clear c2; have H' := Aside0.mk H; clear H; (go_enter Try.func22, Try.ntmps22); (go_wp2_with (first | ((with_reducible refine gate_dst (N := 1) rfl ?_); refine box_event ?hg (N := 1) ?hd (cs := #[.string a0_0, .slice A0_1 l0_1.length c0_1]) (t := 24) ?hr ?_; (case hd => rfl); (case hg => rfl); (case hr => first | (go_simp; done) | (go_simp; rfl)); intro gb101 hg w5 hbox hb; have n0_ := Aside0.mk (below_step HB.out hb); have n1_ := Aside0.mk (hbox); have n2_ := Aside0.mk ((by rw [hg]; exact (below_size HB.out) : w.heap.size ≤ gb101)); have n3_ := Aside0.mk ((by rw [hg]; exact (below_size HB.out) : w.heap.size ≤ gb101)); clear HB; have HB := n0_; have BK101 := n1_; have GW101 := n2_; have GE101 := n3_; clear n0_ n1_ n2_ n3_; clear hb hbox hg; have hcz6_0 : w5.cell? ⟨gb101, 0, none⟩ = some (.string a0_0) := (blk_cell BK101.out 0).trans rfl; have hcz6_1 : w5.cell? ⟨gb101, 1, none⟩ = some (.slice A0_1 l0_1.length c0_1) := (blk_cell BK101.out 1).trans rfl; have hfz6_0 := blk_frozen BK101.out 0; have hfz6_1 := blk_frozen BK101.out 1))); (go_loopg [14] k (fun kq v14 w' => ∃ (x14_1 : Int), v14 = .int .i64 x14_1 ∧ Aside0 (segment_limits.l0 kq l0_1 (l0_1.length : Int) x14_1 = some r) ∧ Aside0 (kq ≤ k) ∧ Aside0 (w'.heap[gb101]? = some (.cells #[.string a0_0, (.slice A0_1 l0_1.length c0_1)] 24 (0, 0))) ∧ Aside0 (Below w.heap.size w w'))); (case atStart => exact ⟨(0), (by first | rfl | (simp; done) | (simp [*]; done)), H', ⟨Nat.le_refl _⟩, ⟨by (with_reducible repeat (first | refine blk_drewN ?_ _ | refine blk_drew ?_ | refine blk_alloc ?_ _)); exact BK101.out⟩, ⟨by repeat (first | (with_reducible first | exact HB.out | apply below_alloc | apply pw_below_drewN | apply below_drew1 | refine below_set ?_ GE101.out) | exact HB.out)⟩⟩)
    case round =>
      clear H'; (try clear c2); (try clear c2b0); (try clear c2b1); (try clear p2); (try clear hcz4_0); (try clear hcz4_1); (try clear hcz6_0); (try clear hcz6_1); (try clear hfz4_0); (try clear hfz4_1); (try clear hfz6_0); (try clear hfz6_1); (obtain ⟨x14_1, rfl, HA, HK1, BK101, HB⟩ := hrel)
      cases gk with
      | zero => exact absurd HA.out (by simp [segment_limits.l0])
      | succ k1 =>
        have H := HA.out; clear HA; (simp only [segment_limits.l0] at H); (by_cases c7 : x14_1 < (l0_1.length : Int))
        · (rw [if_pos c7] at H); (have c7b0 : decide (x14_1 < (l0_1.length : Int)) = true := decide_eq_true c7); clear c7; (by_cases c8 : 0 ≤ x14_1)
          · (rw [if_pos c8] at H); (have c8b0 : decide (0 ≤ x14_1) = true := decide_eq_true c8); clear c8; (by_cases c9 : x14_1 < (l0_1.length : Int))
            · (rw [if_pos c9] at H); (have c9b0 : decide (x14_1 < (l0_1.length : Int)) = true := decide_eq_true c9); clear c9; (by_cases c10 : ((rd_L1 l0_1 x14_1).length : Int) > 100)
              · (rw [if_pos c10] at H); (have c10b0 : decide (100 < ((rd_L1 l0_1 x14_1).length : Int)) = true := decide_eq_true c10); (have c10b1 : decide (100 < (rd_L1 l0_1 x14_1).length) = true := decide_eq_true (by omega)); clear c10; (obtain rfl := Option.some.inj H); (have p102 : 0 ≤ (x14_1 : Int) := of_decide_eq_true (by first | (with_reducible assumption) | assumption)); (have q102 : x14_1 < (l0_1.length : Int) := of_decide_eq_true (by first | (with_reducible assumption) | assumption)); (obtain ⟨ad102, A102_0, c102_0, e102, hx102_0, hl102_0, hi102_0⟩ := at_L1 HR0_1.out x14_1 p102 q102); (cases e102); (replace hx102_0 := (HB.out.cell (World.block_lt_of_cell? w _ hx102_0)).trans hx102_0); have HR102_0 := Aside0.mk hi102_0; have HC102_0 := Aside0.mk hl102_0; clear hi102_0 hl102_0; replace p102 := eq_true p102; replace q102 := eq_true q102; go_wp2; go_ret; (exact ⟨by first | rfl | (simp [errW_none, errW_some] <;> rfl) | (simp [*, errW_none, errW_some] <;> rfl), by repeat (first | (with_reducible first | exact HB.out | apply below_alloc | apply pw_below_drewN | apply below_drew1 | refine below_set ?_ GE101.out) | exact HB.out)⟩)
              · (rw [if_neg c10] at H); (have c10b0 : decide (100 < ((rd_L1 l0_1 x14_1).length : Int)) = false := decide_eq_false c10); (have c10b1 : decide (100 < (rd_L1 l0_1 x14_1).length) = false := decide_eq_false (by omega)); clear c10; have H' := Aside0.mk H; clear H; (have p102 : 0 ≤ (x14_1 : Int) := of_decide_eq_true (by first | (with_reducible assumption) | assumption)); (have q102 : x14_1 < (l0_1.length : Int) := of_decide_eq_true (by first | (with_reducible assumption) | assumption)); (obtain ⟨ad102, A102_0, c102_0, e102, hx102_0, hl102_0, hi102_0⟩ := at_L1 HR0_1.out x14_1 p102 q102); (cases e102); (replace hx102_0 := (HB.out.cell (World.block_lt_of_cell? w _ hx102_0)).trans hx102_0); have HR102_0 := Aside0.mk hi102_0; have HC102_0 := Aside0.mk hl102_0; clear hi102_0 hl102_0; replace p102 := eq_true p102; replace q102 := eq_true q102; go_wp2; (go_loopg [23] k1 (fun kq v23 w' => ∃ (x23_2 : Int), v23 = .int .i64 x23_2 ∧ Aside0 (segment_limits.l1 kq l0_1 (l0_1.length : Int) x14_1 (rd_L1 l0_1 x14_1) ((rd_L1 l0_1 x14_1).length : Int) x23_2 = some r) ∧ Aside0 (kq ≤ k1) ∧ Aside0 (w'.heap[gb101]? = some (.cells #[.string a0_0, (.slice (some ad102) l0_1.length c0_1)] 24 (0, 0))) ∧ Aside0 (Below w.heap.size w w'))); (case atStart => exact ⟨(0), (by first | rfl | (simp; done) | (simp [*]; done)), H', ⟨Nat.le_refl _⟩, ⟨by (with_reducible repeat (first | refine blk_drewN ?_ _ | refine blk_drew ?_ | refine blk_alloc ?_ _)); exact BK101.out⟩, ⟨by repeat (first | (with_reducible first | exact HB.out | apply below_alloc | apply pw_below_drewN | apply below_drew1 | refine below_set ?_ GE101.out) | exact HB.out)⟩⟩)
                case round =>
                  clear H'; (try clear c1); (try clear p1); (try clear q1); (try clear hx1); (try clear c2); (try clear c2b0); (try clear c2b1); (try clear p2); (try clear c7); (try clear c7b0); (try clear c8); (try clear c8b0); (try clear c9); (try clear c9b0); (try clear c10); (try clear c10b0); (try clear c10b1); (try clear p10); (try clear q10); (try clear hx10); (try clear hcz4_0); (try clear hcz4_1); (try clear hcz6_0); (try clear hcz6_1); (try clear hfz4_0); (try clear hfz4_1); (try clear hfz6_0); (try clear hfz6_1); (try clear hx102_0); (try clear p102); (try clear p2); (try clear q102); (obtain ⟨x23_2, rfl, HA, HK2, BK101, HB⟩ := hrel)
                  cases gk with
                  | zero => exact absurd HA.out (by simp [segment_limits.l1])
                  | succ k2 =>
                    have H := HA.out; clear HA; (simp only [segment_limits.l1] at H); (by_cases c11 : x23_2 < ((rd_L1 l0_1 x14_1).length : Int))
                    · (rw [if_pos c11] at H); (have c11b0 : decide (x23_2 < ((rd_L1 l0_1 x14_1).length : Int)) = true := decide_eq_true c11); clear c11; (by_cases c12 : 0 ≤ x23_2)
                      · (rw [if_pos c12] at H); (have c12b0 : decide (0 ≤ x23_2) = true := decide_eq_true c12); clear c12; (by_cases c13 : x23_2 < ((rd_L1 l0_1 x14_1).length : Int))
                        · (rw [if_pos c13] at H); (have c13b0 : decide (x23_2 < ((rd_L1 l0_1 x14_1).length : Int)) = true := decide_eq_true c13); clear c13; (by_cases c14 : ((rdOf ByteArray.empty (rd_L1 l0_1 x14_1) x23_2).size : Int) > 1000)
                          · (rw [if_pos c14] at H); (have c14b0 : decide (1000 < ((rdOf ByteArray.empty (rd_L1 l0_1 x14_1) x23_2).size : Int)) = true := decide_eq_true c14); (have c14b1 : decide (1000 < (rdOf ByteArray.empty (rd_L1 l0_1 x14_1) x23_2).size) = true := decide_eq_true (by omega)); clear c14; (obtain rfl := Option.some.inj H); (have p103 : 0 ≤ (x23_2 : Int) := of_decide_eq_true (by first | (with_reducible assumption) | assumption)); (have q103 : x23_2 < ((rd_L1 l0_1 x14_1).length : Int) := of_decide_eq_true (by first | (with_reducible assumption) | assumption)); (obtain ⟨ad103, e103, hx103_0⟩ := Kd.at_string HR102_0.out x23_2 p103 q103); (cases e103); (replace hx103_0 := (HB.out.cell (World.block_lt_of_cell? w _ hx103_0)).trans hx103_0); replace p103 := eq_true p103; replace q103 := eq_true q103; go_wp2; go_ret; (exact ⟨by first | rfl | (simp [errW_none, errW_some] <;> rfl) | (simp [*, errW_none, errW_some] <;> rfl), by repeat (first | (with_reducible first | exact HB.out | apply below_alloc | apply pw_below_drewN | apply below_drew1 | refine below_set ?_ GE101.out) | exact HB.out)⟩)
                          · (rw [if_neg c14] at H); (have c14b0 : decide (1000 < ((rdOf ByteArray.empty (rd_L1 l0_1 x14_1) x23_2).size : Int)) = false := decide_eq_false c14); (have c14b1 : decide (1000 < (rdOf ByteArray.empty (rd_L1 l0_1 x14_1) x23_2).size) = false := decide_eq_false (by omega)); clear c14; have H' := Aside0.mk H; clear H; (have p103 : 0 ≤ (x23_2 : Int) := of_decide_eq_true (by first | (with_reducible assumption) | assumption)); (have q103 : x23_2 < ((rd_L1 l0_1 x14_1).length : Int) := of_decide_eq_true (by first | (with_reducible assumption) | assumption)); (obtain ⟨ad103, e103, hx103_0⟩ := Kd.at_string HR102_0.out x23_2 p103 q103); (cases e103); (replace hx103_0 := (HB.out.cell (World.block_lt_of_cell? w _ hx103_0)).trans hx103_0); replace p103 := eq_true p103; replace q103 := eq_true q103; go_wp2; (go_roundg k2); (case measure => have := HK1.out; have := HK2.out; omega); (case rel => exact ⟨(wrap64 (x23_2 + 1)), (by first | rfl | (simp; done) | (simp [*]; done)), H', ⟨by have := HK1.out; have := HK2.out; omega⟩, ⟨by (with_reducible repeat (first | refine blk_drewN ?_ _ | refine blk_drew ?_ | refine blk_alloc ?_ _)); exact BK101.out⟩, ⟨by repeat (first | (with_reducible first | exact HB.out | apply below_alloc | apply pw_below_drewN | apply below_drew1 | refine below_set ?_ GE101.out) | exact HB.out)⟩⟩)
                        · (rw [if_neg c13] at H); (exact absurd H (by simp))
                      · (rw [if_neg c12] at H); (exact absurd H (by simp))
                    · (rw [if_neg c11] at H); (have c11b0 : decide (x23_2 < ((rd_L1 l0_1 x14_1).length : Int)) = false := decide_eq_false c11); clear c11; have H' := Aside0.mk H; clear H; go_wp2; (go_roundg k2); (case measure => have := HK1.out; have := HK2.out; omega); (case rel => exact ⟨(wrap64 (x14_1 + 1)), (by first | rfl | (simp; done) | (simp [*]; done)), H', ⟨by have := HK1.out; have := HK2.out; omega⟩, ⟨by (with_reducible repeat (first | refine blk_drewN ?_ _ | refine blk_drew ?_ | refine blk_alloc ?_ _)); exact BK101.out⟩, ⟨by repeat (first | (with_reducible first | exact HB.out | apply below_alloc | apply pw_below_drewN | apply below_drew1 | refine below_set ?_ GE101.out) | exact HB.out)⟩⟩)
            · (rw [if_neg c9] at H); (exact absurd H (by simp))
          · (rw [if_neg c8] at H); (exact absurd H (by simp))
        · (rw [if_neg c7] at H); (have c7b0 : decide (x14_1 < (l0_1.length : Int)) = false := decide_eq_false c7); clear c7; (obtain rfl := Option.some.inj H); go_wp2; go_ret; (exact ⟨by first | rfl | (simp [errW_none, errW_some] <;> rfl) | (simp [*, errW_none, errW_some] <;> rfl), by repeat (first | (with_reducible first | exact HB.out | apply below_alloc | apply pw_below_drewN | apply below_drew1 | refine below_set ?_ GE101.out) | exact HB.out)⟩)
end Go.Proofs.Ythdahpnjiighfaa.F
