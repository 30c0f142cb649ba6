-- printed by this session's own copy of a printing program, out of the translation
import Derived.Test.YtheknmeeioajfaaDoorF0
import Derived.Test.YtheknmeeioajfaaDoorF4
namespace Go.Proofs.YtheknmeeioajfaaDoor.F
open Go.RowKit Go.Proofs.YtheknmeeioajfaaDoorW.PrintWords Go.Proofs.YtheknmeeioajfaaDoorW.PrintLast Go.Proofs.YtheknmeeioajfaaDoorW.PrintMore
attribute [local go_sem] max2_int min2_int max_two min_two max_three min_three max_four min_four   -- for this text's walks alone
set_option linter.unusedVariables false
set_option linter.unusedSimpArgs false

/-! ### customsref01_DivMod: function 38 -/
def customsref01_DivMod.l0 : Nat → Int → Int → Int → Int → Int → Int → Int → Option (Int × Int × Int)
  | 0, _, _, _, _, _, _, _ => none
  | k + 1, x1, x7, x8, x125000, x125001, x127000, x127001 => if x8 ≥ 0 then (if 0 ≤ (Go.bits .and .i64 x8 63) then (if x8 > 63 then (if 0 ≤ (wrap64 (x8 - 64)) then ((customsref01_Add.f x127000 x127001 x127000 x127001).bind fun bt127 => (if (x7 / 9223372036854775808) = 1 then (customsref01_DivMod.l0 k x1 (IntKind.u64.wrap ((Go.bits .or .u64 (IntKind.u64.wrap (x7 * 2)) (Go.bits .and .u64 (shr .u64 x125000 (wrap64 (x8 - 64))) 1)) - x1)) (wrap64 (x8 - 1)) x125000 x125001 bt127.1 (Go.bits .or .u64 bt127.2.1 1)) else (if (Go.bits .or .u64 (IntKind.u64.wrap (x7 * 2)) (Go.bits .and .u64 (shr .u64 x125000 (wrap64 (x8 - 64))) 1)) ≥ x1 then (customsref01_DivMod.l0 k x1 (IntKind.u64.wrap ((Go.bits .or .u64 (IntKind.u64.wrap (x7 * 2)) (Go.bits .and .u64 (shr .u64 x125000 (wrap64 (x8 - 64))) 1)) - x1)) (wrap64 (x8 - 1)) x125000 x125001 bt127.1 (Go.bits .or .u64 bt127.2.1 1)) else (customsref01_DivMod.l0 k x1 (Go.bits .or .u64 (IntKind.u64.wrap (x7 * 2)) (Go.bits .and .u64 (shr .u64 x125000 (wrap64 (x8 - 64))) 1)) (wrap64 (x8 - 1)) x125000 x125001 bt127.1 bt127.2.1)))) else (none)) else ((customsref01_Add.f x127000 x127001 x127000 x127001).bind fun bt130 => (if (x7 / 9223372036854775808) = 1 then (customsref01_DivMod.l0 k x1 (IntKind.u64.wrap ((Go.bits .or .u64 (IntKind.u64.wrap (x7 * 2)) (Go.bits .and .u64 (shr .u64 x125001 (Go.bits .and .i64 x8 63)) 1)) - x1)) (wrap64 (x8 - 1)) x125000 x125001 bt130.1 (Go.bits .or .u64 bt130.2.1 1)) else (if (Go.bits .or .u64 (IntKind.u64.wrap (x7 * 2)) (Go.bits .and .u64 (shr .u64 x125001 (Go.bits .and .i64 x8 63)) 1)) ≥ x1 then (customsref01_DivMod.l0 k x1 (IntKind.u64.wrap ((Go.bits .or .u64 (IntKind.u64.wrap (x7 * 2)) (Go.bits .and .u64 (shr .u64 x125001 (Go.bits .and .i64 x8 63)) 1)) - x1)) (wrap64 (x8 - 1)) x125000 x125001 bt130.1 (Go.bits .or .u64 bt130.2.1 1)) else (customsref01_DivMod.l0 k x1 (Go.bits .or .u64 (IntKind.u64.wrap (x7 * 2)) (Go.bits .and .u64 (shr .u64 x125001 (Go.bits .and .i64 x8 63)) 1)) (wrap64 (x8 - 1)) x125000 x125001 bt130.1 bt130.2.1))))) else (none)) else (some (x127000, x127001, x7))
def customsref01_DivMod.f (k : Nat) (a0_0 : Int) (a0_1 : Int) (a1 : Int) : Option (Int × Int × Int) := customsref01_DivMod.l0 k a1 0 127 a0_0 a0_1 0 0
theorem customsref01_DivMod.mono_l : ∀ k, (∀ y0 y1 y2 y3 y4 y5 y6, LeO (customsref01_DivMod.l0 k y0 y1 y2 y3 y4 y5 y6) (customsref01_DivMod.l0 (k + 1) y0 y1 y2 y3 y4 y5 y6))
  | 0 => fun _ _ _ _ _ _ _ r h => by simp [customsref01_DivMod.l0] at h
  | k + 1 => by
    have ih0 := customsref01_DivMod.mono_l k
    · intro y0 y1 y2 y3 y4 y5 y6
      unfold customsref01_DivMod.l0
      repeat' first
      | (with_reducible exact ih0 _ _ _ _ _ _ _)
      | (with_reducible exact LeO.refl _)
      | (with_reducible exact LeO.none _)
      | (with_reducible refine LeO.ite ?_ ?_)
      | (with_reducible refine LeO.bind ?_ (fun _ => ?_))
      | exact ih0 _ _ _ _ _ _ _
      | exact LeO.none _
      | refine LeO.ite ?_ ?_
      | refine LeO.bind ?_ (fun _ => ?_)
theorem customsref01_DivMod.mono : ∀ a0 a1 a2 k, LeO (customsref01_DivMod.f k a0 a1 a2) (customsref01_DivMod.f (k + 1) a0 a1 a2) := by
  intro a0 a1 a2 k
  have ih0 := customsref01_DivMod.mono_l k
  unfold customsref01_DivMod.f
  repeat' first
      | (with_reducible exact ih0 _ _ _ _ _ _ _)
      | (with_reducible exact LeO.refl _)
      | (with_reducible exact LeO.none _)
      | (with_reducible refine LeO.ite ?_ ?_)
      | (with_reducible refine LeO.bind ?_ (fun _ => ?_))
      | exact ih0 _ _ _ _ _ _ _
      | exact LeO.none _
      | refine LeO.ite ?_ ?_
      | refine LeO.bind ?_ (fun _ => ?_)
set_option maxHeartbeats 8000000 in
set_option maxRecDepth 100000 in
theorem customsref01_DivMod.calls (k : Nat) (a0_0 : Int) (a0_1 : Int) (a1 : Int) (r1 : Int) (r2 : Int) (r3 : Int) (w : World) (h : customsref01_DivMod.f k a0_0 a0_1 a1 = some (r1, r2, r3)) :
    Calls Tryd.prog 38 #[.agg #[.int .u64 a0_0, .int .u64 a0_1], .int .u64 a1] w fun e w' => e = .returned (.tuple #[.agg #[.int .u64 r1, .int .u64 r2], .int .u64 r3]) ∧ Below w.heap.size w w' := by
  have hu58 := Tryd.underlying58
  have HB := Aside0.mk (Below.refl w.heap.size w)
  have H : (customsref01_DivMod.l0 k a1 0 127 a0_0 a0_1 0 0) = some (r1, r2, r3) := h
  clear h
  have H' := Aside0.mk H
  clear H
  go_enter Tryd.func38, Tryd.ntmps38
  go_wp2_with (first | ((with_reducible refine gate_dst (N := 2) rfl ?_); refine box_event ?hg (N := 2) ?hd (cs := #[.int .u64 a0_0, .int .u64 a0_1]) (t := 58) ?hr ?_; (case hd => rfl); (case hg => rfl); (case hr => first | (go_simp; done) | (go_simp; rfl)); intro gb124 hg w3 hbox hb; have n0_ := Aside0.mk (below_step (by repeat (first | (with_reducible first | exact HB.out | apply below_alloc | apply pw_below_drewN | apply below_drew1) | exact HB.out)) hb); have n1_ := Aside0.mk (hbox); have n2_ := Aside0.mk ((by rw [hg]; exact (below_size (by repeat (first | (with_reducible first | exact HB.out | apply below_alloc | apply pw_below_drewN | apply below_drew1) | exact HB.out))) : w.heap.size ≤ gb124)); have n3_ := Aside0.mk ((by rw [hg]; exact (below_size (by repeat (first | (with_reducible first | exact HB.out | apply below_alloc | apply pw_below_drewN | apply below_drew1) | exact HB.out))) : w.heap.size ≤ gb124)); clear HB; have HB := n0_; have BK124 := n1_; have GW124 := n2_; have GE124 := n3_; clear n0_ n1_ n2_ n3_; clear hb hbox hg) | ((with_reducible refine gate_dst (N := 4) rfl ?_); refine box_event ?hg (N := 4) ?hd (cs := #[.int .u64 0, .int .u64 0]) (t := 58) ?hr ?_; (case hd => rfl); (case hg => rfl); (case hr => first | (go_simp; done) | (go_simp; rfl)); intro gb125 hg w4 hbox hb; have n0_ := Aside0.mk (blk_below (g := gb124) (o := .cells #[.int .u64 a0_0, .int .u64 a0_1] 58 (0, 0)) (by (with_reducible repeat (first | refine blk_drewN ?_ _ | refine blk_drew ?_ | refine blk_alloc ?_ _)); exact BK124.out) hb); have n1_ := Aside0.mk (below_step (by repeat (first | (with_reducible first | exact HB.out | apply below_alloc | apply pw_below_drewN | apply below_drew1 | refine below_set ?_ GE124.out) | exact HB.out)) hb); have n2_ := Aside0.mk (hbox); have n3_ := Aside0.mk ((by rw [hg]; exact (below_size (by repeat (first | (with_reducible first | exact HB.out | apply below_alloc | apply pw_below_drewN | apply below_drew1 | refine below_set ?_ GE124.out) | exact HB.out))) : w.heap.size ≤ gb125)); have n4_ := Aside0.mk ((by rw [hg]; exact (below_size (by repeat (first | (with_reducible first | exact HB.out | apply below_alloc | apply pw_below_drewN | apply below_drew1 | refine below_set ?_ GE124.out) | exact HB.out))) : w.heap.size ≤ gb125)); have n5_ := Aside0.mk ((by rw [hg]; exact Nat.ne_of_lt (blk_lt (g := gb124) (o := .cells #[.int .u64 a0_0, .int .u64 a0_1] 58 (0, 0)) (by (with_reducible repeat (first | refine blk_drewN ?_ _ | refine blk_drew ?_ | refine blk_alloc ?_ _)); exact BK124.out)) : gb124 ≠ gb125)); have n6_ := Aside0.mk ((by rw [hg]; exact Nat.ne_of_gt (blk_lt (g := gb124) (o := .cells #[.int .u64 a0_0, .int .u64 a0_1] 58 (0, 0)) (by (with_reducible repeat (first | refine blk_drewN ?_ _ | refine blk_drew ?_ | refine blk_alloc ?_ _)); exact BK124.out)) : gb125 ≠ gb124)); clear BK124; clear HB; have BK124 := n0_; have HB := n1_; have BK125 := n2_; have GW125 := n3_; have GE125 := n4_; have NB124_125 := n5_; have NB125_124 := n6_; clear n0_ n1_ n2_ n3_ n4_ n5_ n6_; clear hb hbox hg) | ((with_reducible refine gate_dst (N := 6) rfl ?_); refine box_event ?hg (N := 6) ?hd (cs := #[.int .u64 0, .int .u64 0]) (t := 58) ?hr ?_; (case hd => rfl); (case hg => rfl); (case hr => first | (go_simp; done) | (go_simp; rfl)); intro gb126 hg w5 hbox hb; have n0_ := Aside0.mk (blk_below (g := gb124) (o := .cells #[.int .u64 a0_0, .int .u64 a0_1] 58 (0, 0)) (by (with_reducible repeat (first | refine blk_drewN ?_ _ | refine blk_drew ?_ | refine blk_alloc ?_ _)); exact BK124.out) hb); have n1_ := Aside0.mk (blk_below (g := gb125) (o := .cells #[.int .u64 0, .int .u64 0] 58 (0, 0)) (by (with_reducible repeat (first | refine blk_drewN ?_ _ | refine blk_drew ?_ | refine blk_alloc ?_ _)); exact BK125.out) hb); have n2_ := Aside0.mk (below_step (by repeat (first | (with_reducible first | exact HB.out | apply below_alloc | apply pw_below_drewN | apply below_drew1 | refine below_set ?_ GE124.out | refine below_set ?_ GE125.out) | exact HB.out)) hb); have n3_ := Aside0.mk (hbox); have n4_ := Aside0.mk ((by rw [hg]; exact (below_size (by repeat (first | (with_reducible first | exact HB.out | apply below_alloc | apply pw_below_drewN | apply below_drew1 | refine below_set ?_ GE124.out | refine below_set ?_ GE125.out) | exact HB.out))) : w.heap.size ≤ gb126)); have n5_ := Aside0.mk ((by rw [hg]; exact (below_size (by repeat (first | (with_reducible first | exact HB.out | apply below_alloc | apply pw_below_drewN | apply below_drew1 | refine below_set ?_ GE124.out | refine below_set ?_ GE125.out) | exact HB.out))) : w.heap.size ≤ gb126)); have n6_ := Aside0.mk ((by rw [hg]; exact Nat.ne_of_lt (blk_lt (g := gb124) (o := .cells #[.int .u64 a0_0, .int .u64 a0_1] 58 (0, 0)) (by (with_reducible repeat (first | refine blk_drewN ?_ _ | refine blk_drew ?_ | refine blk_alloc ?_ _)); exact BK124.out)) : gb124 ≠ gb126)); have n7_ := Aside0.mk ((by rw [hg]; exact Nat.ne_of_gt (blk_lt (g := gb124) (o := .cells #[.int .u64 a0_0, .int .u64 a0_1] 58 (0, 0)) (by (with_reducible repeat (first | refine blk_drewN ?_ _ | refine blk_drew ?_ | refine blk_alloc ?_ _)); exact BK124.out)) : gb126 ≠ gb124)); have n8_ := Aside0.mk ((by rw [hg]; exact Nat.ne_of_lt (blk_lt (g := gb125) (o := .cells #[.int .u64 0, .int .u64 0] 58 (0, 0)) (by (with_reducible repeat (first | refine blk_drewN ?_ _ | refine blk_drew ?_ | refine blk_alloc ?_ _)); exact BK125.out)) : gb125 ≠ gb126)); have n9_ := Aside0.mk ((by rw [hg]; exact Nat.ne_of_gt (blk_lt (g := gb125) (o := .cells #[.int .u64 0, .int .u64 0] 58 (0, 0)) (by (with_reducible repeat (first | refine blk_drewN ?_ _ | refine blk_drew ?_ | refine blk_alloc ?_ _)); exact BK125.out)) : gb126 ≠ gb125)); clear BK124; clear BK125; clear HB; have BK124 := n0_; have BK125 := n1_; have HB := n2_; have BK126 := n3_; have GW126 := n4_; have GE126 := n5_; have NB124_126 := n6_; have NB126_124 := n7_; have NB125_126 := n8_; have NB126_125 := n9_; clear n0_ n1_ n2_ n3_ n4_ n5_ n6_ n7_ n8_ n9_; clear hb hbox hg; have hnb6 := NB126_124.out; have hnc6 := NB124_126.out; have hnb7 := NB126_125.out; have hnc7 := NB125_126.out; have hcz8_0 : w5.cell? ⟨gb126, 0, none⟩ = some (.int .u64 0) := (blk_cell BK126.out 0).trans rfl; have hcz8_1 : w5.cell? ⟨gb126, 1, none⟩ = some (.int .u64 0) := (blk_cell BK126.out 1).trans rfl; have hfz8_0 := blk_frozen BK126.out 0; have hfz8_1 := blk_frozen BK126.out 1))
  go_loopg [7, 8] k (fun kq v7 v8 w' => ∃ (x7_1 : Int) (x8_1 : Int) (x127000_1 : Int) (x127001_1 : Int), v7 = .int .u64 x7_1 ∧ v8 = .int .i64 x8_1 ∧ Aside0 (customsref01_DivMod.l0 kq a1 x7_1 x8_1 a0_0 a0_1 x127000_1 x127001_1 = some (r1, r2, r3)) ∧ Aside0 (kq ≤ k) ∧ Aside0 (w'.heap[gb124]? = some (.cells #[.int .u64 a0_0, .int .u64 a0_1] 58 (0, 0))) ∧ Aside0 (w'.heap[gb125]? = some (.cells #[.int .u64 0, .int .u64 0] 58 (0, 0))) ∧ Aside0 (w'.heap[gb126]? = some (.cells #[.int .u64 x127000_1, .int .u64 x127001_1] 58 (0, 0))) ∧ Aside0 (Below w.heap.size w w'))
  case atStart => exact ⟨(0), (127), (0), (0), (by first | rfl | (simp; done) | (simp [*]; done)), (by first | rfl | (simp; done) | (simp [*]; done)), H', ⟨Nat.le_refl _⟩, ⟨by (with_reducible repeat (first | refine blk_drewN ?_ _ | refine blk_drew ?_ | refine blk_alloc ?_ _)); refine blk_far ?_ NB124_126.out _; (with_reducible repeat (first | refine blk_drewN ?_ _ | refine blk_drew ?_ | refine blk_alloc ?_ _)); refine blk_far ?_ NB124_126.out _; (with_reducible repeat (first | refine blk_drewN ?_ _ | refine blk_drew ?_ | refine blk_alloc ?_ _)); exact BK124.out⟩, ⟨by (with_reducible repeat (first | refine blk_drewN ?_ _ | refine blk_drew ?_ | refine blk_alloc ?_ _)); refine blk_far ?_ NB125_126.out _; (with_reducible repeat (first | refine blk_drewN ?_ _ | refine blk_drew ?_ | refine blk_alloc ?_ _)); refine blk_far ?_ NB125_126.out _; (with_reducible repeat (first | refine blk_drewN ?_ _ | refine blk_drew ?_ | refine blk_alloc ?_ _)); exact BK125.out⟩, ⟨by (with_reducible repeat (first | refine blk_drewN ?_ _ | refine blk_drew ?_ | refine blk_alloc ?_ _)); refine blk_put (cs := #[.int .u64 0, .int .u64 0]) ?_ 1 _ rfl; (with_reducible repeat (first | refine blk_drewN ?_ _ | refine blk_drew ?_ | refine blk_alloc ?_ _)); refine blk_put (cs := #[.int .u64 0, .int .u64 0]) ?_ 0 _ rfl; (with_reducible repeat (first | refine blk_drewN ?_ _ | refine blk_drew ?_ | refine blk_alloc ?_ _)); exact BK126.out⟩, ⟨by repeat (first | (with_reducible first | exact HB.out | apply below_alloc | apply pw_below_drewN | apply below_drew1 | refine below_set ?_ GE124.out | refine below_set ?_ GE125.out | refine below_set ?_ GE126.out) | exact HB.out)⟩⟩
  case round =>
    clear H'
    try clear p2
    try clear c3
    try clear c6
    try clear c7
    try clear hcz8_0
    try clear hcz8_1
    try clear hfz8_0
    try clear hfz8_1
    obtain ⟨x7_1, x8_1, x127000_1, x127001_1, rfl, rfl, HA, HK1, BK124, BK125, BK126, HB⟩ := hrel
    cases gk with
    | zero => exact absurd HA.out (by simp [customsref01_DivMod.l0])
    | succ k1 =>
      have H := HA.out
      clear HA
      simp only [customsref01_DivMod.l0] at H
      by_cases c9 : x8_1 ≥ 0
      · rw [if_pos c9] at H
        have c9b0 : decide (0 ≤ x8_1) = true := decide_eq_true c9
        clear c9
        by_cases c10 : 0 ≤ (Go.bits .and .i64 x8_1 63)
        · rw [if_pos c10] at H
          have c10b0 := eq_true c10
          have c10b1 : decide (0 ≤ (Go.bits .and .i64 x8_1 63)) = true := decide_eq_true c10
          clear c10
          obtain ⟨ji11, hji11⟩ : ∃ j_ : Int, (shr .u64 a0_1 (Go.bits .and .i64 x8_1 63)) = j_ := ⟨_, rfl⟩
          replace H : (if x8_1 > 63 then (if 0 ≤ (wrap64 (x8_1 - 64)) then ((customsref01_Add.f x127000_1 x127001_1 x127000_1 x127001_1).bind fun bt127 => (if (x7_1 / 9223372036854775808) = 1 then (customsref01_DivMod.l0 k1 a1 (IntKind.u64.wrap ((Go.bits .or .u64 (IntKind.u64.wrap (x7_1 * 2)) (Go.bits .and .u64 (shr .u64 a0_0 (wrap64 (x8_1 - 64))) 1)) - a1)) (wrap64 (x8_1 - 1)) a0_0 a0_1 bt127.1 (Go.bits .or .u64 bt127.2.1 1)) else (if (Go.bits .or .u64 (IntKind.u64.wrap (x7_1 * 2)) (Go.bits .and .u64 (shr .u64 a0_0 (wrap64 (x8_1 - 64))) 1)) ≥ a1 then (customsref01_DivMod.l0 k1 a1 (IntKind.u64.wrap ((Go.bits .or .u64 (IntKind.u64.wrap (x7_1 * 2)) (Go.bits .and .u64 (shr .u64 a0_0 (wrap64 (x8_1 - 64))) 1)) - a1)) (wrap64 (x8_1 - 1)) a0_0 a0_1 bt127.1 (Go.bits .or .u64 bt127.2.1 1)) else (customsref01_DivMod.l0 k1 a1 (Go.bits .or .u64 (IntKind.u64.wrap (x7_1 * 2)) (Go.bits .and .u64 (shr .u64 a0_0 (wrap64 (x8_1 - 64))) 1)) (wrap64 (x8_1 - 1)) a0_0 a0_1 bt127.1 bt127.2.1)))) else (none)) else ((customsref01_Add.f x127000_1 x127001_1 x127000_1 x127001_1).bind fun bt130 => (if (x7_1 / 9223372036854775808) = 1 then (customsref01_DivMod.l0 k1 a1 (IntKind.u64.wrap ((Go.bits .or .u64 (IntKind.u64.wrap (x7_1 * 2)) (Go.bits .and .u64 (ji11) 1)) - a1)) (wrap64 (x8_1 - 1)) a0_0 a0_1 bt130.1 (Go.bits .or .u64 bt130.2.1 1)) else (if (Go.bits .or .u64 (IntKind.u64.wrap (x7_1 * 2)) (Go.bits .and .u64 (ji11) 1)) ≥ a1 then (customsref01_DivMod.l0 k1 a1 (IntKind.u64.wrap ((Go.bits .or .u64 (IntKind.u64.wrap (x7_1 * 2)) (Go.bits .and .u64 (ji11) 1)) - a1)) (wrap64 (x8_1 - 1)) a0_0 a0_1 bt130.1 (Go.bits .or .u64 bt130.2.1 1)) else (customsref01_DivMod.l0 k1 a1 (Go.bits .or .u64 (IntKind.u64.wrap (x7_1 * 2)) (Go.bits .and .u64 (ji11) 1)) (wrap64 (x8_1 - 1)) a0_0 a0_1 bt130.1 bt130.2.1))))) = some (r1, r2, r3) := by first | (rw [hji11] at H; exact H) | (simp only [hji11] at H ⊢; exact H)
          have hji11_ : (a0_1 / 2 ^ min (Go.bits .and .i64 x8_1 63).toNat 64) = ji11 := hji11
          have hji11z : (Go.bits .and .i64 x8_1 63) ≤ 64 → (a0_1 / 2 ^ (Go.bits .and .i64 x8_1 63).toNat) = ji11 := shr_small hji11
          by_cases c12 : x8_1 > 63
          · rw [if_pos c12] at H
            have c12b0 : decide (63 < x8_1) = true := decide_eq_true c12
            clear c12
            obtain ⟨ji13, hji13⟩ : ∃ j_ : Int, (wrap64 (x8_1 - 64)) = j_ := ⟨_, rfl⟩
            replace H : (if 0 ≤ (ji13) then ((customsref01_Add.f x127000_1 x127001_1 x127000_1 x127001_1).bind fun bt127 => (if (x7_1 / 9223372036854775808) = 1 then (customsref01_DivMod.l0 k1 a1 (IntKind.u64.wrap ((Go.bits .or .u64 (IntKind.u64.wrap (x7_1 * 2)) (Go.bits .and .u64 (shr .u64 a0_0 (ji13)) 1)) - a1)) (wrap64 (x8_1 - 1)) a0_0 a0_1 bt127.1 (Go.bits .or .u64 bt127.2.1 1)) else (if (Go.bits .or .u64 (IntKind.u64.wrap (x7_1 * 2)) (Go.bits .and .u64 (shr .u64 a0_0 (ji13)) 1)) ≥ a1 then (customsref01_DivMod.l0 k1 a1 (IntKind.u64.wrap ((Go.bits .or .u64 (IntKind.u64.wrap (x7_1 * 2)) (Go.bits .and .u64 (shr .u64 a0_0 (ji13)) 1)) - a1)) (wrap64 (x8_1 - 1)) a0_0 a0_1 bt127.1 (Go.bits .or .u64 bt127.2.1 1)) else (customsref01_DivMod.l0 k1 a1 (Go.bits .or .u64 (IntKind.u64.wrap (x7_1 * 2)) (Go.bits .and .u64 (shr .u64 a0_0 (ji13)) 1)) (wrap64 (x8_1 - 1)) a0_0 a0_1 bt127.1 bt127.2.1)))) else (none)) = some (r1, r2, r3) := by first | (rw [hji13] at H; exact H) | (simp only [hji13] at H ⊢; exact H)
            have hji13w : (IntKind.i64.wrap (x8_1 - 64)) = ji13 := (i64_w _).trans hji13
            by_cases c14 : 0 ≤ (ji13)
            · rw [if_pos c14] at H
              have c14b0 := eq_true c14
              have c14b1 : decide (0 ≤ (ji13)) = true := decide_eq_true c14
              clear c14
              obtain ⟨ji15, hji15⟩ : ∃ j_ : Int, (shr .u64 a0_0 (ji13)) = j_ := ⟨_, rfl⟩
              replace H : ((customsref01_Add.f x127000_1 x127001_1 x127000_1 x127001_1).bind fun bt127 => (if (x7_1 / 9223372036854775808) = 1 then (customsref01_DivMod.l0 k1 a1 (IntKind.u64.wrap ((Go.bits .or .u64 (IntKind.u64.wrap (x7_1 * 2)) (Go.bits .and .u64 (ji15) 1)) - a1)) (wrap64 (x8_1 - 1)) a0_0 a0_1 bt127.1 (Go.bits .or .u64 bt127.2.1 1)) else (if (Go.bits .or .u64 (IntKind.u64.wrap (x7_1 * 2)) (Go.bits .and .u64 (ji15) 1)) ≥ a1 then (customsref01_DivMod.l0 k1 a1 (IntKind.u64.wrap ((Go.bits .or .u64 (IntKind.u64.wrap (x7_1 * 2)) (Go.bits .and .u64 (ji15) 1)) - a1)) (wrap64 (x8_1 - 1)) a0_0 a0_1 bt127.1 (Go.bits .or .u64 bt127.2.1 1)) else (customsref01_DivMod.l0 k1 a1 (Go.bits .or .u64 (IntKind.u64.wrap (x7_1 * 2)) (Go.bits .and .u64 (ji15) 1)) (wrap64 (x8_1 - 1)) a0_0 a0_1 bt127.1 bt127.2.1)))) = some (r1, r2, r3) := by first | (rw [hji15] at H; exact H) | (simp only [hji15] at H ⊢; exact H)
              have hji15_ : (a0_0 / 2 ^ min (ji13).toNat 64) = ji15 := hji15
              have hji15z : (ji13) ≤ 64 → (a0_0 / 2 ^ (ji13).toNat) = ji15 := shr_small hji15
              replace H := Option.bind_eq_some_iff.mp H
              obtain ⟨⟨t127, t128, t129⟩, A160, H⟩ := H
              replace H : (if (x7_1 / 9223372036854775808) = 1 then (customsref01_DivMod.l0 k1 a1 (IntKind.u64.wrap ((Go.bits .or .u64 (IntKind.u64.wrap (x7_1 * 2)) (Go.bits .and .u64 (ji15) 1)) - a1)) (wrap64 (x8_1 - 1)) a0_0 a0_1 t127 (Go.bits .or .u64 t128 1)) else (if (Go.bits .or .u64 (IntKind.u64.wrap (x7_1 * 2)) (Go.bits .and .u64 (ji15) 1)) ≥ a1 then (customsref01_DivMod.l0 k1 a1 (IntKind.u64.wrap ((Go.bits .or .u64 (IntKind.u64.wrap (x7_1 * 2)) (Go.bits .and .u64 (ji15) 1)) - a1)) (wrap64 (x8_1 - 1)) a0_0 a0_1 t127 (Go.bits .or .u64 t128 1)) else (customsref01_DivMod.l0 k1 a1 (Go.bits .or .u64 (IntKind.u64.wrap (x7_1 * 2)) (Go.bits .and .u64 (ji15) 1)) (wrap64 (x8_1 - 1)) a0_0 a0_1 t127 t128))) = some (r1, r2, r3) := H
              have A16 := Aside0.mk A160
              clear A160
              by_cases c17 : (x7_1 / 9223372036854775808) = 1
              · rw [if_pos c17] at H
                have c17b0 : ((x7_1 / 9223372036854775808) == 1) = true := beq_iff_eq.mpr c17
                have c17b1 : ((x7_1 / 9223372036854775808) != 1) = false := bne_eq_false_iff_eq.mpr c17
                clear c17
                have H' := Aside0.mk H
                clear H
                have hnb18 := NB124_125.out
                have hnc18 := NB125_124.out
                have hnb19 := NB124_126.out
                have hnc19 := NB126_124.out
                have hcz20_0 : wr.cell? ⟨gb124, 0, none⟩ = some (.int .u64 a0_0) := (blk_cell BK124.out 0).trans rfl
                have hcz20_1 : wr.cell? ⟨gb124, 1, none⟩ = some (.int .u64 a0_1) := (blk_cell BK124.out 1).trans rfl
                have hfz20_0 := blk_frozen BK124.out 0
                have hfz20_1 := blk_frozen BK124.out 1
                have hnb21 := NB126_125.out
                have hnc21 := NB125_126.out
                have hcz22_0 : wr.cell? ⟨gb126, 0, none⟩ = some (.int .u64 x127000_1) := (blk_cell BK126.out 0).trans rfl
                have hcz22_1 : wr.cell? ⟨gb126, 1, none⟩ = some (.int .u64 x127001_1) := (blk_cell BK126.out 1).trans rfl
                have hfz22_0 := blk_frozen BK126.out 0
                have hfz22_1 := blk_frozen BK126.out 1
                go_wp2_with (first | ((with_reducible refine gate_callee (f := 39) rfl ?_); refine goesL_ (some 39) rfl rfl Tryd.func39 (by kernel_rfl) rfl #[.agg #[.int .u64 x127000_1, .int .u64 x127001_1], .agg #[.int .u64 x127000_1, .int .u64 x127001_1]] rfl (by (try simp only [List.map_toArray, List.map_cons, List.map_nil]); first | done | rfl | (simp only [List.length_drop, List.length_take]; rfl)) ?_; (with_reducible refine (customsref01_Add.calls x127000_1 x127001_1 x127000_1 x127001_1 t127 t128 t129 _ A16.out).mono ?_); rintro e w23 ⟨rfl, hb⟩; refine ⟨_, rfl, ?_⟩; have n0_ := Aside0.mk (blk_below (g := gb124) (o := .cells #[.int .u64 a0_0, .int .u64 a0_1] 58 (0, 0)) (by (with_reducible repeat (first | refine blk_drewN ?_ _ | refine blk_drew ?_ | refine blk_alloc ?_ _)); exact BK124.out) hb); have n1_ := Aside0.mk (blk_below (g := gb125) (o := .cells #[.int .u64 0, .int .u64 0] 58 (0, 0)) (by (with_reducible repeat (first | refine blk_drewN ?_ _ | refine blk_drew ?_ | refine blk_alloc ?_ _)); exact BK125.out) hb); have n2_ := Aside0.mk (blk_below (g := gb126) (o := .cells #[.int .u64 x127000_1, .int .u64 x127001_1] 58 (0, 0)) (by (with_reducible repeat (first | refine blk_drewN ?_ _ | refine blk_drew ?_ | refine blk_alloc ?_ _)); exact BK126.out) hb); have n3_ := Aside0.mk (below_step (by repeat (first | (with_reducible first | exact HB.out | apply below_alloc | apply pw_below_drewN | apply below_drew1 | refine below_set ?_ GE124.out | refine below_set ?_ GE125.out | refine below_set ?_ GE126.out) | exact HB.out)) hb); clear BK124; clear BK125; clear BK126; clear HB; have BK124 := n0_; have BK125 := n1_; have BK126 := n2_; have HB := n3_; clear n0_ n1_ n2_ n3_; (try clear hb); (try clear hb2); (try clear hk); (try clear hi); have hcz24_0 : w23.cell? ⟨gb126, 0, none⟩ = some (.int .u64 x127000_1) := (blk_cell BK126.out 0).trans rfl; have hcz24_1 : w23.cell? ⟨gb126, 1, none⟩ = some (.int .u64 x127001_1) := (blk_cell BK126.out 1).trans rfl; have hfz24_0 := blk_frozen BK126.out 0; have hfz24_1 := blk_frozen BK126.out 1))
                go_roundg k1
                case measure => have := HK1.out; omega
                case rel => exact ⟨(IntKind.u64.wrap ((Go.bits .or .u64 (IntKind.u64.wrap (x7_1 * 2)) (Go.bits .and .u64 (ji15) 1)) - a1)), (wrap64 (x8_1 - 1)), (t127), (Go.bits .or .u64 t128 1), (by first | rfl | (simp; done) | (simp only [← hji15] <;> (first | rfl | simp)) | (simp [*]; done)), (by first | rfl | (simp; done) | (simp [*]; done)), H', ⟨by have := HK1.out; omega⟩, ⟨by (with_reducible repeat (first | refine blk_drewN ?_ _ | refine blk_drew ?_ | refine blk_alloc ?_ _)); refine blk_far ?_ NB124_126.out _; (with_reducible repeat (first | refine blk_drewN ?_ _ | refine blk_drew ?_ | refine blk_alloc ?_ _)); refine blk_far ?_ NB124_126.out _; (with_reducible repeat (first | refine blk_drewN ?_ _ | refine blk_drew ?_ | refine blk_alloc ?_ _)); refine blk_far ?_ NB124_126.out _; (with_reducible repeat (first | refine blk_drewN ?_ _ | refine blk_drew ?_ | refine blk_alloc ?_ _)); exact BK124.out⟩, ⟨by (with_reducible repeat (first | refine blk_drewN ?_ _ | refine blk_drew ?_ | refine blk_alloc ?_ _)); refine blk_far ?_ NB125_126.out _; (with_reducible repeat (first | refine blk_drewN ?_ _ | refine blk_drew ?_ | refine blk_alloc ?_ _)); refine blk_far ?_ NB125_126.out _; (with_reducible repeat (first | refine blk_drewN ?_ _ | refine blk_drew ?_ | refine blk_alloc ?_ _)); refine blk_far ?_ NB125_126.out _; (with_reducible repeat (first | refine blk_drewN ?_ _ | refine blk_drew ?_ | refine blk_alloc ?_ _)); exact BK125.out⟩, ⟨by (with_reducible repeat (first | refine blk_drewN ?_ _ | refine blk_drew ?_ | refine blk_alloc ?_ _)); refine blk_put (cs := #[.int .u64 t127, .int .u64 t128]) ?_ 1 _ rfl; (with_reducible repeat (first | refine blk_drewN ?_ _ | refine blk_drew ?_ | refine blk_alloc ?_ _)); refine blk_put (cs := #[.int .u64 t127, .int .u64 x127001_1]) ?_ 1 _ rfl; (with_reducible repeat (first | refine blk_drewN ?_ _ | refine blk_drew ?_ | refine blk_alloc ?_ _)); refine blk_put (cs := #[.int .u64 x127000_1, .int .u64 x127001_1]) ?_ 0 _ rfl; (with_reducible repeat (first | refine blk_drewN ?_ _ | refine blk_drew ?_ | refine blk_alloc ?_ _)); exact BK126.out⟩, ⟨by repeat (first | (with_reducible first | exact HB.out | apply below_alloc | apply pw_below_drewN | apply below_drew1 | refine below_set ?_ GE124.out | refine below_set ?_ GE125.out | refine below_set ?_ GE126.out) | exact HB.out)⟩⟩
              · rw [if_neg c17] at H
                have c17b0 : ((x7_1 / 9223372036854775808) == 1) = false := beq_eq_false_iff_ne.mpr c17
                have c17b1 : ((x7_1 / 9223372036854775808) != 1) = true := bne_iff_ne.mpr c17
                by_cases c25 : (Go.bits .or .u64 (IntKind.u64.wrap (x7_1 * 2)) (Go.bits .and .u64 (ji15) 1)) ≥ a1
                · rw [if_pos c25] at H
                  have c25b0 : decide (a1 ≤ (Go.bits .or .u64 (IntKind.u64.wrap (x7_1 * 2)) (Go.bits .and .u64 (ji15) 1))) = true := decide_eq_true c25
                  clear c25
                  have H' := Aside0.mk H
                  clear H
                  have hnb26 := NB124_125.out
                  have hnc26 := NB125_124.out
                  have hnb27 := NB124_126.out
                  have hnc27 := NB126_124.out
                  have hcz28_0 : wr.cell? ⟨gb124, 0, none⟩ = some (.int .u64 a0_0) := (blk_cell BK124.out 0).trans rfl
                  have hcz28_1 : wr.cell? ⟨gb124, 1, none⟩ = some (.int .u64 a0_1) := (blk_cell BK124.out 1).trans rfl
                  have hfz28_0 := blk_frozen BK124.out 0
                  have hfz28_1 := blk_frozen BK124.out 1
                  have hnb29 := NB126_125.out
                  have hnc29 := NB125_126.out
                  have hcz30_0 : wr.cell? ⟨gb126, 0, none⟩ = some (.int .u64 x127000_1) := (blk_cell BK126.out 0).trans rfl
                  have hcz30_1 : wr.cell? ⟨gb126, 1, none⟩ = some (.int .u64 x127001_1) := (blk_cell BK126.out 1).trans rfl
                  have hfz30_0 := blk_frozen BK126.out 0
                  have hfz30_1 := blk_frozen BK126.out 1
                  go_wp2_with (first | ((with_reducible refine gate_callee (f := 39) rfl ?_); refine goesL_ (some 39) rfl rfl Tryd.func39 (by kernel_rfl) rfl #[.agg #[.int .u64 x127000_1, .int .u64 x127001_1], .agg #[.int .u64 x127000_1, .int .u64 x127001_1]] rfl (by (try simp only [List.map_toArray, List.map_cons, List.map_nil]); first | done | rfl | (simp only [List.length_drop, List.length_take]; rfl)) ?_; (with_reducible refine (customsref01_Add.calls x127000_1 x127001_1 x127000_1 x127001_1 t127 t128 t129 _ A16.out).mono ?_); rintro e w31 ⟨rfl, hb⟩; refine ⟨_, rfl, ?_⟩; have n0_ := Aside0.mk (blk_below (g := gb124) (o := .cells #[.int .u64 a0_0, .int .u64 a0_1] 58 (0, 0)) (by (with_reducible repeat (first | refine blk_drewN ?_ _ | refine blk_drew ?_ | refine blk_alloc ?_ _)); exact BK124.out) hb); have n1_ := Aside0.mk (blk_below (g := gb125) (o := .cells #[.int .u64 0, .int .u64 0] 58 (0, 0)) (by (with_reducible repeat (first | refine blk_drewN ?_ _ | refine blk_drew ?_ | refine blk_alloc ?_ _)); exact BK125.out) hb); have n2_ := Aside0.mk (blk_below (g := gb126) (o := .cells #[.int .u64 x127000_1, .int .u64 x127001_1] 58 (0, 0)) (by (with_reducible repeat (first | refine blk_drewN ?_ _ | refine blk_drew ?_ | refine blk_alloc ?_ _)); exact BK126.out) hb); have n3_ := Aside0.mk (below_step (by repeat (first | (with_reducible first | exact HB.out | apply below_alloc | apply pw_below_drewN | apply below_drew1 | refine below_set ?_ GE124.out | refine below_set ?_ GE125.out | refine below_set ?_ GE126.out) | exact HB.out)) hb); clear BK124; clear BK125; clear BK126; clear HB; have BK124 := n0_; have BK125 := n1_; have BK126 := n2_; have HB := n3_; clear n0_ n1_ n2_ n3_; (try clear hb); (try clear hb2); (try clear hk); (try clear hi); have hcz32_0 : w31.cell? ⟨gb126, 0, none⟩ = some (.int .u64 x127000_1) := (blk_cell BK126.out 0).trans rfl; have hcz32_1 : w31.cell? ⟨gb126, 1, none⟩ = some (.int .u64 x127001_1) := (blk_cell BK126.out 1).trans rfl; have hfz32_0 := blk_frozen BK126.out 0; have hfz32_1 := blk_frozen BK126.out 1))
                  go_roundg k1
                  case measure => have := HK1.out; omega
                  case rel => exact ⟨(IntKind.u64.wrap ((Go.bits .or .u64 (IntKind.u64.wrap (x7_1 * 2)) (Go.bits .and .u64 (ji15) 1)) - a1)), (wrap64 (x8_1 - 1)), (t127), (Go.bits .or .u64 t128 1), (by first | rfl | (simp; done) | (simp only [← hji15] <;> (first | rfl | simp)) | (simp [*]; done)), (by first | rfl | (simp; done) | (simp [*]; done)), H', ⟨by have := HK1.out; omega⟩, ⟨by (with_reducible repeat (first | refine blk_drewN ?_ _ | refine blk_drew ?_ | refine blk_alloc ?_ _)); refine blk_far ?_ NB124_126.out _; (with_reducible repeat (first | refine blk_drewN ?_ _ | refine blk_drew ?_ | refine blk_alloc ?_ _)); refine blk_far ?_ NB124_126.out _; (with_reducible repeat (first | refine blk_drewN ?_ _ | refine blk_drew ?_ | refine blk_alloc ?_ _)); refine blk_far ?_ NB124_126.out _; (with_reducible repeat (first | refine blk_drewN ?_ _ | refine blk_drew ?_ | refine blk_alloc ?_ _)); exact BK124.out⟩, ⟨by (with_reducible repeat (first | refine blk_drewN ?_ _ | refine blk_drew ?_ | refine blk_alloc ?_ _)); refine blk_far ?_ NB125_126.out _; (with_reducible repeat (first | refine blk_drewN ?_ _ | refine blk_drew ?_ | refine blk_alloc ?_ _)); refine blk_far ?_ NB125_126.out _; (with_reducible repeat (first | refine blk_drewN ?_ _ | refine blk_drew ?_ | refine blk_alloc ?_ _)); refine blk_far ?_ NB125_126.out _; (with_reducible repeat (first | refine blk_drewN ?_ _ | refine blk_drew ?_ | refine blk_alloc ?_ _)); exact BK125.out⟩, ⟨by (with_reducible repeat (first | refine blk_drewN ?_ _ | refine blk_drew ?_ | refine blk_alloc ?_ _)); refine blk_put (cs := #[.int .u64 t127, .int .u64 t128]) ?_ 1 _ rfl; (with_reducible repeat (first | refine blk_drewN ?_ _ | refine blk_drew ?_ | refine blk_alloc ?_ _)); refine blk_put (cs := #[.int .u64 t127, .int .u64 x127001_1]) ?_ 1 _ rfl; (with_reducible repeat (first | refine blk_drewN ?_ _ | refine blk_drew ?_ | refine blk_alloc ?_ _)); refine blk_put (cs := #[.int .u64 x127000_1, .int .u64 x127001_1]) ?_ 0 _ rfl; (with_reducible repeat (first | refine blk_drewN ?_ _ | refine blk_drew ?_ | refine blk_alloc ?_ _)); exact BK126.out⟩, ⟨by repeat (first | (with_reducible first | exact HB.out | apply below_alloc | apply pw_below_drewN | apply below_drew1 | refine below_set ?_ GE124.out | refine below_set ?_ GE125.out | refine below_set ?_ GE126.out) | exact HB.out)⟩⟩
                · rw [if_neg c25] at H
                  have c25b0 : decide (a1 ≤ (Go.bits .or .u64 (IntKind.u64.wrap (x7_1 * 2)) (Go.bits .and .u64 (ji15) 1))) = false := decide_eq_false c25
                  clear c25
                  have H' := Aside0.mk H
                  clear H
                  have hnb33 := NB124_125.out
                  have hnc33 := NB125_124.out
                  have hnb34 := NB124_126.out
                  have hnc34 := NB126_124.out
                  have hcz35_0 : wr.cell? ⟨gb124, 0, none⟩ = some (.int .u64 a0_0) := (blk_cell BK124.out 0).trans rfl
                  have hcz35_1 : wr.cell? ⟨gb124, 1, none⟩ = some (.int .u64 a0_1) := (blk_cell BK124.out 1).trans rfl
                  have hfz35_0 := blk_frozen BK124.out 0
                  have hfz35_1 := blk_frozen BK124.out 1
                  have hnb36 := NB126_125.out
                  have hnc36 := NB125_126.out
                  have hcz37_0 : wr.cell? ⟨gb126, 0, none⟩ = some (.int .u64 x127000_1) := (blk_cell BK126.out 0).trans rfl
                  have hcz37_1 : wr.cell? ⟨gb126, 1, none⟩ = some (.int .u64 x127001_1) := (blk_cell BK126.out 1).trans rfl
                  have hfz37_0 := blk_frozen BK126.out 0
                  have hfz37_1 := blk_frozen BK126.out 1
                  go_wp2_with (first | ((with_reducible refine gate_callee (f := 39) rfl ?_); refine goesL_ (some 39) rfl rfl Tryd.func39 (by kernel_rfl) rfl #[.agg #[.int .u64 x127000_1, .int .u64 x127001_1], .agg #[.int .u64 x127000_1, .int .u64 x127001_1]] rfl (by (try simp only [List.map_toArray, List.map_cons, List.map_nil]); first | done | rfl | (simp only [List.length_drop, List.length_take]; rfl)) ?_; (with_reducible refine (customsref01_Add.calls x127000_1 x127001_1 x127000_1 x127001_1 t127 t128 t129 _ A16.out).mono ?_); rintro e w38 ⟨rfl, hb⟩; refine ⟨_, rfl, ?_⟩; have n0_ := Aside0.mk (blk_below (g := gb124) (o := .cells #[.int .u64 a0_0, .int .u64 a0_1] 58 (0, 0)) (by (with_reducible repeat (first | refine blk_drewN ?_ _ | refine blk_drew ?_ | refine blk_alloc ?_ _)); exact BK124.out) hb); have n1_ := Aside0.mk (blk_below (g := gb125) (o := .cells #[.int .u64 0, .int .u64 0] 58 (0, 0)) (by (with_reducible repeat (first | refine blk_drewN ?_ _ | refine blk_drew ?_ | refine blk_alloc ?_ _)); exact BK125.out) hb); have n2_ := Aside0.mk (blk_below (g := gb126) (o := .cells #[.int .u64 x127000_1, .int .u64 x127001_1] 58 (0, 0)) (by (with_reducible repeat (first | refine blk_drewN ?_ _ | refine blk_drew ?_ | refine blk_alloc ?_ _)); exact BK126.out) hb); have n3_ := Aside0.mk (below_step (by repeat (first | (with_reducible first | exact HB.out | apply below_alloc | apply pw_below_drewN | apply below_drew1 | refine below_set ?_ GE124.out | refine below_set ?_ GE125.out | refine below_set ?_ GE126.out) | exact HB.out)) hb); clear BK124; clear BK125; clear BK126; clear HB; have BK124 := n0_; have BK125 := n1_; have BK126 := n2_; have HB := n3_; clear n0_ n1_ n2_ n3_; (try clear hb); (try clear hb2); (try clear hk); (try clear hi); have hcz39_0 : w38.cell? ⟨gb126, 0, none⟩ = some (.int .u64 x127000_1) := (blk_cell BK126.out 0).trans rfl; have hcz39_1 : w38.cell? ⟨gb126, 1, none⟩ = some (.int .u64 x127001_1) := (blk_cell BK126.out 1).trans rfl; have hfz39_0 := blk_frozen BK126.out 0; have hfz39_1 := blk_frozen BK126.out 1))
                  go_roundg k1
                  case measure => have := HK1.out; omega
                  case rel => exact ⟨(Go.bits .or .u64 (IntKind.u64.wrap (x7_1 * 2)) (Go.bits .and .u64 (ji15) 1)), (wrap64 (x8_1 - 1)), (t127), (t128), (by first | rfl | (simp; done) | (simp only [← hji15] <;> (first | rfl | simp)) | (simp [*]; done)), (by first | rfl | (simp; done) | (simp [*]; done)), H', ⟨by have := HK1.out; omega⟩, ⟨by (with_reducible repeat (first | refine blk_drewN ?_ _ | refine blk_drew ?_ | refine blk_alloc ?_ _)); refine blk_far ?_ NB124_126.out _; (with_reducible repeat (first | refine blk_drewN ?_ _ | refine blk_drew ?_ | refine blk_alloc ?_ _)); refine blk_far ?_ NB124_126.out _; (with_reducible repeat (first | refine blk_drewN ?_ _ | refine blk_drew ?_ | refine blk_alloc ?_ _)); exact BK124.out⟩, ⟨by (with_reducible repeat (first | refine blk_drewN ?_ _ | refine blk_drew ?_ | refine blk_alloc ?_ _)); refine blk_far ?_ NB125_126.out _; (with_reducible repeat (first | refine blk_drewN ?_ _ | refine blk_drew ?_ | refine blk_alloc ?_ _)); refine blk_far ?_ NB125_126.out _; (with_reducible repeat (first | refine blk_drewN ?_ _ | refine blk_drew ?_ | refine blk_alloc ?_ _)); exact BK125.out⟩, ⟨by (with_reducible repeat (first | refine blk_drewN ?_ _ | refine blk_drew ?_ | refine blk_alloc ?_ _)); refine blk_put (cs := #[.int .u64 t127, .int .u64 x127001_1]) ?_ 1 _ rfl; (with_reducible repeat (first | refine blk_drewN ?_ _ | refine blk_drew ?_ | refine blk_alloc ?_ _)); refine blk_put (cs := #[.int .u64 x127000_1, .int .u64 x127001_1]) ?_ 0 _ rfl; (with_reducible repeat (first | refine blk_drewN ?_ _ | refine blk_drew ?_ | refine blk_alloc ?_ _)); exact BK126.out⟩, ⟨by repeat (first | (with_reducible first | exact HB.out | apply below_alloc | apply pw_below_drewN | apply below_drew1 | refine below_set ?_ GE124.out | refine below_set ?_ GE125.out | refine below_set ?_ GE126.out) | exact HB.out)⟩⟩
            · rw [if_neg c14] at H
              exact absurd H (by simp)
          · rw [if_neg c12] at H
            have c12b0 : decide (63 < x8_1) = false := decide_eq_false c12
            clear c12
            replace H := Option.bind_eq_some_iff.mp H
            obtain ⟨⟨t130, t131, t132⟩, A400, H⟩ := H
            replace H : (if (x7_1 / 9223372036854775808) = 1 then (customsref01_DivMod.l0 k1 a1 (IntKind.u64.wrap ((Go.bits .or .u64 (IntKind.u64.wrap (x7_1 * 2)) (Go.bits .and .u64 (ji11) 1)) - a1)) (wrap64 (x8_1 - 1)) a0_0 a0_1 t130 (Go.bits .or .u64 t131 1)) else (if (Go.bits .or .u64 (IntKind.u64.wrap (x7_1 * 2)) (Go.bits .and .u64 (ji11) 1)) ≥ a1 then (customsref01_DivMod.l0 k1 a1 (IntKind.u64.wrap ((Go.bits .or .u64 (IntKind.u64.wrap (x7_1 * 2)) (Go.bits .and .u64 (ji11) 1)) - a1)) (wrap64 (x8_1 - 1)) a0_0 a0_1 t130 (Go.bits .or .u64 t131 1)) else (customsref01_DivMod.l0 k1 a1 (Go.bits .or .u64 (IntKind.u64.wrap (x7_1 * 2)) (Go.bits .and .u64 (ji11) 1)) (wrap64 (x8_1 - 1)) a0_0 a0_1 t130 t131))) = some (r1, r2, r3) := H
            have A40 := Aside0.mk A400
            clear A400
            by_cases c41 : (x7_1 / 9223372036854775808) = 1
            · rw [if_pos c41] at H
              have c41b0 : ((x7_1 / 9223372036854775808) == 1) = true := beq_iff_eq.mpr c41
              have c41b1 : ((x7_1 / 9223372036854775808) != 1) = false := bne_eq_false_iff_eq.mpr c41
              clear c41
              have H' := Aside0.mk H
              clear H
              have hnb42 := NB124_125.out
              have hnc42 := NB125_124.out
              have hnb43 := NB124_126.out
              have hnc43 := NB126_124.out
              have hcz44_0 : wr.cell? ⟨gb124, 0, none⟩ = some (.int .u64 a0_0) := (blk_cell BK124.out 0).trans rfl
              have hcz44_1 : wr.cell? ⟨gb124, 1, none⟩ = some (.int .u64 a0_1) := (blk_cell BK124.out 1).trans rfl
              have hfz44_0 := blk_frozen BK124.out 0
              have hfz44_1 := blk_frozen BK124.out 1
              have hnb45 := NB126_125.out
              have hnc45 := NB125_126.out
              have hcz46_0 : wr.cell? ⟨gb126, 0, none⟩ = some (.int .u64 x127000_1) := (blk_cell BK126.out 0).trans rfl
              have hcz46_1 : wr.cell? ⟨gb126, 1, none⟩ = some (.int .u64 x127001_1) := (blk_cell BK126.out 1).trans rfl
              have hfz46_0 := blk_frozen BK126.out 0
              have hfz46_1 := blk_frozen BK126.out 1
              go_wp2_with (first | ((with_reducible refine gate_callee (f := 39) rfl ?_); refine goesL_ (some 39) rfl rfl Tryd.func39 (by kernel_rfl) rfl #[.agg #[.int .u64 x127000_1, .int .u64 x127001_1], .agg #[.int .u64 x127000_1, .int .u64 x127001_1]] rfl (by (try simp only [List.map_toArray, List.map_cons, List.map_nil]); first | done | rfl | (simp only [List.length_drop, List.length_take]; rfl)) ?_; (with_reducible refine (customsref01_Add.calls x127000_1 x127001_1 x127000_1 x127001_1 t130 t131 t132 _ A40.out).mono ?_); rintro e w47 ⟨rfl, hb⟩; refine ⟨_, rfl, ?_⟩; have n0_ := Aside0.mk (blk_below (g := gb124) (o := .cells #[.int .u64 a0_0, .int .u64 a0_1] 58 (0, 0)) (by (with_reducible repeat (first | refine blk_drewN ?_ _ | refine blk_drew ?_ | refine blk_alloc ?_ _)); exact BK124.out) hb); have n1_ := Aside0.mk (blk_below (g := gb125) (o := .cells #[.int .u64 0, .int .u64 0] 58 (0, 0)) (by (with_reducible repeat (first | refine blk_drewN ?_ _ | refine blk_drew ?_ | refine blk_alloc ?_ _)); exact BK125.out) hb); have n2_ := Aside0.mk (blk_below (g := gb126) (o := .cells #[.int .u64 x127000_1, .int .u64 x127001_1] 58 (0, 0)) (by (with_reducible repeat (first | refine blk_drewN ?_ _ | refine blk_drew ?_ | refine blk_alloc ?_ _)); exact BK126.out) hb); have n3_ := Aside0.mk (below_step (by repeat (first | (with_reducible first | exact HB.out | apply below_alloc | apply pw_below_drewN | apply below_drew1 | refine below_set ?_ GE124.out | refine below_set ?_ GE125.out | refine below_set ?_ GE126.out) | exact HB.out)) hb); clear BK124; clear BK125; clear BK126; clear HB; have BK124 := n0_; have BK125 := n1_; have BK126 := n2_; have HB := n3_; clear n0_ n1_ n2_ n3_; (try clear hb); (try clear hb2); (try clear hk); (try clear hi); have hcz48_0 : w47.cell? ⟨gb126, 0, none⟩ = some (.int .u64 x127000_1) := (blk_cell BK126.out 0).trans rfl; have hcz48_1 : w47.cell? ⟨gb126, 1, none⟩ = some (.int .u64 x127001_1) := (blk_cell BK126.out 1).trans rfl; have hfz48_0 := blk_frozen BK126.out 0; have hfz48_1 := blk_frozen BK126.out 1))
              go_roundg k1
              case measure => have := HK1.out; omega
              case rel => exact ⟨(IntKind.u64.wrap ((Go.bits .or .u64 (IntKind.u64.wrap (x7_1 * 2)) (Go.bits .and .u64 (ji11) 1)) - a1)), (wrap64 (x8_1 - 1)), (t130), (Go.bits .or .u64 t131 1), (by first | rfl | (simp; done) | (simp only [← hji11] <;> (first | rfl | simp)) | (simp [*]; done)), (by first | rfl | (simp; done) | (simp [*]; done)), H', ⟨by have := HK1.out; omega⟩, ⟨by (with_reducible repeat (first | refine blk_drewN ?_ _ | refine blk_drew ?_ | refine blk_alloc ?_ _)); refine blk_far ?_ NB124_126.out _; (with_reducible repeat (first | refine blk_drewN ?_ _ | refine blk_drew ?_ | refine blk_alloc ?_ _)); refine blk_far ?_ NB124_126.out _; (with_reducible repeat (first | refine blk_drewN ?_ _ | refine blk_drew ?_ | refine blk_alloc ?_ _)); refine blk_far ?_ NB124_126.out _; (with_reducible repeat (first | refine blk_drewN ?_ _ | refine blk_drew ?_ | refine blk_alloc ?_ _)); exact BK124.out⟩, ⟨by (with_reducible repeat (first | refine blk_drewN ?_ _ | refine blk_drew ?_ | refine blk_alloc ?_ _)); refine blk_far ?_ NB125_126.out _; (with_reducible repeat (first | refine blk_drewN ?_ _ | refine blk_drew ?_ | refine blk_alloc ?_ _)); refine blk_far ?_ NB125_126.out _; (with_reducible repeat (first | refine blk_drewN ?_ _ | refine blk_drew ?_ | refine blk_alloc ?_ _)); refine blk_far ?_ NB125_126.out _; (with_reducible repeat (first | refine blk_drewN ?_ _ | refine blk_drew ?_ | refine blk_alloc ?_ _)); exact BK125.out⟩, ⟨by (with_reducible repeat (first | refine blk_drewN ?_ _ | refine blk_drew ?_ | refine blk_alloc ?_ _)); refine blk_put (cs := #[.int .u64 t130, .int .u64 t131]) ?_ 1 _ rfl; (with_reducible repeat (first | refine blk_drewN ?_ _ | refine blk_drew ?_ | refine blk_alloc ?_ _)); refine blk_put (cs := #[.int .u64 t130, .int .u64 x127001_1]) ?_ 1 _ rfl; (with_reducible repeat (first | refine blk_drewN ?_ _ | refine blk_drew ?_ | refine blk_alloc ?_ _)); refine blk_put (cs := #[.int .u64 x127000_1, .int .u64 x127001_1]) ?_ 0 _ rfl; (with_reducible repeat (first | refine blk_drewN ?_ _ | refine blk_drew ?_ | refine blk_alloc ?_ _)); exact BK126.out⟩, ⟨by repeat (first | (with_reducible first | exact HB.out | apply below_alloc | apply pw_below_drewN | apply below_drew1 | refine below_set ?_ GE124.out | refine below_set ?_ GE125.out | refine below_set ?_ GE126.out) | exact HB.out)⟩⟩
            · rw [if_neg c41] at H
              have c41b0 : ((x7_1 / 9223372036854775808) == 1) = false := beq_eq_false_iff_ne.mpr c41
              have c41b1 : ((x7_1 / 9223372036854775808) != 1) = true := bne_iff_ne.mpr c41
              by_cases c49 : (Go.bits .or .u64 (IntKind.u64.wrap (x7_1 * 2)) (Go.bits .and .u64 (ji11) 1)) ≥ a1
              · rw [if_pos c49] at H
                have c49b0 : decide (a1 ≤ (Go.bits .or .u64 (IntKind.u64.wrap (x7_1 * 2)) (Go.bits .and .u64 (ji11) 1))) = true := decide_eq_true c49
                clear c49
                have H' := Aside0.mk H
                clear H
                have hnb50 := NB124_125.out
                have hnc50 := NB125_124.out
                have hnb51 := NB124_126.out
                have hnc51 := NB126_124.out
                have hcz52_0 : wr.cell? ⟨gb124, 0, none⟩ = some (.int .u64 a0_0) := (blk_cell BK124.out 0).trans rfl
                have hcz52_1 : wr.cell? ⟨gb124, 1, none⟩ = some (.int .u64 a0_1) := (blk_cell BK124.out 1).trans rfl
                have hfz52_0 := blk_frozen BK124.out 0
                have hfz52_1 := blk_frozen BK124.out 1
                have hnb53 := NB126_125.out
                have hnc53 := NB125_126.out
                have hcz54_0 : wr.cell? ⟨gb126, 0, none⟩ = some (.int .u64 x127000_1) := (blk_cell BK126.out 0).trans rfl
                have hcz54_1 : wr.cell? ⟨gb126, 1, none⟩ = some (.int .u64 x127001_1) := (blk_cell BK126.out 1).trans rfl
                have hfz54_0 := blk_frozen BK126.out 0
                have hfz54_1 := blk_frozen BK126.out 1
                go_wp2_with (first | ((with_reducible refine gate_callee (f := 39) rfl ?_); refine goesL_ (some 39) rfl rfl Tryd.func39 (by kernel_rfl) rfl #[.agg #[.int .u64 x127000_1, .int .u64 x127001_1], .agg #[.int .u64 x127000_1, .int .u64 x127001_1]] rfl (by (try simp only [List.map_toArray, List.map_cons, List.map_nil]); first | done | rfl | (simp only [List.length_drop, List.length_take]; rfl)) ?_; (with_reducible refine (customsref01_Add.calls x127000_1 x127001_1 x127000_1 x127001_1 t130 t131 t132 _ A40.out).mono ?_); rintro e w55 ⟨rfl, hb⟩; refine ⟨_, rfl, ?_⟩; have n0_ := Aside0.mk (blk_below (g := gb124) (o := .cells #[.int .u64 a0_0, .int .u64 a0_1] 58 (0, 0)) (by (with_reducible repeat (first | refine blk_drewN ?_ _ | refine blk_drew ?_ | refine blk_alloc ?_ _)); exact BK124.out) hb); have n1_ := Aside0.mk (blk_below (g := gb125) (o := .cells #[.int .u64 0, .int .u64 0] 58 (0, 0)) (by (with_reducible repeat (first | refine blk_drewN ?_ _ | refine blk_drew ?_ | refine blk_alloc ?_ _)); exact BK125.out) hb); have n2_ := Aside0.mk (blk_below (g := gb126) (o := .cells #[.int .u64 x127000_1, .int .u64 x127001_1] 58 (0, 0)) (by (with_reducible repeat (first | refine blk_drewN ?_ _ | refine blk_drew ?_ | refine blk_alloc ?_ _)); exact BK126.out) hb); have n3_ := Aside0.mk (below_step (by repeat (first | (with_reducible first | exact HB.out | apply below_alloc | apply pw_below_drewN | apply below_drew1 | refine below_set ?_ GE124.out | refine below_set ?_ GE125.out | refine below_set ?_ GE126.out) | exact HB.out)) hb); clear BK124; clear BK125; clear BK126; clear HB; have BK124 := n0_; have BK125 := n1_; have BK126 := n2_; have HB := n3_; clear n0_ n1_ n2_ n3_; (try clear hb); (try clear hb2); (try clear hk); (try clear hi); have hcz56_0 : w55.cell? ⟨gb126, 0, none⟩ = some (.int .u64 x127000_1) := (blk_cell BK126.out 0).trans rfl; have hcz56_1 : w55.cell? ⟨gb126, 1, none⟩ = some (.int .u64 x127001_1) := (blk_cell BK126.out 1).trans rfl; have hfz56_0 := blk_frozen BK126.out 0; have hfz56_1 := blk_frozen BK126.out 1))
                go_roundg k1
                case measure => have := HK1.out; omega
                case rel => exact ⟨(IntKind.u64.wrap ((Go.bits .or .u64 (IntKind.u64.wrap (x7_1 * 2)) (Go.bits .and .u64 (ji11) 1)) - a1)), (wrap64 (x8_1 - 1)), (t130), (Go.bits .or .u64 t131 1), (by first | rfl | (simp; done) | (simp only [← hji11] <;> (first | rfl | simp)) | (simp [*]; done)), (by first | rfl | (simp; done) | (simp [*]; done)), H', ⟨by have := HK1.out; omega⟩, ⟨by (with_reducible repeat (first | refine blk_drewN ?_ _ | refine blk_drew ?_ | refine blk_alloc ?_ _)); refine blk_far ?_ NB124_126.out _; (with_reducible repeat (first | refine blk_drewN ?_ _ | refine blk_drew ?_ | refine blk_alloc ?_ _)); refine blk_far ?_ NB124_126.out _; (with_reducible repeat (first | refine blk_drewN ?_ _ | refine blk_drew ?_ | refine blk_alloc ?_ _)); refine blk_far ?_ NB124_126.out _; (with_reducible repeat (first | refine blk_drewN ?_ _ | refine blk_drew ?_ | refine blk_alloc ?_ _)); exact BK124.out⟩, ⟨by (with_reducible repeat (first | refine blk_drewN ?_ _ | refine blk_drew ?_ | refine blk_alloc ?_ _)); refine blk_far ?_ NB125_126.out _; (with_reducible repeat (first | refine blk_drewN ?_ _ | refine blk_drew ?_ | refine blk_alloc ?_ _)); refine blk_far ?_ NB125_126.out _; (with_reducible repeat (first | refine blk_drewN ?_ _ | refine blk_drew ?_ | refine blk_alloc ?_ _)); refine blk_far ?_ NB125_126.out _; (with_reducible repeat (first | refine blk_drewN ?_ _ | refine blk_drew ?_ | refine blk_alloc ?_ _)); exact BK125.out⟩, ⟨by (with_reducible repeat (first | refine blk_drewN ?_ _ | refine blk_drew ?_ | refine blk_alloc ?_ _)); refine blk_put (cs := #[.int .u64 t130, .int .u64 t131]) ?_ 1 _ rfl; (with_reducible repeat (first | refine blk_drewN ?_ _ | refine blk_drew ?_ | refine blk_alloc ?_ _)); refine blk_put (cs := #[.int .u64 t130, .int .u64 x127001_1]) ?_ 1 _ rfl; (with_reducible repeat (first | refine blk_drewN ?_ _ | refine blk_drew ?_ | refine blk_alloc ?_ _)); refine blk_put (cs := #[.int .u64 x127000_1, .int .u64 x127001_1]) ?_ 0 _ rfl; (with_reducible repeat (first | refine blk_drewN ?_ _ | refine blk_drew ?_ | refine blk_alloc ?_ _)); exact BK126.out⟩, ⟨by repeat (first | (with_reducible first | exact HB.out | apply below_alloc | apply pw_below_drewN | apply below_drew1 | refine below_set ?_ GE124.out | refine below_set ?_ GE125.out | refine below_set ?_ GE126.out) | exact HB.out)⟩⟩
              · rw [if_neg c49] at H
                have c49b0 : decide (a1 ≤ (Go.bits .or .u64 (IntKind.u64.wrap (x7_1 * 2)) (Go.bits .and .u64 (ji11) 1))) = false := decide_eq_false c49
                clear c49
                have H' := Aside0.mk H
                clear H
                have hnb57 := NB124_125.out
                have hnc57 := NB125_124.out
                have hnb58 := NB124_126.out
                have hnc58 := NB126_124.out
                have hcz59_0 : wr.cell? ⟨gb124, 0, none⟩ = some (.int .u64 a0_0) := (blk_cell BK124.out 0).trans rfl
                have hcz59_1 : wr.cell? ⟨gb124, 1, none⟩ = some (.int .u64 a0_1) := (blk_cell BK124.out 1).trans rfl
                have hfz59_0 := blk_frozen BK124.out 0
                have hfz59_1 := blk_frozen BK124.out 1
                have hnb60 := NB126_125.out
                have hnc60 := NB125_126.out
                have hcz61_0 : wr.cell? ⟨gb126, 0, none⟩ = some (.int .u64 x127000_1) := (blk_cell BK126.out 0).trans rfl
                have hcz61_1 : wr.cell? ⟨gb126, 1, none⟩ = some (.int .u64 x127001_1) := (blk_cell BK126.out 1).trans rfl
                have hfz61_0 := blk_frozen BK126.out 0
                have hfz61_1 := blk_frozen BK126.out 1
                go_wp2_with (first | ((with_reducible refine gate_callee (f := 39) rfl ?_); refine goesL_ (some 39) rfl rfl Tryd.func39 (by kernel_rfl) rfl #[.agg #[.int .u64 x127000_1, .int .u64 x127001_1], .agg #[.int .u64 x127000_1, .int .u64 x127001_1]] rfl (by (try simp only [List.map_toArray, List.map_cons, List.map_nil]); first | done | rfl | (simp only [List.length_drop, List.length_take]; rfl)) ?_; (with_reducible refine (customsref01_Add.calls x127000_1 x127001_1 x127000_1 x127001_1 t130 t131 t132 _ A40.out).mono ?_); rintro e w62 ⟨rfl, hb⟩; refine ⟨_, rfl, ?_⟩; have n0_ := Aside0.mk (blk_below (g := gb124) (o := .cells #[.int .u64 a0_0, .int .u64 a0_1] 58 (0, 0)) (by (with_reducible repeat (first | refine blk_drewN ?_ _ | refine blk_drew ?_ | refine blk_alloc ?_ _)); exact BK124.out) hb); have n1_ := Aside0.mk (blk_below (g := gb125) (o := .cells #[.int .u64 0, .int .u64 0] 58 (0, 0)) (by (with_reducible repeat (first | refine blk_drewN ?_ _ | refine blk_drew ?_ | refine blk_alloc ?_ _)); exact BK125.out) hb); have n2_ := Aside0.mk (blk_below (g := gb126) (o := .cells #[.int .u64 x127000_1, .int .u64 x127001_1] 58 (0, 0)) (by (with_reducible repeat (first | refine blk_drewN ?_ _ | refine blk_drew ?_ | refine blk_alloc ?_ _)); exact BK126.out) hb); have n3_ := Aside0.mk (below_step (by repeat (first | (with_reducible first | exact HB.out | apply below_alloc | apply pw_below_drewN | apply below_drew1 | refine below_set ?_ GE124.out | refine below_set ?_ GE125.out | refine below_set ?_ GE126.out) | exact HB.out)) hb); clear BK124; clear BK125; clear BK126; clear HB; have BK124 := n0_; have BK125 := n1_; have BK126 := n2_; have HB := n3_; clear n0_ n1_ n2_ n3_; (try clear hb); (try clear hb2); (try clear hk); (try clear hi); have hcz63_0 : w62.cell? ⟨gb126, 0, none⟩ = some (.int .u64 x127000_1) := (blk_cell BK126.out 0).trans rfl; have hcz63_1 : w62.cell? ⟨gb126, 1, none⟩ = some (.int .u64 x127001_1) := (blk_cell BK126.out 1).trans rfl; have hfz63_0 := blk_frozen BK126.out 0; have hfz63_1 := blk_frozen BK126.out 1))
                go_roundg k1
                case measure => have := HK1.out; omega
                case rel => exact ⟨(Go.bits .or .u64 (IntKind.u64.wrap (x7_1 * 2)) (Go.bits .and .u64 (ji11) 1)), (wrap64 (x8_1 - 1)), (t130), (t131), (by first | rfl | (simp; done) | (simp only [← hji11] <;> (first | rfl | simp)) | (simp [*]; done)), (by first | rfl | (simp; done) | (simp [*]; done)), H', ⟨by have := HK1.out; omega⟩, ⟨by (with_reducible repeat (first | refine blk_drewN ?_ _ | refine blk_drew ?_ | refine blk_alloc ?_ _)); refine blk_far ?_ NB124_126.out _; (with_reducible repeat (first | refine blk_drewN ?_ _ | refine blk_drew ?_ | refine blk_alloc ?_ _)); refine blk_far ?_ NB124_126.out _; (with_reducible repeat (first | refine blk_drewN ?_ _ | refine blk_drew ?_ | refine blk_alloc ?_ _)); exact BK124.out⟩, ⟨by (with_reducible repeat (first | refine blk_drewN ?_ _ | refine blk_drew ?_ | refine blk_alloc ?_ _)); refine blk_far ?_ NB125_126.out _; (with_reducible repeat (first | refine blk_drewN ?_ _ | refine blk_drew ?_ | refine blk_alloc ?_ _)); refine blk_far ?_ NB125_126.out _; (with_reducible repeat (first | refine blk_drewN ?_ _ | refine blk_drew ?_ | refine blk_alloc ?_ _)); exact BK125.out⟩, ⟨by (with_reducible repeat (first | refine blk_drewN ?_ _ | refine blk_drew ?_ | refine blk_alloc ?_ _)); refine blk_put (cs := #[.int .u64 t130, .int .u64 x127001_1]) ?_ 1 _ rfl; (with_reducible repeat (first | refine blk_drewN ?_ _ | refine blk_drew ?_ | refine blk_alloc ?_ _)); refine blk_put (cs := #[.int .u64 x127000_1, .int .u64 x127001_1]) ?_ 0 _ rfl; (with_reducible repeat (first | refine blk_drewN ?_ _ | refine blk_drew ?_ | refine blk_alloc ?_ _)); exact BK126.out⟩, ⟨by repeat (first | (with_reducible first | exact HB.out | apply below_alloc | apply pw_below_drewN | apply below_drew1 | refine below_set ?_ GE124.out | refine below_set ?_ GE125.out | refine below_set ?_ GE126.out) | exact HB.out)⟩⟩
        · rw [if_neg c10] at H
          exact absurd H (by simp)
      · rw [if_neg c9] at H
        have c9b0 : decide (0 ≤ x8_1) = false := decide_eq_false c9
        clear c9
        simp only [Option.some.injEq, Prod.mk.injEq] at H
        obtain ⟨rfl, rfl, rfl⟩ := H
        have hnb64 := NB126_124.out
        have hnc64 := NB124_126.out
        have hnb65 := NB126_125.out
        have hnc65 := NB125_126.out
        have hcz66_0 : wr.cell? ⟨gb126, 0, none⟩ = some (.int .u64 x127000_1) := (blk_cell BK126.out 0).trans rfl
        have hcz66_1 : wr.cell? ⟨gb126, 1, none⟩ = some (.int .u64 x127001_1) := (blk_cell BK126.out 1).trans rfl
        have hfz66_0 := blk_frozen BK126.out 0
        have hfz66_1 := blk_frozen BK126.out 1
        have hnb67 := NB125_124.out
        have hnc67 := NB124_125.out
        have hcz68_0 : wr.cell? ⟨gb125, 0, none⟩ = some (.int .u64 0) := (blk_cell BK125.out 0).trans rfl
        have hcz68_1 : wr.cell? ⟨gb125, 1, none⟩ = some (.int .u64 0) := (blk_cell BK125.out 1).trans rfl
        have hfz68_0 := blk_frozen BK125.out 0
        have hfz68_1 := blk_frozen BK125.out 1
        go_wp2
        refine bodyPost_ret (results_ct rfl _ _ gb125 58 #[.int .u64 x127000_1, .int .u64 x127001_1] (0, 0) _ rfl (by (with_reducible repeat (first | refine blk_drewN ?_ _ | refine blk_drew ?_ | refine blk_alloc ?_ _)); refine blk_put (cs := #[.int .u64 x127000_1, .int .u64 0]) ?_ 1 _ rfl; (with_reducible repeat (first | refine blk_drewN ?_ _ | refine blk_drew ?_ | refine blk_alloc ?_ _)); refine blk_put (cs := #[.int .u64 0, .int .u64 0]) ?_ 0 _ rfl; (with_reducible repeat (first | refine blk_drewN ?_ _ | refine blk_drew ?_ | refine blk_alloc ?_ _)); exact BK125.out) Tryd.underlying58 rfl (by kernel_rfl)) rfl ?_
        exact ⟨by first | rfl | (simp [errW_none, errW_some] <;> rfl) | (simp [*, errW_none, errW_some] <;> rfl), by repeat (first | (with_reducible first | exact HB.out | apply below_alloc | apply pw_below_drewN | apply below_drew1 | refine below_set ?_ GE124.out | refine below_set ?_ GE125.out | refine below_set ?_ GE126.out) | exact HB.out)⟩

end Go.Proofs.YtheknmeeioajfaaDoor.F
