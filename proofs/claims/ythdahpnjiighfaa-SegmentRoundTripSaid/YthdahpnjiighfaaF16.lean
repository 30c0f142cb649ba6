-- printed by this session's own copy of a printing program, out of the translation
import Derived.Test.YthdahpnjiighfaaF0
import Derived.Test.YthdahpnjiighfaaF15
namespace Go.Proofs.Ythdahpnjiighfaa.F
open Go.RowKit Go.Proofs.YthdahpnjiighfaaW.PrintWords Go.Proofs.YthdahpnjiighfaaW.PrintLast Go.Proofs.YthdahpnjiighfaaW.PrintMore
attribute [local go_sem] max2_int min2_int max_two min_two max_three min_three max_four min_four   -- for this text's walks alone
set_option linter.unusedVariables false
set_option linter.unusedSimpArgs false

/-! ### customsref06_text: function 28 -/
mutual
def customsref06_text.l0 : Nat → List Int → Int → ByteArray → List (List ByteArray) → Option (ByteArray)
  | 0, _, _, _, _ => none
  | k + 1, x3, x4, x300000, x300001 => if x4 < (x300001.length : Int) then (if x3.length < 140737488355328 then (customsref06_text.l1 k (x3 ++ [43]) x4 0 x300000 x300001) else (none)) else (if x3.length < 140737488355328 then (some (strOfNums (x3 ++ [39]))) else (none))
def customsref06_text.l1 : Nat → List Int → Int → Int → ByteArray → List (List ByteArray) → Option (ByteArray)
  | 0, _, _, _, _, _ => none
  | k + 1, x3, x4, x5, x300000, x300001 => if 0 ≤ x4 then (if x4 < (x300001.length : Int) then (if x5 < ((rd_L1 x300001 x4).length : Int) then (if x5 > 0 then (if x3.length < 140737488355328 then (customsref06_text.j2 k (x3 ++ [58]) x4 x5 x300000 x300001) else (none)) else (customsref06_text.j2 k x3 x4 x5 x300000 x300001)) else (customsref06_text.l0 k x3 (wrap64 (x4 + 1)) x300000 x300001)) else (none)) else (none)
def customsref06_text.j2 : Nat → List Int → Int → Int → ByteArray → List (List ByteArray) → Option (ByteArray)
  | 0, _, _, _, _, _ => none
  | k + 1, x3, x4, x5, x300000, x300001 => if 0 ≤ x4 then (if x4 < (x300001.length : Int) then (if 0 ≤ x5 then (if x5 < ((rd_L1 x300001 x4).length : Int) then (customsref06_text.l2 k x3 x4 x5 (rdOf ByteArray.empty (rd_L1 x300001 x4) x5) 0 x300000 x300001) else (none)) else (none)) else (none)) else (none)
def customsref06_text.l2 : Nat → List Int → Int → Int → ByteArray → Int → ByteArray → List (List ByteArray) → Option (ByteArray)
  | 0, _, _, _, _, _, _, _ => none
  | k + 1, x3, x4, x5, x6, x7, x300000, x300001 => if x7 < (x6.size : Int) then (if 0 ≤ x7 then ((customsref06_special.f (bt x6 x7)).bind fun t315 => (if t315 = true then (if x3.length < 140737488355328 then ((some (x3 ++ [63] : List Int)).bind fun y316 => (if y316.length < 140737488355328 then (customsref06_text.l2 k (y316 ++ [bt x6 x7]) x4 x5 x6 (wrap64 (x7 + 1)) x300000 x300001) else (none))) else (none)) else (if x3.length < 140737488355328 then (customsref06_text.l2 k (x3 ++ [bt x6 x7]) x4 x5 x6 (wrap64 (x7 + 1)) x300000 x300001) else (none)))) else (none)) else (customsref06_text.l1 k x3 x4 (wrap64 (x5 + 1)) x300000 x300001)
end
def customsref06_text.f (k : Nat) (a0_0 : ByteArray) (l0_1 : List (List ByteArray)) : Option (ByteArray) := if a0_0.size < 140737488355328 then (customsref06_text.l0 k (bytesOf a0_0) 0 a0_0 l0_1) else (none)
theorem customsref06_text.mono_l : ∀ k, (∀ y0 y1 y2 y3, LeO (customsref06_text.l0 k y0 y1 y2 y3) (customsref06_text.l0 (k + 1) y0 y1 y2 y3)) ∧ (∀ y0 y1 y2 y3 y4, LeO (customsref06_text.l1 k y0 y1 y2 y3 y4) (customsref06_text.l1 (k + 1) y0 y1 y2 y3 y4)) ∧ (∀ y0 y1 y2 y3 y4, LeO (customsref06_text.j2 k y0 y1 y2 y3 y4) (customsref06_text.j2 (k + 1) y0 y1 y2 y3 y4)) ∧ (∀ y0 y1 y2 y3 y4 y5 y6, LeO (customsref06_text.l2 k y0 y1 y2 y3 y4 y5 y6) (customsref06_text.l2 (k + 1) y0 y1 y2 y3 y4 y5 y6))
  | 0 => ⟨fun _ _ _ _ r h => by simp [customsref06_text.l0] at h, fun _ _ _ _ _ r h => by simp [customsref06_text.l1] at h, fun _ _ _ _ _ r h => by simp [customsref06_text.j2] at h, fun _ _ _ _ _ _ _ r h => by simp [customsref06_text.l2] at h⟩
  | k + 1 => by
    obtain ⟨ih0, ih1, ih2, ih3⟩ := customsref06_text.mono_l k
    refine ⟨?_, ?_, ?_, ?_⟩
    · intro y0 y1 y2 y3
      unfold customsref06_text.l0
      repeat' first
      | (with_reducible exact ih0 _ _ _ _)
      | (with_reducible exact ih1 _ _ _ _ _)
      | (with_reducible exact ih2 _ _ _ _ _)
      | (with_reducible exact ih3 _ _ _ _ _ _ _)
      | (with_reducible exact LeO.refl _)
      | (with_reducible exact LeO.none _)
      | (with_reducible refine LeO.ite ?_ ?_)
      | (with_reducible refine LeO.bind ?_ (fun _ => ?_))
      | exact ih0 _ _ _ _
      | exact ih1 _ _ _ _ _
      | exact ih2 _ _ _ _ _
      | exact ih3 _ _ _ _ _ _ _
      | exact LeO.none _
      | refine LeO.ite ?_ ?_
      | refine LeO.bind ?_ (fun _ => ?_)
    · intro y0 y1 y2 y3 y4
      unfold customsref06_text.l1
      repeat' first
      | (with_reducible exact ih0 _ _ _ _)
      | (with_reducible exact ih1 _ _ _ _ _)
      | (with_reducible exact ih2 _ _ _ _ _)
      | (with_reducible exact ih3 _ _ _ _ _ _ _)
      | (with_reducible exact LeO.refl _)
      | (with_reducible exact LeO.none _)
      | (with_reducible refine LeO.ite ?_ ?_)
      | (with_reducible refine LeO.bind ?_ (fun _ => ?_))
      | exact ih0 _ _ _ _
      | exact ih1 _ _ _ _ _
      | exact ih2 _ _ _ _ _
      | exact ih3 _ _ _ _ _ _ _
      | exact LeO.none _
      | refine LeO.ite ?_ ?_
      | refine LeO.bind ?_ (fun _ => ?_)
    · intro y0 y1 y2 y3 y4
      unfold customsref06_text.j2
      repeat' first
      | (with_reducible exact ih0 _ _ _ _)
      | (with_reducible exact ih1 _ _ _ _ _)
      | (with_reducible exact ih2 _ _ _ _ _)
      | (with_reducible exact ih3 _ _ _ _ _ _ _)
      | (with_reducible exact LeO.refl _)
      | (with_reducible exact LeO.none _)
      | (with_reducible refine LeO.ite ?_ ?_)
      | (with_reducible refine LeO.bind ?_ (fun _ => ?_))
      | exact ih0 _ _ _ _
      | exact ih1 _ _ _ _ _
      | exact ih2 _ _ _ _ _
      | exact ih3 _ _ _ _ _ _ _
      | exact LeO.none _
      | refine LeO.ite ?_ ?_
      | refine LeO.bind ?_ (fun _ => ?_)
    · intro y0 y1 y2 y3 y4 y5 y6
      unfold customsref06_text.l2
      repeat' first
      | (with_reducible exact ih0 _ _ _ _)
      | (with_reducible exact ih1 _ _ _ _ _)
      | (with_reducible exact ih2 _ _ _ _ _)
      | (with_reducible exact ih3 _ _ _ _ _ _ _)
      | (with_reducible exact LeO.refl _)
      | (with_reducible exact LeO.none _)
      | (with_reducible refine LeO.ite ?_ ?_)
      | (with_reducible refine LeO.bind ?_ (fun _ => ?_))
      | exact ih0 _ _ _ _
      | exact ih1 _ _ _ _ _
      | exact ih2 _ _ _ _ _
      | exact ih3 _ _ _ _ _ _ _
      | exact LeO.none _
      | refine LeO.ite ?_ ?_
      | refine LeO.bind ?_ (fun _ => ?_)
theorem customsref06_text.mono : ∀ a0 a1 k, LeO (customsref06_text.f k a0 a1) (customsref06_text.f (k + 1) a0 a1) := by
  intro a0 a1 k
  obtain ⟨ih0, ih1, ih2, ih3⟩ := customsref06_text.mono_l k
  unfold customsref06_text.f
  repeat' first
      | (with_reducible exact ih0 _ _ _ _)
      | (with_reducible exact ih1 _ _ _ _ _)
      | (with_reducible exact ih2 _ _ _ _ _)
      | (with_reducible exact ih3 _ _ _ _ _ _ _)
      | (with_reducible exact LeO.refl _)
      | (with_reducible exact LeO.none _)
      | (with_reducible refine LeO.ite ?_ ?_)
      | (with_reducible refine LeO.bind ?_ (fun _ => ?_))
      | exact ih0 _ _ _ _
      | exact ih1 _ _ _ _ _
      | exact ih2 _ _ _ _ _
      | exact ih3 _ _ _ _ _ _ _
      | exact LeO.none _
      | refine LeO.ite ?_ ?_
      | refine LeO.bind ?_ (fun _ => ?_)
set_option maxHeartbeats 8000000 in
set_option maxRecDepth 100000 in
theorem customsref06_text.calls (k : Nat) (a0_0 : ByteArray) (A0_1 : Option Addr) (c0_1 : Nat) (l0_1 : List (List ByteArray)) (r : ByteArray) (w : World) (hr0_1 : Kd.C (Kd.slice 9 Kd.string) w A0_1 l0_1.length l0_1) (hc0_1 : l0_1.length ≤ c0_1) (h : customsref06_text.f k a0_0 l0_1 = some r) :
    Calls Try.prog 28 #[.agg #[.string a0_0, .slice A0_1 l0_1.length c0_1]] w fun e w' => e = .returned (.string r) ∧ Below w.heap.size w w' := by
  have hu24 := Try.underlying24
  have HR0_1 := Aside0.mk hr0_1
  have HC0_1 := Aside0.mk hc0_1
  clear hr0_1 hc0_1
  have HB := Aside0.mk (Below.refl w.heap.size w)
  have H : (if a0_0.size < 140737488355328 then (customsref06_text.l0 k (bytesOf a0_0) 0 a0_0 l0_1) else (none)) = some r := h
  clear h
  by_cases c2 : a0_0.size < 140737488355328
  · rw [if_pos c2] at H
    have c2b0 := eq_true c2
    have c2b1 : decide (a0_0.size < 140737488355328) = true := decide_eq_true c2
    clear c2
    obtain ⟨y300, hy300⟩ : ∃ y_ : List Int, y_ = (bytesOf a0_0) := ⟨_, rfl⟩
    replace H : (customsref06_text.l0 k y300 0 a0_0 l0_1) = some r := by first | (rw [hy300]; with_reducible exact H) | (have H2_ := (Option.bind_some _ _).symm.trans H; rw [hy300]; with_reducible exact H2_) | (have H2_ := (Option.bind_some _ _).symm.trans H; with_reducible exact H2_) | with_reducible exact H | (rw [hy300]; exact H) | exact H
    have Ny300 := Aside0.mk hy300
    clear hy300
    have H' := Aside0.mk H
    clear H
    go_enter Try.func28, Try.ntmps28
    go_wp2_with (first | ((with_reducible refine gate_dst (N := 1) rfl ?_); refine box_event ?hg (N := 1) ?hd (cs := #[.string a0_0, .slice A0_1 l0_1.length c0_1]) (t := 24) ?hr ?_; (case hd => rfl); (case hg => rfl); (case hr => first | (go_simp; done) | (go_simp; rfl)); intro gb299 hg w3 hbox hb; have n0_ := Aside0.mk (below_step (by repeat (first | (with_reducible first | exact HB.out | apply below_alloc | apply pw_below_drewN | apply below_drew1) | exact HB.out)) hb); have n1_ := Aside0.mk (hbox); have n2_ := Aside0.mk ((by rw [hg]; exact (below_size (by repeat (first | (with_reducible first | exact HB.out | apply below_alloc | apply pw_below_drewN | apply below_drew1) | exact HB.out))) : w.heap.size ≤ gb299)); have n3_ := Aside0.mk ((by rw [hg]; exact (below_size (by repeat (first | (with_reducible first | exact HB.out | apply below_alloc | apply pw_below_drewN | apply below_drew1) | exact HB.out))) : w.heap.size ≤ gb299)); clear HB; have HB := n0_; have BK299 := n1_; have GW299 := n2_; have GE299 := n3_; clear n0_ n1_ n2_ n3_; clear hb hbox hg; have hcz4_0 : w3.cell? ⟨gb299, 0, none⟩ = some (.string a0_0) := (blk_cell BK299.out 0).trans rfl; have hcz4_1 : w3.cell? ⟨gb299, 1, none⟩ = some (.slice A0_1 l0_1.length c0_1) := (blk_cell BK299.out 1).trans rfl; have hfz4_0 := blk_frozen BK299.out 0; have hfz4_1 := blk_frozen BK299.out 1) | ((with_reducible refine gate_dst (N := 10) rfl ?_); refine Kd.B_conv (Kd.int .u8) _ 5 rfl (N := 10) rfl 9 32 _ a0_0 rfl rfl Try.underlying9 Try.underlying32 Try.underlying5 (ok := fun _ => True) trivial (Below.refl _ _) (Nat.le_refl _) (of_decide_eq_true (by first | (with_reducible assumption) | assumption)) ?_; intro v301 w5 ho6 hb hg_ hnew_; clear hg_ hnew_; (first | rw [← Ny300.out] at ho6 | (simp only [Int.reduceToNat] at ho6; rw [← Ny300.out] at ho6)); have n0_ := Aside0.mk (Kd.B_lower ho6 (below_size (by repeat (first | (with_reducible first | exact HB.out | apply below_alloc | apply pw_below_drewN | apply below_drew1 | refine below_set ?_ GE299.out) | exact HB.out)))); have n1_ := Aside0.mk (blk_below (g := gb299) (o := .cells #[.string a0_0, .slice A0_1 l0_1.length c0_1] 24 (0, 0)) (by (with_reducible repeat (first | refine blk_drewN ?_ _ | refine blk_drew ?_ | refine blk_alloc ?_ _)); exact BK299.out) hb); have n2_ := Aside0.mk (below_step (by repeat (first | (with_reducible first | exact HB.out | apply below_alloc | apply pw_below_drewN | apply below_drew1 | refine below_set ?_ GE299.out) | exact HB.out)) hb); clear BK299; clear HB; have HO302 := n0_; have BK299 := n1_; have HB := n2_; clear n0_ n1_ n2_; clear hb ho6))
    go_loopg [3, 4] k (fun kq v3 v4 w' => ∃ (x3_1 : List Int) (x4_1 : Int), v4 = .int .i64 x4_1 ∧ Aside0 (customsref06_text.l0 kq x3_1 x4_1 a0_0 l0_1 = some r) ∧ Aside0 (kq ≤ k) ∧ Aside0 (Kd.B (Kd.int .u8) 5 w' w.heap.size (fun _ => True) v3 x3_1) ∧ Aside0 (w'.heap[gb299]? = some (.cells #[.string a0_0, (.slice A0_1 l0_1.length c0_1)] 24 (0, 0))) ∧ Aside0 (Below w.heap.size w w'))
    case atStart => exact ⟨(y300), (0), (by first | rfl | (simp; done) | (simp [*]; done)), H', ⟨Nat.le_refl _⟩, ⟨by (with_reducible repeat (first | apply Kd.B_alloc | apply Kd.B_drewN | apply Kd.B_drew)); exact HO302.out⟩, ⟨by (with_reducible repeat (first | refine blk_drewN ?_ _ | refine blk_drew ?_ | refine blk_alloc ?_ _)); exact BK299.out⟩, ⟨by repeat (first | (with_reducible first | exact HB.out | apply below_alloc | apply pw_below_drewN | apply below_drew1 | refine below_set ?_ GE299.out) | exact HB.out)⟩⟩
    case round =>
      clear H'
      try clear c2
      try clear c2b0
      try clear c2b1
      try clear p2
      try clear hcz4_0
      try clear hcz4_1
      try clear hfz4_0
      try clear hfz4_1
      obtain ⟨x3_1, x4_1, rfl, HA, HK1, HO_3, BK299, HB⟩ := hrel
      cases gk with
      | zero => exact absurd HA.out (by simp [customsref06_text.l0])
      | succ k1 =>
        have H := HA.out
        clear HA
        simp only [customsref06_text.l0] at H
        by_cases c7 : x4_1 < (l0_1.length : Int)
        · rw [if_pos c7] at H
          have c7b0 : decide (x4_1 < (l0_1.length : Int)) = true := decide_eq_true c7
          clear c7
          by_cases c8 : x3_1.length < 140737488355328
          · rw [if_pos c8] at H
            have LMc8 := Aside0.mk c8
            clear c8
            obtain ⟨y306, hy306⟩ : ∃ y_ : List Int, y_ = (x3_1 ++ [43]) := ⟨_, rfl⟩
            replace H : (customsref06_text.l1 k1 y306 x4_1 0 a0_0 l0_1) = some r := by first | (rw [hy306]; with_reducible exact H) | (have H2_ := (Option.bind_some _ _).symm.trans H; rw [hy306]; with_reducible exact H2_) | (have H2_ := (Option.bind_some _ _).symm.trans H; with_reducible exact H2_) | with_reducible exact H | (rw [hy306]; exact H) | exact H
            have Ny306 := Aside0.mk hy306
            clear hy306
            have H' := Aside0.mk H
            clear H
            have hcz9_0 : wr.cell? ⟨gb299, 0, none⟩ = some (.string a0_0) := (blk_cell BK299.out 0).trans rfl
            have hcz9_1 : wr.cell? ⟨gb299, 1, none⟩ = some (.slice A0_1 l0_1.length c0_1) := (blk_cell BK299.out 1).trans rfl
            have hfz9_0 := blk_frozen BK299.out 0
            have hfz9_1 := blk_frozen BK299.out 1
            go_wp2_with (first | ((with_reducible refine gate_builtin (b := .append) (xs := #[.tmp 18, .tmp 19]) rfl ?_); at_builtin; refine Kd.B_append (Kd.int .u8) (w0 := w) w.heap.size rfl (.tmp 18) (.tmp 19) 32 5 (.int .u8 0) 1 rfl Try.underlying32 info5 rfl (by decide) (by omega) u3 x3_1 43 [.int .u8 43] (fun _ => True) (fun _ => False) rfl rfl ?aP (fun _ hk => hk.elim) ?aF ?aO ?aB ?aS ?aL ?_; (case aP => exact rfl); (case aB => exact (by repeat (first | (with_reducible first | exact HB.out | apply below_alloc | apply pw_below_drewN | apply below_drew1 | refine below_set ?_ GE299.out) | exact HB.out))); (case aF => exact (fun _ _ => trivial)); (case aO => exact (by (with_reducible repeat (first | apply Kd.B_alloc | apply Kd.B_drewN | apply Kd.B_drew)); exact HO_3.out)); (case aS => exact (below_size (by repeat (first | (with_reducible first | exact HB.out | apply below_alloc | apply pw_below_drewN | apply below_drew1 | refine below_set ?_ GE299.out) | exact HB.out)))); (case aL => have := LMc8.out; omega); intro v307 w10 ho hb hg hat; rw [← Ny306.out] at ho; have n0_ := Aside0.mk (blk_grown (g := gb299) (o := .cells #[.string a0_0, .slice A0_1 l0_1.length c0_1] 24 (0, 0)) (by (with_reducible repeat (first | refine blk_drewN ?_ _ | refine blk_drew ?_ | refine blk_alloc ?_ _)); exact BK299.out) hg (Kd.B_ne HO_3.out BK299.out (by decide))); have n1_ := Aside0.mk (hb); have n2_ := Aside0.mk (ho); clear BK299; clear HB; clear HO_3; have BK299 := n0_; have HB := n1_; have HO308 := n2_; clear n0_ n1_ n2_; clear ho hb hg hat))
            go_loopg [3, 5] k1 (fun kq v3 v5 w' => ∃ (x3_2 : List Int) (x5_2 : Int), v5 = .int .i64 x5_2 ∧ Aside0 (customsref06_text.l1 kq x3_2 x4_1 x5_2 a0_0 l0_1 = some r) ∧ Aside0 (kq ≤ k1) ∧ Aside0 (Kd.B (Kd.int .u8) 5 w' w.heap.size (fun _ => True) v3 x3_2) ∧ Aside0 (w'.heap[gb299]? = some (.cells #[.string a0_0, (.slice A0_1 l0_1.length c0_1)] 24 (0, 0))) ∧ Aside0 (Below w.heap.size w w'))
            case atStart => exact ⟨(y306), (0), (by first | rfl | (simp; done) | (simp [*]; done)), H', ⟨Nat.le_refl _⟩, ⟨by (with_reducible repeat (first | apply Kd.B_alloc | apply Kd.B_drewN | apply Kd.B_drew)); exact HO308.out⟩, ⟨by (with_reducible repeat (first | refine blk_drewN ?_ _ | refine blk_drew ?_ | refine blk_alloc ?_ _)); exact BK299.out⟩, ⟨by repeat (first | (with_reducible first | exact HB.out | apply below_alloc | apply pw_below_drewN | apply below_drew1 | refine below_set ?_ GE299.out) | exact HB.out)⟩⟩
            case round =>
              clear H'
              try clear c2
              try clear c2b0
              try clear c2b1
              try clear p2
              try clear c7
              try clear c7b0
              try clear c8
              try clear hcz4_0
              try clear hcz4_1
              try clear hcz9_0
              try clear hcz9_1
              try clear hfz4_0
              try clear hfz4_1
              try clear hfz9_0
              try clear hfz9_1
              try clear p2
              obtain ⟨x3_2, x5_2, rfl, HA, HK2, HO_3, BK299, HB⟩ := hrel
              cases gk with
              | zero => exact absurd HA.out (by simp [customsref06_text.l1])
              | succ k2 =>
                have H := HA.out
                clear HA
                simp only [customsref06_text.l1] at H
                by_cases c11 : 0 ≤ x4_1
                · rw [if_pos c11] at H
                  have c11b0 : decide (0 ≤ x4_1) = true := decide_eq_true c11
                  clear c11
                  by_cases c12 : x4_1 < (l0_1.length : Int)
                  · rw [if_pos c12] at H
                    have c12b0 : decide (x4_1 < (l0_1.length : Int)) = true := decide_eq_true c12
                    clear c12
                    by_cases c13 : x5_2 < ((rd_L1 l0_1 x4_1).length : Int)
                    · rw [if_pos c13] at H
                      have c13b0 : decide (x5_2 < ((rd_L1 l0_1 x4_1).length : Int)) = true := decide_eq_true c13
                      clear c13
                      have HC14 := Aside0.mk H
                      clear H
                      have hcz15_0 : wr.cell? ⟨gb299, 0, none⟩ = some (.string a0_0) := (blk_cell BK299.out 0).trans rfl
                      have hcz15_1 : wr.cell? ⟨gb299, 1, none⟩ = some (.slice A0_1 l0_1.length c0_1) := (blk_cell BK299.out 1).trans rfl
                      have hfz15_0 := blk_frozen BK299.out 0
                      have hfz15_1 := blk_frozen BK299.out 1
                      have p309 : 0 ≤ (x4_1 : Int) := of_decide_eq_true (by first | (with_reducible assumption) | assumption)
                      have q309 : x4_1 < (l0_1.length : Int) := of_decide_eq_true (by first | (with_reducible assumption) | assumption)
                      obtain ⟨ad309, A309_0, c309_0, e309, hx309_0, hl309_0, hi309_0⟩ := at_L1 HR0_1.out x4_1 p309 q309
                      cases e309
                      replace hx309_0 := (HB.out.cell (World.block_lt_of_cell? w _ hx309_0)).trans hx309_0
                      have HR309_0 := Aside0.mk hi309_0
                      have HC309_0 := Aside0.mk hl309_0
                      clear hi309_0 hl309_0
                      replace p309 := eq_true p309
                      replace q309 := eq_true q309
                      go_upto_if 32 with (fail)
                      go_cut [3] (fun v3 wc => ∃ (kq : Nat) (x3_13 : List Int), Aside0 (customsref06_text.j2 kq x3_13 x4_1 x5_2 a0_0 l0_1 = some r) ∧ Aside0 (kq ≤ k2) ∧ Aside0 (Kd.B (Kd.int .u8) 5 wc w.heap.size (fun _ => True) v3 x3_13) ∧ Aside0 (wc.heap[gb299]? = some (.cells #[.string a0_0, (.slice (some ad309) l0_1.length c0_1)] 24 (0, 0))) ∧ Aside0 (Below w.heap.size w wc))
                      case first =>
                        have H := HC14.out
                        clear HC14
                        by_cases c16 : x5_2 > 0
                        · rw [if_pos c16] at H
                          have c16b0 : decide (0 < x5_2) = true := decide_eq_true c16
                          clear c16
                          (first | rw [c16b0] | (simp only [i64_w, i32_w]; rw [c16b0]) | skip)
                          by_cases c17 : x3_2.length < 140737488355328
                          · rw [if_pos c17] at H
                            have LMc17 := Aside0.mk c17
                            clear c17
                            obtain ⟨y310, hy310⟩ : ∃ y_ : List Int, y_ = (x3_2 ++ [58]) := ⟨_, rfl⟩
                            replace H : (customsref06_text.j2 k2 y310 x4_1 x5_2 a0_0 l0_1) = some r := by first | (rw [hy310]; with_reducible exact H) | (have H2_ := (Option.bind_some _ _).symm.trans H; rw [hy310]; with_reducible exact H2_) | (have H2_ := (Option.bind_some _ _).symm.trans H; with_reducible exact H2_) | with_reducible exact H | (rw [hy310]; exact H) | exact H
                            have Ny310 := Aside0.mk hy310
                            clear hy310
                            have H' := Aside0.mk H
                            clear H
                            go_wp2_with (first | ((with_reducible refine gate_builtin (b := .append) (xs := #[.tmp 33, .tmp 34]) rfl ?_); at_builtin; refine Kd.B_append (Kd.int .u8) (w0 := w) w.heap.size rfl (.tmp 33) (.tmp 34) 32 5 (.int .u8 0) 1 rfl Try.underlying32 info5 rfl (by decide) (by omega) u3 x3_2 58 [.int .u8 58] (fun _ => True) (fun _ => False) rfl rfl ?aP (fun _ hk => hk.elim) ?aF ?aO ?aB ?aS ?aL ?_; (case aP => exact rfl); (case aB => exact (by repeat (first | (with_reducible first | exact HB.out | apply below_alloc | apply pw_below_drewN | apply below_drew1 | refine below_set ?_ GE299.out) | exact HB.out))); (case aF => exact (fun _ _ => trivial)); (case aO => exact (by (with_reducible repeat (first | apply Kd.B_alloc | apply Kd.B_drewN | apply Kd.B_drew)); exact HO_3.out)); (case aS => exact (below_size (by repeat (first | (with_reducible first | exact HB.out | apply below_alloc | apply pw_below_drewN | apply below_drew1 | refine below_set ?_ GE299.out) | exact HB.out)))); (case aL => have := LMc17.out; omega); intro v311 w18 ho hb hg hat; rw [← Ny310.out] at ho; have n0_ := Aside0.mk (blk_grown (g := gb299) (o := .cells #[.string a0_0, .slice (some ad309) l0_1.length c0_1] 24 (0, 0)) (by (with_reducible repeat (first | refine blk_drewN ?_ _ | refine blk_drew ?_ | refine blk_alloc ?_ _)); exact BK299.out) hg (Kd.B_ne HO_3.out BK299.out (by decide))); have n1_ := Aside0.mk (hb); have n2_ := Aside0.mk (ho); clear BK299; clear HB; clear HO_3; have BK299 := n0_; have HB := n1_; have HO312 := n2_; clear n0_ n1_ n2_; clear ho hb hg hat))
                            go_meet
                            case rel => exact ⟨_, (y310), H', ⟨by have := HK1.out; have := HK2.out; first | omega | exact Nat.le_refl _⟩, ⟨by (with_reducible repeat (first | apply Kd.B_alloc | apply Kd.B_drewN | apply Kd.B_drew)); exact HO312.out⟩, ⟨by (with_reducible repeat (first | refine blk_drewN ?_ _ | refine blk_drew ?_ | refine blk_alloc ?_ _)); exact BK299.out⟩, ⟨by repeat (first | (with_reducible first | exact HB.out | apply below_alloc | apply pw_below_drewN | apply below_drew1 | refine below_set ?_ GE299.out) | exact HB.out)⟩⟩
                          · rw [if_neg c17] at H
                            exact absurd H (by simp)
                        · rw [if_neg c16] at H
                          have c16b0 : decide (0 < x5_2) = false := decide_eq_false c16
                          clear c16
                          (first | rw [c16b0] | (simp only [i64_w, i32_w]; rw [c16b0]) | skip)
                          have H' := Aside0.mk H
                          clear H
                          go_wp2
                          go_meet
                          case rel => exact ⟨_, (x3_2), H', ⟨by have := HK1.out; have := HK2.out; first | omega | exact Nat.le_refl _⟩, ⟨by (with_reducible repeat (first | apply Kd.B_alloc | apply Kd.B_drewN | apply Kd.B_drew)); exact HO_3.out⟩, ⟨by (with_reducible repeat (first | refine blk_drewN ?_ _ | refine blk_drew ?_ | refine blk_alloc ?_ _)); exact BK299.out⟩, ⟨by repeat (first | (with_reducible first | exact HB.out | apply below_alloc | apply pw_below_drewN | apply below_drew1 | refine below_set ?_ GE299.out) | exact HB.out)⟩⟩
                      case rest =>
                        clear HC14
                        try clear c1
                        try clear c2
                        try clear c2b0
                        try clear c2b1
                        try clear p2
                        try clear c3
                        try clear p3
                        try clear q3
                        try clear hx3
                        try clear c7
                        try clear c7b0
                        try clear c8
                        try clear c11
                        try clear c11b0
                        try clear c12
                        try clear c12b0
                        try clear c13
                        try clear c13b0
                        try clear c16
                        try clear c16b0
                        try clear c17
                        try clear hcz15_0
                        try clear hcz15_1
                        try clear hcz4_0
                        try clear hcz4_1
                        try clear hcz9_0
                        try clear hcz9_1
                        try clear hfz15_0
                        try clear hfz15_1
                        try clear hfz4_0
                        try clear hfz4_1
                        try clear hfz9_0
                        try clear hfz9_1
                        try clear hx309_0
                        try clear p2
                        try clear p309
                        try clear q309
                        obtain ⟨kq, x3_13, HA, HJ13, HO_3, BK299, HB⟩ := hcut
                        cases kq with
                        | zero => exact absurd HA.out (by simp [customsref06_text.j2])
                        | succ kj13 =>
                          have H := HA.out
                          clear HA
                          simp only [customsref06_text.j2] at H
                          by_cases c19 : 0 ≤ x4_1
                          · rw [if_pos c19] at H
                            have c19b0 : decide (0 ≤ x4_1) = true := decide_eq_true c19
                            clear c19
                            by_cases c20 : x4_1 < (l0_1.length : Int)
                            · rw [if_pos c20] at H
                              have c20b0 : decide (x4_1 < (l0_1.length : Int)) = true := decide_eq_true c20
                              clear c20
                              by_cases c21 : 0 ≤ x5_2
                              · rw [if_pos c21] at H
                                have c21b0 : decide (0 ≤ x5_2) = true := decide_eq_true c21
                                clear c21
                                by_cases c22 : x5_2 < ((rd_L1 l0_1 x4_1).length : Int)
                                · rw [if_pos c22] at H
                                  have c22b0 : decide (x5_2 < ((rd_L1 l0_1 x4_1).length : Int)) = true := decide_eq_true c22
                                  clear c22
                                  have H' := Aside0.mk H
                                  clear H
                                  have hcz23_0 : wc.cell? ⟨gb299, 0, none⟩ = some (.string a0_0) := (blk_cell BK299.out 0).trans rfl
                                  have hcz23_1 : wc.cell? ⟨gb299, 1, none⟩ = some (.slice (some ad309) l0_1.length c0_1) := (blk_cell BK299.out 1).trans rfl
                                  have hfz23_0 := blk_frozen BK299.out 0
                                  have hfz23_1 := blk_frozen BK299.out 1
                                  have p313 : 0 ≤ (x4_1 : Int) := of_decide_eq_true (by first | (with_reducible assumption) | assumption)
                                  have q313 : x4_1 < (l0_1.length : Int) := of_decide_eq_true (by first | (with_reducible assumption) | assumption)
                                  obtain ⟨ad313, A313_0, c313_0, e313, hx313_0, hl313_0, hi313_0⟩ := at_L1 HR0_1.out x4_1 p313 q313
                                  obtain rfl : ad309 = ad313 := (by injection e313)
                                  replace hx313_0 := (HB.out.cell (World.block_lt_of_cell? w _ hx313_0)).trans hx313_0
                                  have HR313_0 := Aside0.mk hi313_0
                                  have HC313_0 := Aside0.mk hl313_0
                                  clear hi313_0 hl313_0
                                  replace p313 := eq_true p313
                                  replace q313 := eq_true q313
                                  have p314 : 0 ≤ (x5_2 : Int) := of_decide_eq_true (by first | (with_reducible assumption) | assumption)
                                  have q314 : x5_2 < ((rd_L1 l0_1 x4_1).length : Int) := of_decide_eq_true (by first | (with_reducible assumption) | assumption)
                                  obtain ⟨ad314, e314, hx314_0⟩ := Kd.at_string HR313_0.out x5_2 p314 q314
                                  cases e314
                                  replace hx314_0 := (HB.out.cell (World.block_lt_of_cell? w _ hx314_0)).trans hx314_0
                                  replace p314 := eq_true p314
                                  replace q314 := eq_true q314
                                  go_wp2
                                  go_loopg [3, 7] kj13 (fun kq v3 v7 w' => ∃ (x3_4 : List Int) (x7_4 : Int), v7 = .int .i64 x7_4 ∧ Aside0 (customsref06_text.l2 kq x3_4 x4_1 x5_2 (rdOf ByteArray.empty (rd_L1 l0_1 x4_1) x5_2) x7_4 a0_0 l0_1 = some r) ∧ Aside0 (kq ≤ kj13) ∧ Aside0 (Kd.B (Kd.int .u8) 5 w' w.heap.size (fun _ => True) v3 x3_4) ∧ Aside0 (w'.heap[gb299]? = some (.cells #[.string a0_0, (.slice (some ad309) l0_1.length c0_1)] 24 (0, 0))) ∧ Aside0 (Below w.heap.size w w'))
                                  case atStart => exact ⟨(x3_13), (0), (by first | rfl | (simp; done) | (simp [*]; done)), H', ⟨Nat.le_refl _⟩, ⟨by (with_reducible repeat (first | apply Kd.B_alloc | apply Kd.B_drewN | apply Kd.B_drew)); exact HO_3.out⟩, ⟨by (with_reducible repeat (first | refine blk_drewN ?_ _ | refine blk_drew ?_ | refine blk_alloc ?_ _)); exact BK299.out⟩, ⟨by repeat (first | (with_reducible first | exact HB.out | apply below_alloc | apply pw_below_drewN | apply below_drew1 | refine below_set ?_ GE299.out) | exact HB.out)⟩⟩
                                  case round =>
                                    clear H'
                                    try clear c1
                                    try clear c2
                                    try clear c2b0
                                    try clear c2b1
                                    try clear p2
                                    try clear c3
                                    try clear p3
                                    try clear q3
                                    try clear hx3
                                    try clear c7
                                    try clear c7b0
                                    try clear c8
                                    try clear c11
                                    try clear c11b0
                                    try clear c12
                                    try clear c12b0
                                    try clear c13
                                    try clear c13b0
                                    try clear c16
                                    try clear c16b0
                                    try clear c17
                                    try clear c19
                                    try clear c19b0
                                    try clear c20
                                    try clear c20b0
                                    try clear c21
                                    try clear c21b0
                                    try clear c22
                                    try clear c22b0
                                    try clear hcz15_0
                                    try clear hcz15_1
                                    try clear hcz23_0
                                    try clear hcz23_1
                                    try clear hcz4_0
                                    try clear hcz4_1
                                    try clear hcz9_0
                                    try clear hcz9_1
                                    try clear hfz15_0
                                    try clear hfz15_1
                                    try clear hfz23_0
                                    try clear hfz23_1
                                    try clear hfz4_0
                                    try clear hfz4_1
                                    try clear hfz9_0
                                    try clear hfz9_1
                                    try clear hx309_0
                                    try clear hx313_0
                                    try clear hx314_0
                                    try clear p2
                                    try clear p3
                                    try clear p309
                                    try clear p313
                                    try clear p314
                                    try clear q3
                                    try clear q309
                                    try clear q313
                                    try clear q314
                                    obtain ⟨x3_4, x7_4, rfl, HA, HK4, HO_3, BK299, HB⟩ := hrel
                                    cases gk with
                                    | zero => exact absurd HA.out (by simp [customsref06_text.l2])
                                    | succ k4 =>
                                      have H := HA.out
                                      clear HA
                                      simp only [customsref06_text.l2] at H
                                      by_cases c24 : x7_4 < ((rdOf ByteArray.empty (rd_L1 l0_1 x4_1) x5_2).size : Int)
                                      · rw [if_pos c24] at H
                                        have c24b0 : decide (x7_4 < ((rdOf ByteArray.empty (rd_L1 l0_1 x4_1) x5_2).size : Int)) = true := decide_eq_true c24
                                        clear c24
                                        by_cases c25 : 0 ≤ x7_4
                                        · rw [if_pos c25] at H
                                          have c25b0 : decide (0 ≤ x7_4) = true := decide_eq_true c25
                                          clear c25
                                          replace H := Option.bind_eq_some_iff.mp H
                                          obtain ⟨t315, A270, H⟩ := H
                                          replace H : (if t315 = true then (if x3_4.length < 140737488355328 then ((some (x3_4 ++ [63] : List Int)).bind fun y316 => (if y316.length < 140737488355328 then (customsref06_text.l2 k4 (y316 ++ [bt (rdOf ByteArray.empty (rd_L1 l0_1 x4_1) x5_2) x7_4]) x4_1 x5_2 (rdOf ByteArray.empty (rd_L1 l0_1 x4_1) x5_2) (wrap64 (x7_4 + 1)) a0_0 l0_1) else (none))) else (none)) else (if x3_4.length < 140737488355328 then (customsref06_text.l2 k4 (x3_4 ++ [bt (rdOf ByteArray.empty (rd_L1 l0_1 x4_1) x5_2) x7_4]) x4_1 x5_2 (rdOf ByteArray.empty (rd_L1 l0_1 x4_1) x5_2) (wrap64 (x7_4 + 1)) a0_0 l0_1) else (none))) = some r := H
                                          have A27 := Aside0.mk A270
                                          clear A270
                                          by_cases c28 : t315 = true
                                          · subst c28
                                            have H1 : (if x3_4.length < 140737488355328 then ((some (x3_4 ++ [63] : List Int)).bind fun y316 => (if y316.length < 140737488355328 then (customsref06_text.l2 k4 (y316 ++ [bt (rdOf ByteArray.empty (rd_L1 l0_1 x4_1) x5_2) x7_4]) x4_1 x5_2 (rdOf ByteArray.empty (rd_L1 l0_1 x4_1) x5_2) (wrap64 (x7_4 + 1)) a0_0 l0_1) else (none))) else (none)) = some r := by rw [if_pos rfl] at H; exact H
                                            clear H
                                            have H := H1
                                            clear H1
                                            by_cases c29 : x3_4.length < 140737488355328
                                            · rw [if_pos c29] at H
                                              have LMc29 := Aside0.mk c29
                                              clear c29
                                              obtain ⟨y316, hy316⟩ : ∃ y_ : List Int, y_ = (x3_4 ++ [63]) := ⟨_, rfl⟩
                                              replace H : (if y316.length < 140737488355328 then (customsref06_text.l2 k4 (y316 ++ [bt (rdOf ByteArray.empty (rd_L1 l0_1 x4_1) x5_2) x7_4]) x4_1 x5_2 (rdOf ByteArray.empty (rd_L1 l0_1 x4_1) x5_2) (wrap64 (x7_4 + 1)) a0_0 l0_1) else (none)) = some r := by first | (rw [hy316]; with_reducible exact H) | (have H2_ := (Option.bind_some _ _).symm.trans H; rw [hy316]; with_reducible exact H2_) | (have H2_ := (Option.bind_some _ _).symm.trans H; with_reducible exact H2_) | with_reducible exact H | (rw [hy316]; exact H) | exact H
                                              have Ny316 := Aside0.mk hy316
                                              clear hy316
                                              by_cases c31 : y316.length < 140737488355328
                                              · rw [if_pos c31] at H
                                                have LMc31 := Aside0.mk c31
                                                clear c31
                                                obtain ⟨y319, hy319⟩ : ∃ y_ : List Int, y_ = (y316 ++ [bt (rdOf ByteArray.empty (rd_L1 l0_1 x4_1) x5_2) x7_4]) := ⟨_, rfl⟩
                                                replace H : (customsref06_text.l2 k4 y319 x4_1 x5_2 (rdOf ByteArray.empty (rd_L1 l0_1 x4_1) x5_2) (wrap64 (x7_4 + 1)) a0_0 l0_1) = some r := by first | (rw [hy319]; with_reducible exact H) | (have H2_ := (Option.bind_some _ _).symm.trans H; rw [hy319]; with_reducible exact H2_) | (have H2_ := (Option.bind_some _ _).symm.trans H; with_reducible exact H2_) | with_reducible exact H | (rw [hy319]; exact H) | exact H
                                                have Ny319 := Aside0.mk hy319
                                                clear hy319
                                                have H' := Aside0.mk H
                                                clear H
                                                have p26 : 0 ≤ (x7_4 : Int) := of_decide_eq_true (by first | (with_reducible assumption) | assumption)
                                                have q26 : x7_4 < ((rdOf ByteArray.empty (rd_L1 l0_1 x4_1) x5_2).size : Int) := of_decide_eq_true (by first | (with_reducible assumption) | assumption)
                                                have hx26 := bt_at (rdOf ByteArray.empty (rd_L1 l0_1 x4_1) x5_2) x7_4
                                                replace p26 := eq_true p26
                                                replace q26 := eq_true q26
                                                go_wp2_with (first | ((with_reducible refine gate_callee (f := 33) rfl ?_); refine goesL_ (some 53) rfl rfl Try.func33 (by kernel_rfl) rfl #[.int .u8 (bt (rdOf ByteArray.empty (rd_L1 l0_1 x4_1) x5_2) x7_4)] rfl (by (try simp only [List.map_toArray, List.map_cons, List.map_nil]); first | done | rfl | (simp only [List.length_drop, List.length_take]; rfl)) ?_; (with_reducible refine (customsref06_special.calls (bt (rdOf ByteArray.empty (rd_L1 l0_1 x4_1) x5_2) x7_4) true _ A27.out).mono ?_); rintro e w' ⟨rfl, ⟨nd, rfl⟩⟩; refine ⟨_, rfl, ?_⟩) | ((with_reducible refine gate_builtin (b := .append) (xs := #[.tmp 54, .tmp 55]) rfl ?_); at_builtin; refine Kd.B_append (Kd.int .u8) (w0 := w) w.heap.size rfl (.tmp 54) (.tmp 55) 32 5 (.int .u8 0) 1 rfl Try.underlying32 info5 rfl (by decide) (by omega) u3 x3_4 63 [.int .u8 63] (fun _ => True) (fun _ => False) rfl rfl ?aP (fun _ hk => hk.elim) ?aF ?aO ?aB ?aS ?aL ?_; (case aP => exact rfl); (case aB => exact (by repeat (first | (with_reducible first | exact HB.out | apply below_alloc | apply pw_below_drewN | apply below_drew1 | refine below_set ?_ GE299.out) | exact HB.out))); (case aF => exact (fun _ _ => trivial)); (case aO => exact (by (with_reducible repeat (first | apply Kd.B_alloc | apply Kd.B_drewN | apply Kd.B_drew)); exact HO_3.out)); (case aS => exact (below_size (by repeat (first | (with_reducible first | exact HB.out | apply below_alloc | apply pw_below_drewN | apply below_drew1 | refine below_set ?_ GE299.out) | exact HB.out)))); (case aL => have := LMc29.out; omega); intro v317 w32 ho hb hg hat; rw [← Ny316.out] at ho; have n0_ := Aside0.mk (blk_grown (g := gb299) (o := .cells #[.string a0_0, .slice (some ad309) l0_1.length c0_1] 24 (0, 0)) (by (with_reducible repeat (first | refine blk_drewN ?_ _ | refine blk_drew ?_ | refine blk_alloc ?_ _)); exact BK299.out) hg (Kd.B_ne HO_3.out BK299.out (by decide))); have n1_ := Aside0.mk (hb); have n2_ := Aside0.mk (ho); clear BK299; clear HB; clear HO_3; have BK299 := n0_; have HB := n1_; have HO318 := n2_; clear n0_ n1_ n2_; clear ho hb hg hat; have p30 : 0 ≤ (x7_4 : Int) := of_decide_eq_true (by first | (with_reducible assumption) | assumption); have q30 : x7_4 < ((rdOf ByteArray.empty (rd_L1 l0_1 x4_1) x5_2).size : Int) := of_decide_eq_true (by first | (with_reducible assumption) | assumption); have hx30 := bt_at (rdOf ByteArray.empty (rd_L1 l0_1 x4_1) x5_2) x7_4; replace p30 := eq_true p30; replace q30 := eq_true q30) | ((with_reducible refine gate_builtin (b := .append) (xs := #[.tmp 57, .tmp 61]) rfl ?_); at_builtin; refine Kd.B_append (Kd.int .u8) (w0 := w) w.heap.size rfl (.tmp 57) (.tmp 61) 32 5 (.int .u8 0) 1 rfl Try.underlying32 info5 rfl (by decide) (by omega) v317 y316 (bt (rdOf ByteArray.empty (rd_L1 l0_1 x4_1) x5_2) x7_4) [.int .u8 (bt (rdOf ByteArray.empty (rd_L1 l0_1 x4_1) x5_2) x7_4)] (fun _ => True) (fun _ => False) rfl rfl ?aP (fun _ hk => hk.elim) ?aF ?aO ?aB ?aS ?aL ?_; (case aP => exact rfl); (case aB => exact (by repeat (first | (with_reducible first | exact HB.out | apply below_alloc | apply pw_below_drewN | apply below_drew1 | refine below_set ?_ GE299.out) | exact HB.out))); (case aF => exact (fun _ _ => trivial)); (case aO => exact (by (with_reducible repeat (first | apply Kd.B_alloc | apply Kd.B_drewN | apply Kd.B_drew)); exact HO318.out)); (case aS => exact (below_size (by repeat (first | (with_reducible first | exact HB.out | apply below_alloc | apply pw_below_drewN | apply below_drew1 | refine below_set ?_ GE299.out) | exact HB.out)))); (case aL => have := LMc31.out; omega); intro v320 w33 ho hb hg hat; rw [← Ny319.out] at ho; have n0_ := Aside0.mk (blk_grown (g := gb299) (o := .cells #[.string a0_0, .slice (some ad309) l0_1.length c0_1] 24 (0, 0)) (by (with_reducible repeat (first | refine blk_drewN ?_ _ | refine blk_drew ?_ | refine blk_alloc ?_ _)); exact BK299.out) hg (Kd.B_ne HO318.out BK299.out (by decide))); have n1_ := Aside0.mk (hb); have n2_ := Aside0.mk (ho); clear BK299; clear HB; clear HO318; have BK299 := n0_; have HB := n1_; have HO321 := n2_; clear n0_ n1_ n2_; clear ho hb hg hat))
                                                go_roundg k4
                                                case measure => have := HK1.out; have := HK2.out; have := HJ13.out; have := HK4.out; omega
                                                case rel => exact ⟨(y319), (wrap64 (x7_4 + 1)), (by first | rfl | (simp; done) | (simp [*]; done)), H', ⟨by have := HK1.out; have := HK2.out; have := HJ13.out; have := HK4.out; omega⟩, ⟨by (with_reducible repeat (first | apply Kd.B_alloc | apply Kd.B_drewN | apply Kd.B_drew)); exact HO321.out⟩, ⟨by (with_reducible repeat (first | refine blk_drewN ?_ _ | refine blk_drew ?_ | refine blk_alloc ?_ _)); exact BK299.out⟩, ⟨by repeat (first | (with_reducible first | exact HB.out | apply below_alloc | apply pw_below_drewN | apply below_drew1 | refine below_set ?_ GE299.out) | exact HB.out)⟩⟩
                                              · rw [if_neg c31] at H
                                                exact absurd H (by simp)
                                            · rw [if_neg c29] at H
                                              exact absurd H (by simp)
                                          · replace c28 := Bool.eq_false_iff.mpr c28
                                            subst c28
                                            have H1 : (if x3_4.length < 140737488355328 then (customsref06_text.l2 k4 (x3_4 ++ [bt (rdOf ByteArray.empty (rd_L1 l0_1 x4_1) x5_2) x7_4]) x4_1 x5_2 (rdOf ByteArray.empty (rd_L1 l0_1 x4_1) x5_2) (wrap64 (x7_4 + 1)) a0_0 l0_1) else (none)) = some r := by rw [if_neg (show ¬ (false = true) by decide)] at H; exact H
                                            clear H
                                            have H := H1
                                            clear H1
                                            by_cases c35 : x3_4.length < 140737488355328
                                            · rw [if_pos c35] at H
                                              have LMc35 := Aside0.mk c35
                                              clear c35
                                              obtain ⟨y322, hy322⟩ : ∃ y_ : List Int, y_ = (x3_4 ++ [bt (rdOf ByteArray.empty (rd_L1 l0_1 x4_1) x5_2) x7_4]) := ⟨_, rfl⟩
                                              replace H : (customsref06_text.l2 k4 y322 x4_1 x5_2 (rdOf ByteArray.empty (rd_L1 l0_1 x4_1) x5_2) (wrap64 (x7_4 + 1)) a0_0 l0_1) = some r := by first | (rw [hy322]; with_reducible exact H) | (have H2_ := (Option.bind_some _ _).symm.trans H; rw [hy322]; with_reducible exact H2_) | (have H2_ := (Option.bind_some _ _).symm.trans H; with_reducible exact H2_) | with_reducible exact H | (rw [hy322]; exact H) | exact H
                                              have Ny322 := Aside0.mk hy322
                                              clear hy322
                                              have H' := Aside0.mk H
                                              clear H
                                              have p26 : 0 ≤ (x7_4 : Int) := of_decide_eq_true (by first | (with_reducible assumption) | assumption)
                                              have q26 : x7_4 < ((rdOf ByteArray.empty (rd_L1 l0_1 x4_1) x5_2).size : Int) := of_decide_eq_true (by first | (with_reducible assumption) | assumption)
                                              have hx26 := bt_at (rdOf ByteArray.empty (rd_L1 l0_1 x4_1) x5_2) x7_4
                                              replace p26 := eq_true p26
                                              replace q26 := eq_true q26
                                              go_wp2_with (first | ((with_reducible refine gate_callee (f := 33) rfl ?_); refine goesL_ (some 53) rfl rfl Try.func33 (by kernel_rfl) rfl #[.int .u8 (bt (rdOf ByteArray.empty (rd_L1 l0_1 x4_1) x5_2) x7_4)] rfl (by (try simp only [List.map_toArray, List.map_cons, List.map_nil]); first | done | rfl | (simp only [List.length_drop, List.length_take]; rfl)) ?_; (with_reducible refine (customsref06_special.calls (bt (rdOf ByteArray.empty (rd_L1 l0_1 x4_1) x5_2) x7_4) false _ A27.out).mono ?_); rintro e w' ⟨rfl, ⟨nd, rfl⟩⟩; refine ⟨_, rfl, ?_⟩; have p34 : 0 ≤ (x7_4 : Int) := of_decide_eq_true (by first | (with_reducible assumption) | assumption); have q34 : x7_4 < ((rdOf ByteArray.empty (rd_L1 l0_1 x4_1) x5_2).size : Int) := of_decide_eq_true (by first | (with_reducible assumption) | assumption); have hx34 := bt_at (rdOf ByteArray.empty (rd_L1 l0_1 x4_1) x5_2) x7_4; replace p34 := eq_true p34; replace q34 := eq_true q34) | ((with_reducible refine gate_builtin (b := .append) (xs := #[.tmp 57, .tmp 61]) rfl ?_); at_builtin; refine Kd.B_append (Kd.int .u8) (w0 := w) w.heap.size rfl (.tmp 57) (.tmp 61) 32 5 (.int .u8 0) 1 rfl Try.underlying32 info5 rfl (by decide) (by omega) u3 x3_4 (bt (rdOf ByteArray.empty (rd_L1 l0_1 x4_1) x5_2) x7_4) [.int .u8 (bt (rdOf ByteArray.empty (rd_L1 l0_1 x4_1) x5_2) x7_4)] (fun _ => True) (fun _ => False) rfl rfl ?aP (fun _ hk => hk.elim) ?aF ?aO ?aB ?aS ?aL ?_; (case aP => exact rfl); (case aB => exact (by repeat (first | (with_reducible first | exact HB.out | apply below_alloc | apply pw_below_drewN | apply below_drew1 | refine below_set ?_ GE299.out) | exact HB.out))); (case aF => exact (fun _ _ => trivial)); (case aO => exact (by (with_reducible repeat (first | apply Kd.B_alloc | apply Kd.B_drewN | apply Kd.B_drew)); exact HO_3.out)); (case aS => exact (below_size (by repeat (first | (with_reducible first | exact HB.out | apply below_alloc | apply pw_below_drewN | apply below_drew1 | refine below_set ?_ GE299.out) | exact HB.out)))); (case aL => have := LMc35.out; omega); intro v323 w36 ho hb hg hat; rw [← Ny322.out] at ho; have n0_ := Aside0.mk (blk_grown (g := gb299) (o := .cells #[.string a0_0, .slice (some ad309) l0_1.length c0_1] 24 (0, 0)) (by (with_reducible repeat (first | refine blk_drewN ?_ _ | refine blk_drew ?_ | refine blk_alloc ?_ _)); exact BK299.out) hg (Kd.B_ne HO_3.out BK299.out (by decide))); have n1_ := Aside0.mk (hb); have n2_ := Aside0.mk (ho); clear BK299; clear HB; clear HO_3; have BK299 := n0_; have HB := n1_; have HO324 := n2_; clear n0_ n1_ n2_; clear ho hb hg hat))
                                              go_roundg k4
                                              case measure => have := HK1.out; have := HK2.out; have := HJ13.out; have := HK4.out; omega
                                              case rel => exact ⟨(y322), (wrap64 (x7_4 + 1)), (by first | rfl | (simp; done) | (simp [*]; done)), H', ⟨by have := HK1.out; have := HK2.out; have := HJ13.out; have := HK4.out; omega⟩, ⟨by (with_reducible repeat (first | apply Kd.B_alloc | apply Kd.B_drewN | apply Kd.B_drew)); exact HO324.out⟩, ⟨by (with_reducible repeat (first | refine blk_drewN ?_ _ | refine blk_drew ?_ | refine blk_alloc ?_ _)); exact BK299.out⟩, ⟨by repeat (first | (with_reducible first | exact HB.out | apply below_alloc | apply pw_below_drewN | apply below_drew1 | refine below_set ?_ GE299.out) | exact HB.out)⟩⟩
                                            · rw [if_neg c35] at H
                                              exact absurd H (by simp)
                                        · rw [if_neg c25] at H
                                          exact absurd H (by simp)
                                      · rw [if_neg c24] at H
                                        have c24b0 : decide (x7_4 < ((rdOf ByteArray.empty (rd_L1 l0_1 x4_1) x5_2).size : Int)) = false := decide_eq_false c24
                                        clear c24
                                        have H' := Aside0.mk H
                                        clear H
                                        go_wp2
                                        go_roundg k4
                                        case measure => have := HK1.out; have := HK2.out; have := HJ13.out; have := HK4.out; omega
                                        case rel => exact ⟨(x3_4), (wrap64 (x5_2 + 1)), (by first | rfl | (simp; done) | (simp [*]; done)), H', ⟨by have := HK1.out; have := HK2.out; have := HJ13.out; have := HK4.out; omega⟩, ⟨by (with_reducible repeat (first | apply Kd.B_alloc | apply Kd.B_drewN | apply Kd.B_drew)); exact HO_3.out⟩, ⟨by (with_reducible repeat (first | refine blk_drewN ?_ _ | refine blk_drew ?_ | refine blk_alloc ?_ _)); exact BK299.out⟩, ⟨by repeat (first | (with_reducible first | exact HB.out | apply below_alloc | apply pw_below_drewN | apply below_drew1 | refine below_set ?_ GE299.out) | exact HB.out)⟩⟩
                                · rw [if_neg c22] at H
                                  exact absurd H (by simp)
                              · rw [if_neg c21] at H
                                exact absurd H (by simp)
                            · rw [if_neg c20] at H
                              exact absurd H (by simp)
                          · rw [if_neg c19] at H
                            exact absurd H (by simp)
                    · rw [if_neg c13] at H
                      have c13b0 : decide (x5_2 < ((rd_L1 l0_1 x4_1).length : Int)) = false := decide_eq_false c13
                      clear c13
                      have H' := Aside0.mk H
                      clear H
                      have hcz37_0 : wr.cell? ⟨gb299, 0, none⟩ = some (.string a0_0) := (blk_cell BK299.out 0).trans rfl
                      have hcz37_1 : wr.cell? ⟨gb299, 1, none⟩ = some (.slice A0_1 l0_1.length c0_1) := (blk_cell BK299.out 1).trans rfl
                      have hfz37_0 := blk_frozen BK299.out 0
                      have hfz37_1 := blk_frozen BK299.out 1
                      have p309 : 0 ≤ (x4_1 : Int) := of_decide_eq_true (by first | (with_reducible assumption) | assumption)
                      have q309 : x4_1 < (l0_1.length : Int) := of_decide_eq_true (by first | (with_reducible assumption) | assumption)
                      obtain ⟨ad309, A309_0, c309_0, e309, hx309_0, hl309_0, hi309_0⟩ := at_L1 HR0_1.out x4_1 p309 q309
                      cases e309
                      replace hx309_0 := (HB.out.cell (World.block_lt_of_cell? w _ hx309_0)).trans hx309_0
                      have HR309_0 := Aside0.mk hi309_0
                      have HC309_0 := Aside0.mk hl309_0
                      clear hi309_0 hl309_0
                      replace p309 := eq_true p309
                      replace q309 := eq_true q309
                      go_wp2
                      go_roundg k2
                      case measure => have := HK1.out; have := HK2.out; omega
                      case rel => exact ⟨(x3_2), (wrap64 (x4_1 + 1)), (by first | rfl | (simp; done) | (simp [*]; done)), H', ⟨by have := HK1.out; have := HK2.out; omega⟩, ⟨by (with_reducible repeat (first | apply Kd.B_alloc | apply Kd.B_drewN | apply Kd.B_drew)); exact HO_3.out⟩, ⟨by (with_reducible repeat (first | refine blk_drewN ?_ _ | refine blk_drew ?_ | refine blk_alloc ?_ _)); exact BK299.out⟩, ⟨by repeat (first | (with_reducible first | exact HB.out | apply below_alloc | apply pw_below_drewN | apply below_drew1 | refine below_set ?_ GE299.out) | exact HB.out)⟩⟩
                  · rw [if_neg c12] at H
                    exact absurd H (by simp)
                · rw [if_neg c11] at H
                  exact absurd H (by simp)
          · rw [if_neg c8] at H
            exact absurd H (by simp)
        · rw [if_neg c7] at H
          have c7b0 : decide (x4_1 < (l0_1.length : Int)) = false := decide_eq_false c7
          clear c7
          by_cases c38 : x3_1.length < 140737488355328
          · rw [if_pos c38] at H
            have LMc38 := Aside0.mk c38
            clear c38
            obtain ⟨y303, hy303⟩ : ∃ y_ : List Int, y_ = (x3_1 ++ [39]) := ⟨_, rfl⟩
            replace H : (some (strOfNums y303)) = some r := by first | (rw [hy303]; with_reducible exact H) | (have H2_ := (Option.bind_some _ _).symm.trans H; rw [hy303]; with_reducible exact H2_) | (have H2_ := (Option.bind_some _ _).symm.trans H; with_reducible exact H2_) | with_reducible exact H | (rw [hy303]; exact H) | exact H
            have Ny303 := Aside0.mk hy303
            clear hy303
            obtain rfl := Option.some.inj H
            have hcz39_0 : wr.cell? ⟨gb299, 0, none⟩ = some (.string a0_0) := (blk_cell BK299.out 0).trans rfl
            have hcz39_1 : wr.cell? ⟨gb299, 1, none⟩ = some (.slice A0_1 l0_1.length c0_1) := (blk_cell BK299.out 1).trans rfl
            have hfz39_0 := blk_frozen BK299.out 0
            have hfz39_1 := blk_frozen BK299.out 1
            go_wp2_with (first | ((with_reducible refine gate_builtin (b := .append) (xs := #[.tmp 63, .tmp 64]) rfl ?_); at_builtin; refine Kd.B_append (Kd.int .u8) (w0 := w) w.heap.size rfl (.tmp 63) (.tmp 64) 32 5 (.int .u8 0) 1 rfl Try.underlying32 info5 rfl (by decide) (by omega) u3 x3_1 39 [.int .u8 39] (fun _ => True) (fun _ => False) rfl rfl ?aP (fun _ hk => hk.elim) ?aF ?aO ?aB ?aS ?aL ?_; (case aP => exact rfl); (case aB => exact (by repeat (first | (with_reducible first | exact HB.out | apply below_alloc | apply pw_below_drewN | apply below_drew1 | refine below_set ?_ GE299.out) | exact HB.out))); (case aF => exact (fun _ _ => trivial)); (case aO => exact (by (with_reducible repeat (first | apply Kd.B_alloc | apply Kd.B_drewN | apply Kd.B_drew)); exact HO_3.out)); (case aS => exact (below_size (by repeat (first | (with_reducible first | exact HB.out | apply below_alloc | apply pw_below_drewN | apply below_drew1 | refine below_set ?_ GE299.out) | exact HB.out)))); (case aL => have := LMc38.out; omega); intro v304 w40 ho hb hg hat; rw [← Ny303.out] at ho; have n0_ := Aside0.mk (blk_grown (g := gb299) (o := .cells #[.string a0_0, .slice A0_1 l0_1.length c0_1] 24 (0, 0)) (by (with_reducible repeat (first | refine blk_drewN ?_ _ | refine blk_drew ?_ | refine blk_alloc ?_ _)); exact BK299.out) hg (Kd.B_ne HO_3.out BK299.out (by decide))); have n1_ := Aside0.mk (hb); have n2_ := Aside0.mk (ho); clear BK299; clear HB; clear HO_3; have BK299 := n0_; have HB := n1_; have HO305 := n2_; clear n0_ n1_ n2_; clear ho hb hg hat; have hcv41 := Kd.B_string (P := Try.prog) Try.underlying32 Try.underlying5 Try.underlying9 (HO305.out)))
            go_ret
            exact ⟨by first | rfl | (simp [errW_none, errW_some] <;> rfl) | (simp [*, errW_none, errW_some] <;> rfl), by repeat (first | (with_reducible first | exact HB.out | apply below_alloc | apply pw_below_drewN | apply below_drew1 | refine below_set ?_ GE299.out) | exact HB.out)⟩
          · rw [if_neg c38] at H
            exact absurd H (by simp)
  · rw [if_neg c2] at H
    exact absurd H (by simp)

end Go.Proofs.Ythdahpnjiighfaa.F
