-- printed by this session's own copy of a printing program, out of the translation
import Derived.Test.YthdahpnjiighfaaF0
import Derived.Test.YthdahpnjiighfaaF5
namespace Go.Proofs.Ythdahpnjiighfaa.F
open Go.RowKit Go.Proofs.YthdahpnjiighfaaW.PrintWords Go.Proofs.YthdahpnjiighfaaW.PrintLast Go.Proofs.YthdahpnjiighfaaW.PrintMore
attribute [local go_sem] max2_int min2_int max_two min_two max_three min_three max_four min_four   -- for this text's walks alone
set_option linter.unusedVariables false
set_option linter.unusedSimpArgs false

/-! ### segment_put: function 27 -/
mutual
def segment_put.l0 : Nat → List Int → List (List ByteArray) → Int → Int → Option (List Int)
  | 0, _, _, _, _ => none
  | k + 1, x0, x15, x16, x17 => if x17 < x16 then (if 0 ≤ x17 then (if x17 < (x15.length : Int) then (if x0.length < 140737488355328 then (segment_put.l1 k (x0 ++ [43]) x15 x16 x17 (rd_L1 x15 x17) ((rd_L1 x15 x17).length : Int) 0) else (none)) else (none)) else (none)) else (if x0.length < 140737488355328 then (some (x0 ++ [39])) else (none))
def segment_put.l1 : Nat → List Int → List (List ByteArray) → Int → Int → List ByteArray → Int → Int → Option (List Int)
  | 0, _, _, _, _, _, _, _ => none
  | k + 1, x0, x15, x16, x17, x24, x25, x26 => if x26 < x25 then (if 0 ≤ x26 then (if x26 < (x24.length : Int) then (if x26 > 0 then (if x0.length < 140737488355328 then (segment_put.j2 k (x0 ++ [58]) (rdOf ByteArray.empty x24 x26) x15 x16 x17 x24 x25 x26) else (none)) else (segment_put.j2 k x0 (rdOf ByteArray.empty x24 x26) x15 x16 x17 x24 x25 x26)) else (none)) else (none)) else (segment_put.l0 k x0 x15 x16 (wrap64 (x17 + 1)))
def segment_put.j2 : Nat → List Int → ByteArray → List (List ByteArray) → Int → Int → List ByteArray → Int → Int → Option (List Int)
  | 0, _, _, _, _, _, _, _, _ => none
  | k + 1, x0, x8, x15, x16, x17, x24, x25, x26 => segment_put.l2 k x0 x8 x15 x16 x17 x24 x25 x26 (x8.size : Int) 0
def segment_put.l2 : Nat → List Int → ByteArray → List (List ByteArray) → Int → Int → List ByteArray → Int → Int → Int → Int → Option (List Int)
  | 0, _, _, _, _, _, _, _, _, _, _ => none
  | k + 1, x0, x8, x15, x16, x17, x24, x25, x26, x37, x38 => if x38 < x37 then (if 0 ≤ x38 then (if x38 < (x8.size : Int) then ((segment_special.f (bt x8 x38)).bind fun t135 => (if t135 = true then (if x0.length < 140737488355328 then ((some (x0 ++ [63] : List Int)).bind fun y136 => (if y136.length < 140737488355328 then (segment_put.l2 k (y136 ++ [bt x8 x38]) x8 x15 x16 x17 x24 x25 x26 x37 (wrap64 (x38 + 1))) else (none))) else (none)) else (if x0.length < 140737488355328 then (segment_put.l2 k (x0 ++ [bt x8 x38]) x8 x15 x16 x17 x24 x25 x26 x37 (wrap64 (x38 + 1))) else (none)))) else (none)) else (none)) else (segment_put.l1 k x0 x15 x16 x17 x24 x25 (wrap64 (x26 + 1)))
end
def segment_put.f (k : Nat) (l0 : List Int) (a1_0 : ByteArray) (l1_1 : List (List ByteArray)) : Option (List Int) := if l0.length + a1_0.size < 140737488355328 then (segment_put.l0 k (l0 ++ bytesOf a1_0) l1_1 (l1_1.length : Int) 0) else (none)
theorem segment_put.mono_l : ∀ k, (∀ y0 y1 y2 y3, LeO (segment_put.l0 k y0 y1 y2 y3) (segment_put.l0 (k + 1) y0 y1 y2 y3)) ∧ (∀ y0 y1 y2 y3 y4 y5 y6, LeO (segment_put.l1 k y0 y1 y2 y3 y4 y5 y6) (segment_put.l1 (k + 1) y0 y1 y2 y3 y4 y5 y6)) ∧ (∀ y0 y1 y2 y3 y4 y5 y6 y7, LeO (segment_put.j2 k y0 y1 y2 y3 y4 y5 y6 y7) (segment_put.j2 (k + 1) y0 y1 y2 y3 y4 y5 y6 y7)) ∧ (∀ y0 y1 y2 y3 y4 y5 y6 y7 y8 y9, LeO (segment_put.l2 k y0 y1 y2 y3 y4 y5 y6 y7 y8 y9) (segment_put.l2 (k + 1) y0 y1 y2 y3 y4 y5 y6 y7 y8 y9))
  | 0 => ⟨fun _ _ _ _ r h => by simp [segment_put.l0] at h, fun _ _ _ _ _ _ _ r h => by simp [segment_put.l1] at h, fun _ _ _ _ _ _ _ _ r h => by simp [segment_put.j2] at h, fun _ _ _ _ _ _ _ _ _ _ r h => by simp [segment_put.l2] at h⟩
  | k + 1 => by
    obtain ⟨ih0, ih1, ih2, ih3⟩ := segment_put.mono_l k
    refine ⟨?_, ?_, ?_, ?_⟩
    · intro y0 y1 y2 y3
      unfold segment_put.l0
      repeat' first
      | (with_reducible exact ih0 _ _ _ _)
      | (with_reducible exact ih1 _ _ _ _ _ _ _)
      | (with_reducible exact ih2 _ _ _ _ _ _ _ _)
      | (with_reducible exact ih3 _ _ _ _ _ _ _ _ _ _)
      | (with_reducible exact LeO.refl _)
      | (with_reducible exact LeO.none _)
      | (with_reducible refine LeO.ite ?_ ?_)
      | (with_reducible refine LeO.bind ?_ (fun _ => ?_))
      | exact ih0 _ _ _ _
      | exact ih1 _ _ _ _ _ _ _
      | exact ih2 _ _ _ _ _ _ _ _
      | exact ih3 _ _ _ _ _ _ _ _ _ _
      | exact LeO.none _
      | refine LeO.ite ?_ ?_
      | refine LeO.bind ?_ (fun _ => ?_)
    · intro y0 y1 y2 y3 y4 y5 y6
      unfold segment_put.l1
      repeat' first
      | (with_reducible exact ih0 _ _ _ _)
      | (with_reducible exact ih1 _ _ _ _ _ _ _)
      | (with_reducible exact ih2 _ _ _ _ _ _ _ _)
      | (with_reducible exact ih3 _ _ _ _ _ _ _ _ _ _)
      | (with_reducible exact LeO.refl _)
      | (with_reducible exact LeO.none _)
      | (with_reducible refine LeO.ite ?_ ?_)
      | (with_reducible refine LeO.bind ?_ (fun _ => ?_))
      | exact ih0 _ _ _ _
      | exact ih1 _ _ _ _ _ _ _
      | exact ih2 _ _ _ _ _ _ _ _
      | exact ih3 _ _ _ _ _ _ _ _ _ _
      | exact LeO.none _
      | refine LeO.ite ?_ ?_
      | refine LeO.bind ?_ (fun _ => ?_)
    · intro y0 y1 y2 y3 y4 y5 y6 y7
      unfold segment_put.j2
      repeat' first
      | (with_reducible exact ih0 _ _ _ _)
      | (with_reducible exact ih1 _ _ _ _ _ _ _)
      | (with_reducible exact ih2 _ _ _ _ _ _ _ _)
      | (with_reducible exact ih3 _ _ _ _ _ _ _ _ _ _)
      | (with_reducible exact LeO.refl _)
      | (with_reducible exact LeO.none _)
      | (with_reducible refine LeO.ite ?_ ?_)
      | (with_reducible refine LeO.bind ?_ (fun _ => ?_))
      | exact ih0 _ _ _ _
      | exact ih1 _ _ _ _ _ _ _
      | exact ih2 _ _ _ _ _ _ _ _
      | exact ih3 _ _ _ _ _ _ _ _ _ _
      | exact LeO.none _
      | refine LeO.ite ?_ ?_
      | refine LeO.bind ?_ (fun _ => ?_)
    · intro y0 y1 y2 y3 y4 y5 y6 y7 y8 y9
      unfold segment_put.l2
      repeat' first
      | (with_reducible exact ih0 _ _ _ _)
      | (with_reducible exact ih1 _ _ _ _ _ _ _)
      | (with_reducible exact ih2 _ _ _ _ _ _ _ _)
      | (with_reducible exact ih3 _ _ _ _ _ _ _ _ _ _)
      | (with_reducible exact LeO.refl _)
      | (with_reducible exact LeO.none _)
      | (with_reducible refine LeO.ite ?_ ?_)
      | (with_reducible refine LeO.bind ?_ (fun _ => ?_))
      | exact ih0 _ _ _ _
      | exact ih1 _ _ _ _ _ _ _
      | exact ih2 _ _ _ _ _ _ _ _
      | exact ih3 _ _ _ _ _ _ _ _ _ _
      | exact LeO.none _
      | refine LeO.ite ?_ ?_
      | refine LeO.bind ?_ (fun _ => ?_)
theorem segment_put.mono : ∀ a0 a1 a2 k, LeO (segment_put.f k a0 a1 a2) (segment_put.f (k + 1) a0 a1 a2) := by
  intro a0 a1 a2 k
  obtain ⟨ih0, ih1, ih2, ih3⟩ := segment_put.mono_l k
  unfold segment_put.f
  repeat' first
      | (with_reducible exact ih0 _ _ _ _)
      | (with_reducible exact ih1 _ _ _ _ _ _ _)
      | (with_reducible exact ih2 _ _ _ _ _ _ _ _)
      | (with_reducible exact ih3 _ _ _ _ _ _ _ _ _ _)
      | (with_reducible exact LeO.refl _)
      | (with_reducible exact LeO.none _)
      | (with_reducible refine LeO.ite ?_ ?_)
      | (with_reducible refine LeO.bind ?_ (fun _ => ?_))
      | exact ih0 _ _ _ _
      | exact ih1 _ _ _ _ _ _ _
      | exact ih2 _ _ _ _ _ _ _ _
      | exact ih3 _ _ _ _ _ _ _ _ _ _
      | exact LeO.none _
      | refine LeO.ite ?_ ?_
      | refine LeO.bind ?_ (fun _ => ?_)
set_option maxHeartbeats 8000000 in
set_option maxRecDepth 100000 in
theorem segment_put.calls (k : Nat) (P0_ : Nat → Prop) (u9000_ : Value) (l0 : List Int) (a1_0 : ByteArray) (A1_1 : Option Addr) (c1_1 : Nat) (l1_1 : List (List ByteArray)) (r : List Int) (w0 w : World) (hB : Below w0.heap.size w0 w) (ho0 : Kd.R (Kd.int .u8) 5 w w0.heap.size P0_ u9000_ l0) (hr1_1 : ∀ W_, Kept w W_ (fun k_ => P0_ k_) → Kd.C (Kd.slice 9 Kd.string) W_ A1_1 l1_1.length l1_1) (hc1_1 : l1_1.length ≤ c1_1) (h : segment_put.f k l0 a1_0 l1_1 = some r) :
    Calls Try.prog 27 #[u9000_, .agg #[.string a1_0, .slice A1_1 l1_1.length c1_1]] w fun e w' => ∃ v0_ : Value, e = .returned (v0_) ∧ Kd.R (Kd.int .u8) 5 w' w0.heap.size (fun k_ => (P0_ k_ ∨ w.heap.size ≤ k_)) v0_ r ∧ Below w0.heap.size w0 w' ∧ Kept w w' (fun k_ => P0_ k_) := by
  have hu24 := Try.underlying24
  have HO0 := Aside0.mk (show Kd.R (Kd.int .u8) 5 w w0.heap.size (fun k_ => (P0_ k_ ∨ w.heap.size ≤ k_)) u9000_ l0 from Kd.R_mono ho0 (fun k_ hk => (.inl hk)))
  have HR1_1 := Aside0.mk hr1_1
  have HC1_1 := Aside0.mk hc1_1
  clear hr1_1 hc1_1
  have HK := Aside0.mk (Kept.refl w (fun k_ => P0_ k_))
  have HW0 := Aside0.mk hB.size
  have HB := Aside0.mk hB
  clear hB
  have H : (if l0.length + a1_0.size < 140737488355328 then (segment_put.l0 k (l0 ++ bytesOf a1_0) l1_1 (l1_1.length : Int) 0) else (none)) = some r := h
  clear h
  by_cases c3 : l0.length + a1_0.size < 140737488355328
  · rw [if_pos c3] at H
    have LMc3 := Aside0.mk c3
    clear c3
    obtain ⟨y121, hy121⟩ : ∃ y_ : List Int, y_ = (l0 ++ bytesOf a1_0) := ⟨_, rfl⟩
    replace H : (segment_put.l0 k y121 l1_1 (l1_1.length : Int) 0) = some r := by first | (rw [hy121]; with_reducible exact H) | (have H2_ := (Option.bind_some _ _).symm.trans H; rw [hy121]; with_reducible exact H2_) | (have H2_ := (Option.bind_some _ _).symm.trans H; with_reducible exact H2_) | with_reducible exact H | (rw [hy121]; exact H) | exact H
    have Ny121 := Aside0.mk hy121
    clear hy121
    have H' := Aside0.mk H
    clear H
    go_enter Try.func27, Try.ntmps27
    go_wp2_with (first | ((with_reducible refine gate_dst (N := 3) rfl ?_); refine box_event ?hg (N := 3) ?hd (cs := #[.string a1_0, .slice A1_1 l1_1.length c1_1]) (t := 24) ?hr ?_; (case hd => rfl); (case hg => rfl); (case hr => first | (go_simp; done) | (go_simp; rfl)); intro gb120 hg w4 hbox hb; have n0_ := Aside0.mk (Kd.R_below (by (with_reducible repeat (first | apply Kd.R_alloc | apply Kd.R_drewN | apply Kd.R_drew)); exact HO0.out) hb); have n1_ := Aside0.mk (Kept.below (S := (fun k_ => P0_ k_)) (by repeat (first | (with_reducible first | exact HK.out | apply Kept.alloc | apply Kept.drewN | apply Kept.drew) | exact HK.out)) hb); have n2_ := Aside0.mk (below_step (by repeat (first | (with_reducible first | exact HB.out | apply below_alloc | apply pw_below_drewN | apply below_drew1) | exact HB.out)) hb); have n3_ := Aside0.mk (hbox); have n4_ := Aside0.mk ((by rw [hg]; exact (by first | exact HK.out.1 | exact (show Kept w _ (fun k_ => P0_ k_) from by repeat (first | (with_reducible first | exact HK.out | apply Kept.alloc | apply Kept.drewN | apply Kept.drew) | exact HK.out)).1) : w.heap.size ≤ gb120)); have n5_ := Aside0.mk ((by rw [hg]; exact (below_size (by repeat (first | (with_reducible first | exact HB.out | apply below_alloc | apply pw_below_drewN | apply below_drew1) | exact HB.out))) : w0.heap.size ≤ gb120)); clear HO0; clear HK; clear HB; have HO0 := n0_; have HK := n1_; have HB := n2_; have BK120 := n3_; have GW120 := n4_; have GE120 := n5_; clear n0_ n1_ n2_ n3_ n4_ n5_; clear hb hbox hg; have hcz5_0 : w4.cell? ⟨gb120, 0, none⟩ = some (.string a1_0) := (blk_cell BK120.out 0).trans rfl; have hcz5_1 : w4.cell? ⟨gb120, 1, none⟩ = some (.slice A1_1 l1_1.length c1_1) := (blk_cell BK120.out 1).trans rfl; have hfz5_0 := blk_frozen BK120.out 0; have hfz5_1 := blk_frozen BK120.out 1) | (at_builtin; refine Kd.R_append_str (w0 := w0) w0.heap.size rfl (.tmp 10) _ 32 9 5 rfl Try.underlying32 Try.underlying9 info5 u9000_ l0 a1_0 (fun k_ => (P0_ k_ ∨ w.heap.size ≤ k_)) rfl rfl ?aF ?aO ?aB ?aS ?aL ?_; (case aB => exact (by repeat (first | (with_reducible first | exact HB.out | apply below_alloc | apply pw_below_drewN | apply below_drew1 | refine below_set ?_ GE120.out) | exact HB.out))); (case aF => exact (fun k_ hk => (.inr (Nat.le_trans (by first | exact HK.out.1 | exact (show Kept w _ (fun k_ => P0_ k_) from by repeat (first | (with_reducible first | exact HK.out | apply Kept.alloc | apply Kept.drewN | apply Kept.drew | refine Kept.setCell ?_ (.inr GW120.out) _) | exact HK.out)).1) hk)))); (case aO => exact (by (with_reducible repeat (first | apply Kd.R_alloc | apply Kd.R_drewN | apply Kd.R_drew)); exact HO0.out)); (case aS => exact (below_size (by repeat (first | (with_reducible first | exact HB.out | apply below_alloc | apply pw_below_drewN | apply below_drew1 | refine below_set ?_ GE120.out) | exact HB.out)))); (case aL => have := LMc3.out; omega); intro v122 w6 ho hb hg hat; rw [← Ny121.out] at ho; have n0_ := Aside0.mk (blk_grown (g := gb120) (o := .cells #[.string a1_0, .slice A1_1 l1_1.length c1_1] 24 (0, 0)) (by (with_reducible repeat (first | refine blk_drewN ?_ _ | refine blk_drew ?_ | refine blk_alloc ?_ _)); exact BK120.out) hg (Kd.R_ne HO0.out BK120.out (by decide))); have n1_ := Aside0.mk (hb); have n2_ := Aside0.mk (Kept.of_grown (S := (fun k_ => P0_ k_)) hg (by repeat (first | (with_reducible first | exact HK.out | apply Kept.alloc | apply Kept.drewN | apply Kept.drew | refine Kept.setCell ?_ (.inr GW120.out) _) | exact HK.out)) (fun k_ e_ => (HO0.out.1 k_ e_))); have n3_ := Aside0.mk (ho); clear BK120; clear HB; clear HK; clear HO0; have BK120 := n0_; have HB := n1_; have HK := n2_; have HO123 := n3_; clear n0_ n1_ n2_ n3_; clear ho hb hg hat; have hcz7_0 : w6.cell? ⟨gb120, 0, none⟩ = some (.string a1_0) := (blk_cell BK120.out 0).trans rfl; have hcz7_1 : w6.cell? ⟨gb120, 1, none⟩ = some (.slice A1_1 l1_1.length c1_1) := (blk_cell BK120.out 1).trans rfl; have hfz7_0 := blk_frozen BK120.out 0; have hfz7_1 := blk_frozen BK120.out 1))
    go_loopg [0, 17] k (fun kq v0 v17 w' => ∃ (x0_1 : List Int) (x17_1 : Int), v17 = .int .i64 x17_1 ∧ Aside0 (segment_put.l0 kq x0_1 l1_1 (l1_1.length : Int) x17_1 = some r) ∧ Aside0 (kq ≤ k) ∧ Aside0 (Kd.R (Kd.int .u8) 5 w' w0.heap.size (fun k_ => (P0_ k_ ∨ w.heap.size ≤ k_)) v0 x0_1) ∧ Aside0 (w'.heap[gb120]? = some (.cells #[.string a1_0, (.slice A1_1 l1_1.length c1_1)] 24 (0, 0))) ∧ Aside0 (Kept w w' (fun k_ => P0_ k_)) ∧ Aside0 (Below w0.heap.size w0 w'))
    case atStart => exact ⟨(y121), (0), (by first | rfl | (simp; done) | (simp [*]; done)), H', ⟨Nat.le_refl _⟩, ⟨by (with_reducible repeat (first | apply Kd.R_alloc | apply Kd.R_drewN | apply Kd.R_drew)); exact HO123.out⟩, ⟨by (with_reducible repeat (first | refine blk_drewN ?_ _ | refine blk_drew ?_ | refine blk_alloc ?_ _)); exact BK120.out⟩, ⟨by repeat (first | (with_reducible first | exact HK.out | apply Kept.alloc | apply Kept.drewN | apply Kept.drew | refine Kept.setCell ?_ (.inr GW120.out) _) | exact HK.out)⟩, ⟨by repeat (first | (with_reducible first | exact HB.out | apply below_alloc | apply pw_below_drewN | apply below_drew1 | refine below_set ?_ GE120.out) | exact HB.out)⟩⟩
    case round =>
      clear H'
      try clear c1
      try clear c2
      try clear p2
      try clear c3
      try clear hcz5_0
      try clear hcz5_1
      try clear hcz7_0
      try clear hcz7_1
      try clear hfz5_0
      try clear hfz5_1
      try clear hfz7_0
      try clear hfz7_1
      obtain ⟨x0_1, x17_1, rfl, HA, HK1, HO_0, BK120, HK, HB⟩ := hrel
      cases gk with
      | zero => exact absurd HA.out (by simp [segment_put.l0])
      | succ k1 =>
        have H := HA.out
        clear HA
        simp only [segment_put.l0] at H
        by_cases c8 : x17_1 < (l1_1.length : Int)
        · rw [if_pos c8] at H
          have c8b0 : decide (x17_1 < (l1_1.length : Int)) = true := decide_eq_true c8
          clear c8
          by_cases c9 : 0 ≤ x17_1
          · rw [if_pos c9] at H
            have c9b0 : decide (0 ≤ x17_1) = true := decide_eq_true c9
            clear c9
            by_cases c10 : x17_1 < (l1_1.length : Int)
            · rw [if_pos c10] at H
              have c10b0 : decide (x17_1 < (l1_1.length : Int)) = true := decide_eq_true c10
              clear c10
              by_cases c11 : x0_1.length < 140737488355328
              · rw [if_pos c11] at H
                have LMc11 := Aside0.mk c11
                clear c11
                obtain ⟨y128, hy128⟩ : ∃ y_ : List Int, y_ = (x0_1 ++ [43]) := ⟨_, rfl⟩
                replace H : (segment_put.l1 k1 y128 l1_1 (l1_1.length : Int) x17_1 (rd_L1 l1_1 x17_1) ((rd_L1 l1_1 x17_1).length : Int) 0) = some r := by first | (rw [hy128]; with_reducible exact H) | (have H2_ := (Option.bind_some _ _).symm.trans H; rw [hy128]; with_reducible exact H2_) | (have H2_ := (Option.bind_some _ _).symm.trans H; with_reducible exact H2_) | with_reducible exact H | (rw [hy128]; exact H) | exact H
                have Ny128 := Aside0.mk hy128
                clear hy128
                have H' := Aside0.mk H
                clear H
                have p127 : 0 ≤ (x17_1 : Int) := of_decide_eq_true (by first | (with_reducible assumption) | assumption)
                have q127 : x17_1 < (l1_1.length : Int) := of_decide_eq_true (by first | (with_reducible assumption) | assumption)
                obtain ⟨ad127, A127_0, c127_0, e127, hx127_0, hl127_0, hi127_0⟩ := at_L1 (Kd.C_kept_now HR1_1.out HK.out) x17_1 p127 q127
                cases e127
                have HR127_0 := Aside0.mk (foot_slice HR1_1.out x17_1 (by have := of_eq_true (eq_true p127); exact this) (by have := q127; exact this) HK.out rfl hx127_0 (ys := rd_L1 l1_1 x17_1) rfl)
                have HC127_0 := Aside0.mk hl127_0
                clear hi127_0 hl127_0
                replace p127 := eq_true p127
                replace q127 := eq_true q127
                go_wp2_with (first | ((with_reducible refine gate_builtin (b := .append) (xs := #[.tmp 21, .tmp 22]) rfl ?_); at_builtin; refine Kd.R_append (Kd.int .u8) (w0 := w0) w0.heap.size rfl (.tmp 21) (.tmp 22) 32 5 (.int .u8 0) 1 rfl Try.underlying32 info5 rfl (by decide) (by omega) u0 x0_1 43 [.int .u8 43] (fun k_ => (P0_ k_ ∨ w.heap.size ≤ k_)) (fun _ => False) rfl rfl ?aP (fun _ hk => hk.elim) ?aF ?aO ?aB ?aS ?aL ?_; (case aP => exact rfl); (case aB => exact (by repeat (first | (with_reducible first | exact HB.out | apply below_alloc | apply pw_below_drewN | apply below_drew1 | refine below_set ?_ GE120.out) | exact HB.out))); (case aF => exact (fun k_ hk => (.inr (Nat.le_trans (by first | exact HK.out.1 | exact (show Kept w _ (fun k_ => P0_ k_) from by repeat (first | (with_reducible first | exact HK.out | apply Kept.alloc | apply Kept.drewN | apply Kept.drew | refine Kept.setCell ?_ (.inr GW120.out) _) | exact HK.out)).1) hk)))); (case aO => exact (by (with_reducible repeat (first | apply Kd.R_alloc | apply Kd.R_drewN | apply Kd.R_drew)); exact HO_0.out)); (case aS => exact (below_size (by repeat (first | (with_reducible first | exact HB.out | apply below_alloc | apply pw_below_drewN | apply below_drew1 | refine below_set ?_ GE120.out) | exact HB.out)))); (case aL => have := LMc11.out; omega); intro v129 w12 ho hb hg hat; rw [← Ny128.out] at ho; have n0_ := Aside0.mk (blk_grown (g := gb120) (o := .cells #[.string a1_0, .slice (some ad127) l1_1.length c1_1] 24 (0, 0)) (by (with_reducible repeat (first | refine blk_drewN ?_ _ | refine blk_drew ?_ | refine blk_alloc ?_ _)); exact BK120.out) hg (Kd.R_ne HO_0.out BK120.out (by decide))); have n1_ := Aside0.mk (hb); have n2_ := Aside0.mk (Kept.of_grown (S := (fun k_ => P0_ k_)) hg (by repeat (first | (with_reducible first | exact HK.out | apply Kept.alloc | apply Kept.drewN | apply Kept.drew | refine Kept.setCell ?_ (.inr GW120.out) _) | exact HK.out)) (fun k_ e_ => (HO_0.out.1 k_ e_))); have n3_ := Aside0.mk (ho); clear BK120; clear HB; clear HK; clear HO_0; have BK120 := n0_; have HB := n1_; have HK := n2_; have HO130 := n3_; clear n0_ n1_ n2_ n3_; clear ho hb hg hat))
                go_loopg [0, 26] k1 (fun kq v0 v26 w' => ∃ (x0_2 : List Int) (x26_2 : Int), v26 = .int .i64 x26_2 ∧ Aside0 (segment_put.l1 kq x0_2 l1_1 (l1_1.length : Int) x17_1 (rd_L1 l1_1 x17_1) ((rd_L1 l1_1 x17_1).length : Int) x26_2 = some r) ∧ Aside0 (kq ≤ k1) ∧ Aside0 (Kd.R (Kd.int .u8) 5 w' w0.heap.size (fun k_ => (P0_ k_ ∨ w.heap.size ≤ k_)) v0 x0_2) ∧ Aside0 (w'.heap[gb120]? = some (.cells #[.string a1_0, (.slice (some ad127) l1_1.length c1_1)] 24 (0, 0))) ∧ Aside0 (Kept w w' (fun k_ => P0_ k_)) ∧ Aside0 (Below w0.heap.size w0 w'))
                case atStart => exact ⟨(y128), (0), (by first | rfl | (simp; done) | (simp [*]; done)), H', ⟨Nat.le_refl _⟩, ⟨by (with_reducible repeat (first | apply Kd.R_alloc | apply Kd.R_drewN | apply Kd.R_drew)); exact HO130.out⟩, ⟨by (with_reducible repeat (first | refine blk_drewN ?_ _ | refine blk_drew ?_ | refine blk_alloc ?_ _)); exact BK120.out⟩, ⟨by repeat (first | (with_reducible first | exact HK.out | apply Kept.alloc | apply Kept.drewN | apply Kept.drew | refine Kept.setCell ?_ (.inr GW120.out) _) | exact HK.out)⟩, ⟨by repeat (first | (with_reducible first | exact HB.out | apply below_alloc | apply pw_below_drewN | apply below_drew1 | refine below_set ?_ GE120.out) | exact HB.out)⟩⟩
                case round =>
                  clear H'
                  try clear c1
                  try clear p1
                  try clear q1
                  try clear hx1
                  try clear c2
                  try clear p2
                  try clear c3
                  try clear c8
                  try clear c8b0
                  try clear c9
                  try clear c9b0
                  try clear c10
                  try clear c10b0
                  try clear c11
                  try clear c12
                  try clear p12
                  try clear q12
                  try clear hx12
                  try clear hcz5_0
                  try clear hcz5_1
                  try clear hcz7_0
                  try clear hcz7_1
                  try clear hfz5_0
                  try clear hfz5_1
                  try clear hfz7_0
                  try clear hfz7_1
                  try clear hx127_0
                  try clear p127
                  try clear p2
                  try clear q127
                  obtain ⟨x0_2, x26_2, rfl, HA, HK2, HO_0, BK120, HK, HB⟩ := hrel
                  cases gk with
                  | zero => exact absurd HA.out (by simp [segment_put.l1])
                  | succ k2 =>
                    have H := HA.out
                    clear HA
                    simp only [segment_put.l1] at H
                    by_cases c13 : x26_2 < ((rd_L1 l1_1 x17_1).length : Int)
                    · rw [if_pos c13] at H
                      have c13b0 : decide (x26_2 < ((rd_L1 l1_1 x17_1).length : Int)) = true := decide_eq_true c13
                      clear c13
                      by_cases c14 : 0 ≤ x26_2
                      · rw [if_pos c14] at H
                        have c14b0 : decide (0 ≤ x26_2) = true := decide_eq_true c14
                        clear c14
                        by_cases c15 : x26_2 < ((rd_L1 l1_1 x17_1).length : Int)
                        · rw [if_pos c15] at H
                          have c15b0 : decide (x26_2 < ((rd_L1 l1_1 x17_1).length : Int)) = true := decide_eq_true c15
                          clear c15
                          have HC16 := Aside0.mk H
                          clear H
                          have p131 : 0 ≤ (x26_2 : Int) := of_decide_eq_true (by first | (with_reducible assumption) | assumption)
                          have q131 : x26_2 < ((rd_L1 l1_1 x17_1).length : Int) := of_decide_eq_true (by first | (with_reducible assumption) | assumption)
                          obtain ⟨ad131, e131, hx131_0⟩ := Kd.at_string (Kd.C_kept_now HR127_0.out HK.out) x26_2 p131 q131
                          cases e131
                          replace p131 := eq_true p131
                          replace q131 := eq_true q131
                          go_upto_if 32 with (fail)
                          go_cut [0] (fun v0 wc => ∃ (kq : Nat) (x0_15 : List Int), Aside0 (segment_put.j2 kq x0_15 (rdOf ByteArray.empty (rd_L1 l1_1 x17_1) x26_2) l1_1 (l1_1.length : Int) x17_1 (rd_L1 l1_1 x17_1) ((rd_L1 l1_1 x17_1).length : Int) x26_2 = some r) ∧ Aside0 (kq ≤ k2) ∧ Aside0 (Kd.R (Kd.int .u8) 5 wc w0.heap.size (fun k_ => (P0_ k_ ∨ w.heap.size ≤ k_)) v0 x0_15) ∧ Aside0 (wc.heap[gb120]? = some (.cells #[.string a1_0, (.slice (some ad127) l1_1.length c1_1)] 24 (0, 0))) ∧ Aside0 (Kept w wc (fun k_ => P0_ k_)) ∧ Aside0 (Below w0.heap.size w0 wc))
                          case first =>
                            have H := HC16.out
                            clear HC16
                            by_cases c17 : x26_2 > 0
                            · rw [if_pos c17] at H
                              have c17b0 : decide (0 < x26_2) = true := decide_eq_true c17
                              clear c17
                              (first | rw [c17b0] | (simp only [i64_w, i32_w]; rw [c17b0]) | skip)
                              by_cases c18 : x0_2.length < 140737488355328
                              · rw [if_pos c18] at H
                                have LMc18 := Aside0.mk c18
                                clear c18
                                obtain ⟨y132, hy132⟩ : ∃ y_ : List Int, y_ = (x0_2 ++ [58]) := ⟨_, rfl⟩
                                replace H : (segment_put.j2 k2 y132 (rdOf ByteArray.empty (rd_L1 l1_1 x17_1) x26_2) l1_1 (l1_1.length : Int) x17_1 (rd_L1 l1_1 x17_1) ((rd_L1 l1_1 x17_1).length : Int) x26_2) = some r := by first | (rw [hy132]; with_reducible exact H) | (have H2_ := (Option.bind_some _ _).symm.trans H; rw [hy132]; with_reducible exact H2_) | (have H2_ := (Option.bind_some _ _).symm.trans H; with_reducible exact H2_) | with_reducible exact H | (rw [hy132]; exact H) | exact H
                                have Ny132 := Aside0.mk hy132
                                clear hy132
                                have H' := Aside0.mk H
                                clear H
                                go_wp2_with (first | ((with_reducible refine gate_builtin (b := .append) (xs := #[.tmp 33, .tmp 34]) rfl ?_); at_builtin; refine Kd.R_append (Kd.int .u8) (w0 := w0) w0.heap.size rfl (.tmp 33) (.tmp 34) 32 5 (.int .u8 0) 1 rfl Try.underlying32 info5 rfl (by decide) (by omega) u0 x0_2 58 [.int .u8 58] (fun k_ => (P0_ k_ ∨ w.heap.size ≤ k_)) (fun _ => False) rfl rfl ?aP (fun _ hk => hk.elim) ?aF ?aO ?aB ?aS ?aL ?_; (case aP => exact rfl); (case aB => exact (by repeat (first | (with_reducible first | exact HB.out | apply below_alloc | apply pw_below_drewN | apply below_drew1 | refine below_set ?_ GE120.out) | exact HB.out))); (case aF => exact (fun k_ hk => (.inr (Nat.le_trans (by first | exact HK.out.1 | exact (show Kept w _ (fun k_ => P0_ k_) from by repeat (first | (with_reducible first | exact HK.out | apply Kept.alloc | apply Kept.drewN | apply Kept.drew | refine Kept.setCell ?_ (.inr GW120.out) _) | exact HK.out)).1) hk)))); (case aO => exact (by (with_reducible repeat (first | apply Kd.R_alloc | apply Kd.R_drewN | apply Kd.R_drew)); exact HO_0.out)); (case aS => exact (below_size (by repeat (first | (with_reducible first | exact HB.out | apply below_alloc | apply pw_below_drewN | apply below_drew1 | refine below_set ?_ GE120.out) | exact HB.out)))); (case aL => have := LMc18.out; omega); intro v133 w19 ho hb hg hat; rw [← Ny132.out] at ho; have n0_ := Aside0.mk (blk_grown (g := gb120) (o := .cells #[.string a1_0, .slice (some ad127) l1_1.length c1_1] 24 (0, 0)) (by (with_reducible repeat (first | refine blk_drewN ?_ _ | refine blk_drew ?_ | refine blk_alloc ?_ _)); exact BK120.out) hg (Kd.R_ne HO_0.out BK120.out (by decide))); have n1_ := Aside0.mk (hb); have n2_ := Aside0.mk (Kept.of_grown (S := (fun k_ => P0_ k_)) hg (by repeat (first | (with_reducible first | exact HK.out | apply Kept.alloc | apply Kept.drewN | apply Kept.drew | refine Kept.setCell ?_ (.inr GW120.out) _) | exact HK.out)) (fun k_ e_ => (HO_0.out.1 k_ e_))); have n3_ := Aside0.mk (ho); clear BK120; clear HB; clear HK; clear HO_0; have BK120 := n0_; have HB := n1_; have HK := n2_; have HO134 := n3_; clear n0_ n1_ n2_ n3_; clear ho hb hg hat))
                                go_meet
                                case rel => exact ⟨_, (y132), H', ⟨by have := HK1.out; have := HK2.out; first | omega | exact Nat.le_refl _⟩, ⟨by (with_reducible repeat (first | apply Kd.R_alloc | apply Kd.R_drewN | apply Kd.R_drew)); exact HO134.out⟩, ⟨by (with_reducible repeat (first | refine blk_drewN ?_ _ | refine blk_drew ?_ | refine blk_alloc ?_ _)); exact BK120.out⟩, ⟨by repeat (first | (with_reducible first | exact HK.out | apply Kept.alloc | apply Kept.drewN | apply Kept.drew | refine Kept.setCell ?_ (.inr GW120.out) _) | exact HK.out)⟩, ⟨by repeat (first | (with_reducible first | exact HB.out | apply below_alloc | apply pw_below_drewN | apply below_drew1 | refine below_set ?_ GE120.out) | exact HB.out)⟩⟩
                              · rw [if_neg c18] at H
                                exact absurd H (by simp)
                            · rw [if_neg c17] at H
                              have c17b0 : decide (0 < x26_2) = false := decide_eq_false c17
                              clear c17
                              (first | rw [c17b0] | (simp only [i64_w, i32_w]; rw [c17b0]) | skip)
                              have H' := Aside0.mk H
                              clear H
                              go_wp2
                              go_meet
                              case rel => exact ⟨_, (x0_2), H', ⟨by have := HK1.out; have := HK2.out; first | omega | exact Nat.le_refl _⟩, ⟨by (with_reducible repeat (first | apply Kd.R_alloc | apply Kd.R_drewN | apply Kd.R_drew)); exact HO_0.out⟩, ⟨by (with_reducible repeat (first | refine blk_drewN ?_ _ | refine blk_drew ?_ | refine blk_alloc ?_ _)); exact BK120.out⟩, ⟨by repeat (first | (with_reducible first | exact HK.out | apply Kept.alloc | apply Kept.drewN | apply Kept.drew | refine Kept.setCell ?_ (.inr GW120.out) _) | exact HK.out)⟩, ⟨by repeat (first | (with_reducible first | exact HB.out | apply below_alloc | apply pw_below_drewN | apply below_drew1 | refine below_set ?_ GE120.out) | exact HB.out)⟩⟩
                          case rest =>
                            clear HC16
                            try clear c1
                            try clear p1
                            try clear q1
                            try clear hx1
                            try clear c2
                            try clear p2
                            try clear c3
                            try clear c8
                            try clear c8b0
                            try clear c9
                            try clear c9b0
                            try clear c10
                            try clear c10b0
                            try clear c11
                            try clear c12
                            try clear p12
                            try clear q12
                            try clear hx12
                            try clear c13
                            try clear c13b0
                            try clear p13
                            try clear q13
                            try clear hx13
                            try clear c14
                            try clear c14b0
                            try clear c15
                            try clear c15b0
                            try clear c17
                            try clear c17b0
                            try clear c18
                            try clear hcz5_0
                            try clear hcz5_1
                            try clear hcz7_0
                            try clear hcz7_1
                            try clear hfz5_0
                            try clear hfz5_1
                            try clear hfz7_0
                            try clear hfz7_1
                            try clear hx127_0
                            try clear hx131_0
                            try clear p1
                            try clear p12
                            try clear p127
                            try clear p131
                            try clear p2
                            try clear q1
                            try clear q12
                            try clear q127
                            try clear q131
                            obtain ⟨kq, x0_15, HA, HJ15, HO_0, BK120, HK, HB⟩ := hcut
                            cases kq with
                            | zero => exact absurd HA.out (by simp [segment_put.j2])
                            | succ kj15 =>
                              have H := HA.out
                              clear HA
                              simp only [segment_put.j2] at H
                              have H' := Aside0.mk H
                              clear H
                              go_wp2
                              go_loopg [0, 38] kj15 (fun kq v0 v38 w' => ∃ (x0_4 : List Int) (x38_4 : Int), v38 = .int .i64 x38_4 ∧ Aside0 (segment_put.l2 kq x0_4 (rdOf ByteArray.empty (rd_L1 l1_1 x17_1) x26_2) l1_1 (l1_1.length : Int) x17_1 (rd_L1 l1_1 x17_1) ((rd_L1 l1_1 x17_1).length : Int) x26_2 ((rdOf ByteArray.empty (rd_L1 l1_1 x17_1) x26_2).size : Int) x38_4 = some r) ∧ Aside0 (kq ≤ kj15) ∧ Aside0 (Kd.R (Kd.int .u8) 5 w' w0.heap.size (fun k_ => (P0_ k_ ∨ w.heap.size ≤ k_)) v0 x0_4) ∧ Aside0 (w'.heap[gb120]? = some (.cells #[.string a1_0, (.slice (some ad127) l1_1.length c1_1)] 24 (0, 0))) ∧ Aside0 (Kept w w' (fun k_ => P0_ k_)) ∧ Aside0 (Below w0.heap.size w0 w'))
                              case atStart => exact ⟨(x0_15), (0), (by first | rfl | (simp; done) | (simp [*]; done)), H', ⟨Nat.le_refl _⟩, ⟨by (with_reducible repeat (first | apply Kd.R_alloc | apply Kd.R_drewN | apply Kd.R_drew)); exact HO_0.out⟩, ⟨by (with_reducible repeat (first | refine blk_drewN ?_ _ | refine blk_drew ?_ | refine blk_alloc ?_ _)); exact BK120.out⟩, ⟨by repeat (first | (with_reducible first | exact HK.out | apply Kept.alloc | apply Kept.drewN | apply Kept.drew | refine Kept.setCell ?_ (.inr GW120.out) _) | exact HK.out)⟩, ⟨by repeat (first | (with_reducible first | exact HB.out | apply below_alloc | apply pw_below_drewN | apply below_drew1 | refine below_set ?_ GE120.out) | exact HB.out)⟩⟩
                              case round =>
                                clear H'
                                try clear c1
                                try clear p1
                                try clear q1
                                try clear hx1
                                try clear c2
                                try clear p2
                                try clear c3
                                try clear c8
                                try clear c8b0
                                try clear c9
                                try clear c9b0
                                try clear c10
                                try clear c10b0
                                try clear c11
                                try clear c12
                                try clear p12
                                try clear q12
                                try clear hx12
                                try clear c13
                                try clear c13b0
                                try clear p13
                                try clear q13
                                try clear hx13
                                try clear c14
                                try clear c14b0
                                try clear c15
                                try clear c15b0
                                try clear c17
                                try clear c17b0
                                try clear c18
                                try clear hcz5_0
                                try clear hcz5_1
                                try clear hcz7_0
                                try clear hcz7_1
                                try clear hfz5_0
                                try clear hfz5_1
                                try clear hfz7_0
                                try clear hfz7_1
                                try clear hx127_0
                                try clear hx131_0
                                try clear p1
                                try clear p12
                                try clear p127
                                try clear p13
                                try clear p131
                                try clear p2
                                try clear q1
                                try clear q12
                                try clear q127
                                try clear q13
                                try clear q131
                                obtain ⟨x0_4, x38_4, rfl, HA, HK4, HO_0, BK120, HK, HB⟩ := hrel
                                cases gk with
                                | zero => exact absurd HA.out (by simp [segment_put.l2])
                                | succ k4 =>
                                  have H := HA.out
                                  clear HA
                                  simp only [segment_put.l2] at H
                                  by_cases c20 : x38_4 < ((rdOf ByteArray.empty (rd_L1 l1_1 x17_1) x26_2).size : Int)
                                  · rw [if_pos c20] at H
                                    have c20b0 : decide (x38_4 < ((rdOf ByteArray.empty (rd_L1 l1_1 x17_1) x26_2).size : Int)) = true := decide_eq_true c20
                                    clear c20
                                    by_cases c21 : 0 ≤ x38_4
                                    · rw [if_pos c21] at H
                                      have c21b0 : decide (0 ≤ x38_4) = true := decide_eq_true c21
                                      clear c21
                                      by_cases c22 : x38_4 < ((rdOf ByteArray.empty (rd_L1 l1_1 x17_1) x26_2).size : Int)
                                      · rw [if_pos c22] at H
                                        have c22b0 : decide (x38_4 < ((rdOf ByteArray.empty (rd_L1 l1_1 x17_1) x26_2).size : Int)) = true := decide_eq_true c22
                                        clear c22
                                        replace H := Option.bind_eq_some_iff.mp H
                                        obtain ⟨t135, A240, H⟩ := H
                                        replace H : (if t135 = true then (if x0_4.length < 140737488355328 then ((some (x0_4 ++ [63] : List Int)).bind fun y136 => (if y136.length < 140737488355328 then (segment_put.l2 k4 (y136 ++ [bt (rdOf ByteArray.empty (rd_L1 l1_1 x17_1) x26_2) x38_4]) (rdOf ByteArray.empty (rd_L1 l1_1 x17_1) x26_2) l1_1 (l1_1.length : Int) x17_1 (rd_L1 l1_1 x17_1) ((rd_L1 l1_1 x17_1).length : Int) x26_2 ((rdOf ByteArray.empty (rd_L1 l1_1 x17_1) x26_2).size : Int) (wrap64 (x38_4 + 1))) else (none))) else (none)) else (if x0_4.length < 140737488355328 then (segment_put.l2 k4 (x0_4 ++ [bt (rdOf ByteArray.empty (rd_L1 l1_1 x17_1) x26_2) x38_4]) (rdOf ByteArray.empty (rd_L1 l1_1 x17_1) x26_2) l1_1 (l1_1.length : Int) x17_1 (rd_L1 l1_1 x17_1) ((rd_L1 l1_1 x17_1).length : Int) x26_2 ((rdOf ByteArray.empty (rd_L1 l1_1 x17_1) x26_2).size : Int) (wrap64 (x38_4 + 1))) else (none))) = some r := H
                                        have A24 := Aside0.mk A240
                                        clear A240
                                        by_cases c25 : t135 = true
                                        · subst c25
                                          have H1 : (if x0_4.length < 140737488355328 then ((some (x0_4 ++ [63] : List Int)).bind fun y136 => (if y136.length < 140737488355328 then (segment_put.l2 k4 (y136 ++ [bt (rdOf ByteArray.empty (rd_L1 l1_1 x17_1) x26_2) x38_4]) (rdOf ByteArray.empty (rd_L1 l1_1 x17_1) x26_2) l1_1 (l1_1.length : Int) x17_1 (rd_L1 l1_1 x17_1) ((rd_L1 l1_1 x17_1).length : Int) x26_2 ((rdOf ByteArray.empty (rd_L1 l1_1 x17_1) x26_2).size : Int) (wrap64 (x38_4 + 1))) else (none))) else (none)) = some r := by rw [if_pos rfl] at H; exact H
                                          clear H
                                          have H := H1
                                          clear H1
                                          by_cases c26 : x0_4.length < 140737488355328
                                          · rw [if_pos c26] at H
                                            have LMc26 := Aside0.mk c26
                                            clear c26
                                            obtain ⟨y136, hy136⟩ : ∃ y_ : List Int, y_ = (x0_4 ++ [63]) := ⟨_, rfl⟩
                                            replace H : (if y136.length < 140737488355328 then (segment_put.l2 k4 (y136 ++ [bt (rdOf ByteArray.empty (rd_L1 l1_1 x17_1) x26_2) x38_4]) (rdOf ByteArray.empty (rd_L1 l1_1 x17_1) x26_2) l1_1 (l1_1.length : Int) x17_1 (rd_L1 l1_1 x17_1) ((rd_L1 l1_1 x17_1).length : Int) x26_2 ((rdOf ByteArray.empty (rd_L1 l1_1 x17_1) x26_2).size : Int) (wrap64 (x38_4 + 1))) else (none)) = some r := by first | (rw [hy136]; with_reducible exact H) | (have H2_ := (Option.bind_some _ _).symm.trans H; rw [hy136]; with_reducible exact H2_) | (have H2_ := (Option.bind_some _ _).symm.trans H; with_reducible exact H2_) | with_reducible exact H | (rw [hy136]; exact H) | exact H
                                            have Ny136 := Aside0.mk hy136
                                            clear hy136
                                            by_cases c28 : y136.length < 140737488355328
                                            · rw [if_pos c28] at H
                                              have LMc28 := Aside0.mk c28
                                              clear c28
                                              obtain ⟨y139, hy139⟩ : ∃ y_ : List Int, y_ = (y136 ++ [bt (rdOf ByteArray.empty (rd_L1 l1_1 x17_1) x26_2) x38_4]) := ⟨_, rfl⟩
                                              replace H : (segment_put.l2 k4 y139 (rdOf ByteArray.empty (rd_L1 l1_1 x17_1) x26_2) l1_1 (l1_1.length : Int) x17_1 (rd_L1 l1_1 x17_1) ((rd_L1 l1_1 x17_1).length : Int) x26_2 ((rdOf ByteArray.empty (rd_L1 l1_1 x17_1) x26_2).size : Int) (wrap64 (x38_4 + 1))) = some r := by first | (rw [hy139]; with_reducible exact H) | (have H2_ := (Option.bind_some _ _).symm.trans H; rw [hy139]; with_reducible exact H2_) | (have H2_ := (Option.bind_some _ _).symm.trans H; with_reducible exact H2_) | with_reducible exact H | (rw [hy139]; exact H) | exact H
                                              have Ny139 := Aside0.mk hy139
                                              clear hy139
                                              have H' := Aside0.mk H
                                              clear H
                                              have p23 : 0 ≤ (x38_4 : Int) := of_decide_eq_true (by first | (with_reducible assumption) | assumption)
                                              have q23 : x38_4 < ((rdOf ByteArray.empty (rd_L1 l1_1 x17_1) x26_2).size : Int) := of_decide_eq_true (by first | (with_reducible assumption) | assumption)
                                              have hx23 := bt_at (rdOf ByteArray.empty (rd_L1 l1_1 x17_1) x26_2) x38_4
                                              replace p23 := eq_true p23
                                              replace q23 := eq_true q23
                                              go_wp2_with (first | ((with_reducible refine gate_callee (f := 32) rfl ?_); refine goesL_ (some 44) rfl rfl Try.func32 (by kernel_rfl) rfl #[.int .u8 (bt (rdOf ByteArray.empty (rd_L1 l1_1 x17_1) x26_2) x38_4)] rfl (by (try simp only [List.map_toArray, List.map_cons, List.map_nil]); first | done | rfl | (simp only [List.length_drop, List.length_take]; rfl)) ?_; (with_reducible refine (segment_special.calls (bt (rdOf ByteArray.empty (rd_L1 l1_1 x17_1) x26_2) x38_4) true _ A24.out).mono ?_); rintro e w' ⟨rfl, ⟨nd, rfl⟩⟩; refine ⟨_, rfl, ?_⟩) | ((with_reducible refine gate_builtin (b := .append) (xs := #[.tmp 45, .tmp 46]) rfl ?_); at_builtin; refine Kd.R_append (Kd.int .u8) (w0 := w0) w0.heap.size rfl (.tmp 45) (.tmp 46) 32 5 (.int .u8 0) 1 rfl Try.underlying32 info5 rfl (by decide) (by omega) u0 x0_4 63 [.int .u8 63] (fun k_ => (P0_ k_ ∨ w.heap.size ≤ k_)) (fun _ => False) rfl rfl ?aP (fun _ hk => hk.elim) ?aF ?aO ?aB ?aS ?aL ?_; (case aP => exact rfl); (case aB => exact (by repeat (first | (with_reducible first | exact HB.out | apply below_alloc | apply pw_below_drewN | apply below_drew1 | refine below_set ?_ GE120.out) | exact HB.out))); (case aF => exact (fun k_ hk => (.inr (Nat.le_trans (by first | exact HK.out.1 | exact (show Kept w _ (fun k_ => P0_ k_) from by repeat (first | (with_reducible first | exact HK.out | apply Kept.alloc | apply Kept.drewN | apply Kept.drew | refine Kept.setCell ?_ (.inr GW120.out) _) | exact HK.out)).1) hk)))); (case aO => exact (by (with_reducible repeat (first | apply Kd.R_alloc | apply Kd.R_drewN | apply Kd.R_drew)); exact HO_0.out)); (case aS => exact (below_size (by repeat (first | (with_reducible first | exact HB.out | apply below_alloc | apply pw_below_drewN | apply below_drew1 | refine below_set ?_ GE120.out) | exact HB.out)))); (case aL => have := LMc26.out; omega); intro v137 w29 ho hb hg hat; rw [← Ny136.out] at ho; have n0_ := Aside0.mk (blk_grown (g := gb120) (o := .cells #[.string a1_0, .slice (some ad127) l1_1.length c1_1] 24 (0, 0)) (by (with_reducible repeat (first | refine blk_drewN ?_ _ | refine blk_drew ?_ | refine blk_alloc ?_ _)); exact BK120.out) hg (Kd.R_ne HO_0.out BK120.out (by decide))); have n1_ := Aside0.mk (hb); have n2_ := Aside0.mk (Kept.of_grown (S := (fun k_ => P0_ k_)) hg (by repeat (first | (with_reducible first | exact HK.out | apply Kept.alloc | apply Kept.drewN | apply Kept.drew | refine Kept.setCell ?_ (.inr GW120.out) _) | exact HK.out)) (fun k_ e_ => (HO_0.out.1 k_ e_))); have n3_ := Aside0.mk (ho); clear BK120; clear HB; clear HK; clear HO_0; have BK120 := n0_; have HB := n1_; have HK := n2_; have HO138 := n3_; clear n0_ n1_ n2_ n3_; clear ho hb hg hat; have p27 : 0 ≤ (x38_4 : Int) := of_decide_eq_true (by first | (with_reducible assumption) | assumption); have q27 : x38_4 < ((rdOf ByteArray.empty (rd_L1 l1_1 x17_1) x26_2).size : Int) := of_decide_eq_true (by first | (with_reducible assumption) | assumption); have hx27 := bt_at (rdOf ByteArray.empty (rd_L1 l1_1 x17_1) x26_2) x38_4; replace p27 := eq_true p27; replace q27 := eq_true q27) | ((with_reducible refine gate_builtin (b := .append) (xs := #[.tmp 48, .tmp 52]) rfl ?_); at_builtin; refine Kd.R_append (Kd.int .u8) (w0 := w0) w0.heap.size rfl (.tmp 48) (.tmp 52) 32 5 (.int .u8 0) 1 rfl Try.underlying32 info5 rfl (by decide) (by omega) v137 y136 (bt (rdOf ByteArray.empty (rd_L1 l1_1 x17_1) x26_2) x38_4) [.int .u8 (bt (rdOf ByteArray.empty (rd_L1 l1_1 x17_1) x26_2) x38_4)] (fun k_ => (P0_ k_ ∨ w.heap.size ≤ k_)) (fun _ => False) rfl rfl ?aP (fun _ hk => hk.elim) ?aF ?aO ?aB ?aS ?aL ?_; (case aP => exact rfl); (case aB => exact (by repeat (first | (with_reducible first | exact HB.out | apply below_alloc | apply pw_below_drewN | apply below_drew1 | refine below_set ?_ GE120.out) | exact HB.out))); (case aF => exact (fun k_ hk => (.inr (Nat.le_trans (by first | exact HK.out.1 | exact (show Kept w _ (fun k_ => P0_ k_) from by repeat (first | (with_reducible first | exact HK.out | apply Kept.alloc | apply Kept.drewN | apply Kept.drew | refine Kept.setCell ?_ (.inr GW120.out) _) | exact HK.out)).1) hk)))); (case aO => exact (by (with_reducible repeat (first | apply Kd.R_alloc | apply Kd.R_drewN | apply Kd.R_drew)); exact HO138.out)); (case aS => exact (below_size (by repeat (first | (with_reducible first | exact HB.out | apply below_alloc | apply pw_below_drewN | apply below_drew1 | refine below_set ?_ GE120.out) | exact HB.out)))); (case aL => have := LMc28.out; omega); intro v140 w30 ho hb hg hat; rw [← Ny139.out] at ho; have n0_ := Aside0.mk (blk_grown (g := gb120) (o := .cells #[.string a1_0, .slice (some ad127) l1_1.length c1_1] 24 (0, 0)) (by (with_reducible repeat (first | refine blk_drewN ?_ _ | refine blk_drew ?_ | refine blk_alloc ?_ _)); exact BK120.out) hg (Kd.R_ne HO138.out BK120.out (by decide))); have n1_ := Aside0.mk (hb); have n2_ := Aside0.mk (Kept.of_grown (S := (fun k_ => P0_ k_)) hg (by repeat (first | (with_reducible first | exact HK.out | apply Kept.alloc | apply Kept.drewN | apply Kept.drew | refine Kept.setCell ?_ (.inr GW120.out) _) | exact HK.out)) (fun k_ e_ => (HO138.out.1 k_ e_))); have n3_ := Aside0.mk (ho); clear BK120; clear HB; clear HK; clear HO138; have BK120 := n0_; have HB := n1_; have HK := n2_; have HO141 := n3_; clear n0_ n1_ n2_ n3_; clear ho hb hg hat))
                                              go_roundg k4
                                              case measure => have := HK1.out; have := HK2.out; have := HJ15.out; have := HK4.out; omega
                                              case rel => exact ⟨(y139), (wrap64 (x38_4 + 1)), (by first | rfl | (simp; done) | (simp [*]; done)), H', ⟨by have := HK1.out; have := HK2.out; have := HJ15.out; have := HK4.out; omega⟩, ⟨by (with_reducible repeat (first | apply Kd.R_alloc | apply Kd.R_drewN | apply Kd.R_drew)); exact HO141.out⟩, ⟨by (with_reducible repeat (first | refine blk_drewN ?_ _ | refine blk_drew ?_ | refine blk_alloc ?_ _)); exact BK120.out⟩, ⟨by repeat (first | (with_reducible first | exact HK.out | apply Kept.alloc | apply Kept.drewN | apply Kept.drew | refine Kept.setCell ?_ (.inr GW120.out) _) | exact HK.out)⟩, ⟨by repeat (first | (with_reducible first | exact HB.out | apply below_alloc | apply pw_below_drewN | apply below_drew1 | refine below_set ?_ GE120.out) | exact HB.out)⟩⟩
                                            · rw [if_neg c28] at H
                                              exact absurd H (by simp)
                                          · rw [if_neg c26] at H
                                            exact absurd H (by simp)
                                        · replace c25 := Bool.eq_false_iff.mpr c25
                                          subst c25
                                          have H1 : (if x0_4.length < 140737488355328 then (segment_put.l2 k4 (x0_4 ++ [bt (rdOf ByteArray.empty (rd_L1 l1_1 x17_1) x26_2) x38_4]) (rdOf ByteArray.empty (rd_L1 l1_1 x17_1) x26_2) l1_1 (l1_1.length : Int) x17_1 (rd_L1 l1_1 x17_1) ((rd_L1 l1_1 x17_1).length : Int) x26_2 ((rdOf ByteArray.empty (rd_L1 l1_1 x17_1) x26_2).size : Int) (wrap64 (x38_4 + 1))) else (none)) = some r := by rw [if_neg (show ¬ (false = true) by decide)] at H; exact H
                                          clear H
                                          have H := H1
                                          clear H1
                                          by_cases c32 : x0_4.length < 140737488355328
                                          · rw [if_pos c32] at H
                                            have LMc32 := Aside0.mk c32
                                            clear c32
                                            obtain ⟨y142, hy142⟩ : ∃ y_ : List Int, y_ = (x0_4 ++ [bt (rdOf ByteArray.empty (rd_L1 l1_1 x17_1) x26_2) x38_4]) := ⟨_, rfl⟩
                                            replace H : (segment_put.l2 k4 y142 (rdOf ByteArray.empty (rd_L1 l1_1 x17_1) x26_2) l1_1 (l1_1.length : Int) x17_1 (rd_L1 l1_1 x17_1) ((rd_L1 l1_1 x17_1).length : Int) x26_2 ((rdOf ByteArray.empty (rd_L1 l1_1 x17_1) x26_2).size : Int) (wrap64 (x38_4 + 1))) = some r := by first | (rw [hy142]; with_reducible exact H) | (have H2_ := (Option.bind_some _ _).symm.trans H; rw [hy142]; with_reducible exact H2_) | (have H2_ := (Option.bind_some _ _).symm.trans H; with_reducible exact H2_) | with_reducible exact H | (rw [hy142]; exact H) | exact H
                                            have Ny142 := Aside0.mk hy142
                                            clear hy142
                                            have H' := Aside0.mk H
                                            clear H
                                            have p23 : 0 ≤ (x38_4 : Int) := of_decide_eq_true (by first | (with_reducible assumption) | assumption)
                                            have q23 : x38_4 < ((rdOf ByteArray.empty (rd_L1 l1_1 x17_1) x26_2).size : Int) := of_decide_eq_true (by first | (with_reducible assumption) | assumption)
                                            have hx23 := bt_at (rdOf ByteArray.empty (rd_L1 l1_1 x17_1) x26_2) x38_4
                                            replace p23 := eq_true p23
                                            replace q23 := eq_true q23
                                            go_wp2_with (first | ((with_reducible refine gate_callee (f := 32) rfl ?_); refine goesL_ (some 44) rfl rfl Try.func32 (by kernel_rfl) rfl #[.int .u8 (bt (rdOf ByteArray.empty (rd_L1 l1_1 x17_1) x26_2) x38_4)] rfl (by (try simp only [List.map_toArray, List.map_cons, List.map_nil]); first | done | rfl | (simp only [List.length_drop, List.length_take]; rfl)) ?_; (with_reducible refine (segment_special.calls (bt (rdOf ByteArray.empty (rd_L1 l1_1 x17_1) x26_2) x38_4) false _ A24.out).mono ?_); rintro e w' ⟨rfl, ⟨nd, rfl⟩⟩; refine ⟨_, rfl, ?_⟩; have p31 : 0 ≤ (x38_4 : Int) := of_decide_eq_true (by first | (with_reducible assumption) | assumption); have q31 : x38_4 < ((rdOf ByteArray.empty (rd_L1 l1_1 x17_1) x26_2).size : Int) := of_decide_eq_true (by first | (with_reducible assumption) | assumption); have hx31 := bt_at (rdOf ByteArray.empty (rd_L1 l1_1 x17_1) x26_2) x38_4; replace p31 := eq_true p31; replace q31 := eq_true q31) | ((with_reducible refine gate_builtin (b := .append) (xs := #[.tmp 48, .tmp 52]) rfl ?_); at_builtin; refine Kd.R_append (Kd.int .u8) (w0 := w0) w0.heap.size rfl (.tmp 48) (.tmp 52) 32 5 (.int .u8 0) 1 rfl Try.underlying32 info5 rfl (by decide) (by omega) u0 x0_4 (bt (rdOf ByteArray.empty (rd_L1 l1_1 x17_1) x26_2) x38_4) [.int .u8 (bt (rdOf ByteArray.empty (rd_L1 l1_1 x17_1) x26_2) x38_4)] (fun k_ => (P0_ k_ ∨ w.heap.size ≤ k_)) (fun _ => False) rfl rfl ?aP (fun _ hk => hk.elim) ?aF ?aO ?aB ?aS ?aL ?_; (case aP => exact rfl); (case aB => exact (by repeat (first | (with_reducible first | exact HB.out | apply below_alloc | apply pw_below_drewN | apply below_drew1 | refine below_set ?_ GE120.out) | exact HB.out))); (case aF => exact (fun k_ hk => (.inr (Nat.le_trans (by first | exact HK.out.1 | exact (show Kept w _ (fun k_ => P0_ k_) from by repeat (first | (with_reducible first | exact HK.out | apply Kept.alloc | apply Kept.drewN | apply Kept.drew | refine Kept.setCell ?_ (.inr GW120.out) _) | exact HK.out)).1) hk)))); (case aO => exact (by (with_reducible repeat (first | apply Kd.R_alloc | apply Kd.R_drewN | apply Kd.R_drew)); exact HO_0.out)); (case aS => exact (below_size (by repeat (first | (with_reducible first | exact HB.out | apply below_alloc | apply pw_below_drewN | apply below_drew1 | refine below_set ?_ GE120.out) | exact HB.out)))); (case aL => have := LMc32.out; omega); intro v143 w33 ho hb hg hat; rw [← Ny142.out] at ho; have n0_ := Aside0.mk (blk_grown (g := gb120) (o := .cells #[.string a1_0, .slice (some ad127) l1_1.length c1_1] 24 (0, 0)) (by (with_reducible repeat (first | refine blk_drewN ?_ _ | refine blk_drew ?_ | refine blk_alloc ?_ _)); exact BK120.out) hg (Kd.R_ne HO_0.out BK120.out (by decide))); have n1_ := Aside0.mk (hb); have n2_ := Aside0.mk (Kept.of_grown (S := (fun k_ => P0_ k_)) hg (by repeat (first | (with_reducible first | exact HK.out | apply Kept.alloc | apply Kept.drewN | apply Kept.drew | refine Kept.setCell ?_ (.inr GW120.out) _) | exact HK.out)) (fun k_ e_ => (HO_0.out.1 k_ e_))); have n3_ := Aside0.mk (ho); clear BK120; clear HB; clear HK; clear HO_0; have BK120 := n0_; have HB := n1_; have HK := n2_; have HO144 := n3_; clear n0_ n1_ n2_ n3_; clear ho hb hg hat))
                                            go_roundg k4
                                            case measure => have := HK1.out; have := HK2.out; have := HJ15.out; have := HK4.out; omega
                                            case rel => exact ⟨(y142), (wrap64 (x38_4 + 1)), (by first | rfl | (simp; done) | (simp [*]; done)), H', ⟨by have := HK1.out; have := HK2.out; have := HJ15.out; have := HK4.out; omega⟩, ⟨by (with_reducible repeat (first | apply Kd.R_alloc | apply Kd.R_drewN | apply Kd.R_drew)); exact HO144.out⟩, ⟨by (with_reducible repeat (first | refine blk_drewN ?_ _ | refine blk_drew ?_ | refine blk_alloc ?_ _)); exact BK120.out⟩, ⟨by repeat (first | (with_reducible first | exact HK.out | apply Kept.alloc | apply Kept.drewN | apply Kept.drew | refine Kept.setCell ?_ (.inr GW120.out) _) | exact HK.out)⟩, ⟨by repeat (first | (with_reducible first | exact HB.out | apply below_alloc | apply pw_below_drewN | apply below_drew1 | refine below_set ?_ GE120.out) | exact HB.out)⟩⟩
                                          · rw [if_neg c32] at H
                                            exact absurd H (by simp)
                                      · rw [if_neg c22] at H
                                        exact absurd H (by simp)
                                    · rw [if_neg c21] at H
                                      exact absurd H (by simp)
                                  · rw [if_neg c20] at H
                                    have c20b0 : decide (x38_4 < ((rdOf ByteArray.empty (rd_L1 l1_1 x17_1) x26_2).size : Int)) = false := decide_eq_false c20
                                    clear c20
                                    have H' := Aside0.mk H
                                    clear H
                                    go_wp2
                                    go_roundg k4
                                    case measure => have := HK1.out; have := HK2.out; have := HJ15.out; have := HK4.out; omega
                                    case rel => exact ⟨(x0_4), (wrap64 (x26_2 + 1)), (by first | rfl | (simp; done) | (simp [*]; done)), H', ⟨by have := HK1.out; have := HK2.out; have := HJ15.out; have := HK4.out; omega⟩, ⟨by (with_reducible repeat (first | apply Kd.R_alloc | apply Kd.R_drewN | apply Kd.R_drew)); exact HO_0.out⟩, ⟨by (with_reducible repeat (first | refine blk_drewN ?_ _ | refine blk_drew ?_ | refine blk_alloc ?_ _)); exact BK120.out⟩, ⟨by repeat (first | (with_reducible first | exact HK.out | apply Kept.alloc | apply Kept.drewN | apply Kept.drew | refine Kept.setCell ?_ (.inr GW120.out) _) | exact HK.out)⟩, ⟨by repeat (first | (with_reducible first | exact HB.out | apply below_alloc | apply pw_below_drewN | apply below_drew1 | refine below_set ?_ GE120.out) | exact HB.out)⟩⟩
                        · rw [if_neg c15] at H
                          exact absurd H (by simp)
                      · rw [if_neg c14] at H
                        exact absurd H (by simp)
                    · rw [if_neg c13] at H
                      have c13b0 : decide (x26_2 < ((rd_L1 l1_1 x17_1).length : Int)) = false := decide_eq_false c13
                      clear c13
                      have H' := Aside0.mk H
                      clear H
                      go_wp2
                      go_roundg k2
                      case measure => have := HK1.out; have := HK2.out; omega
                      case rel => exact ⟨(x0_2), (wrap64 (x17_1 + 1)), (by first | rfl | (simp; done) | (simp [*]; done)), H', ⟨by have := HK1.out; have := HK2.out; omega⟩, ⟨by (with_reducible repeat (first | apply Kd.R_alloc | apply Kd.R_drewN | apply Kd.R_drew)); exact HO_0.out⟩, ⟨by (with_reducible repeat (first | refine blk_drewN ?_ _ | refine blk_drew ?_ | refine blk_alloc ?_ _)); exact BK120.out⟩, ⟨by repeat (first | (with_reducible first | exact HK.out | apply Kept.alloc | apply Kept.drewN | apply Kept.drew | refine Kept.setCell ?_ (.inr GW120.out) _) | exact HK.out)⟩, ⟨by repeat (first | (with_reducible first | exact HB.out | apply below_alloc | apply pw_below_drewN | apply below_drew1 | refine below_set ?_ GE120.out) | exact HB.out)⟩⟩
              · rw [if_neg c11] at H
                exact absurd H (by simp)
            · rw [if_neg c10] at H
              exact absurd H (by simp)
          · rw [if_neg c9] at H
            exact absurd H (by simp)
        · rw [if_neg c8] at H
          have c8b0 : decide (x17_1 < (l1_1.length : Int)) = false := decide_eq_false c8
          clear c8
          by_cases c34 : x0_1.length < 140737488355328
          · rw [if_pos c34] at H
            have LMc34 := Aside0.mk c34
            clear c34
            obtain ⟨y124, hy124⟩ : ∃ y_ : List Int, y_ = (x0_1 ++ [39]) := ⟨_, rfl⟩
            replace H : (some y124) = some r := by first | (rw [hy124]; with_reducible exact H) | (have H2_ := (Option.bind_some _ _).symm.trans H; rw [hy124]; with_reducible exact H2_) | (have H2_ := (Option.bind_some _ _).symm.trans H; with_reducible exact H2_) | with_reducible exact H | (rw [hy124]; exact H) | exact H
            have Ny124 := Aside0.mk hy124
            clear hy124
            obtain rfl := Option.some.inj H
            go_wp2_with (first | ((with_reducible refine gate_builtin (b := .append) (xs := #[.tmp 57, .tmp 58]) rfl ?_); at_builtin; refine Kd.R_append (Kd.int .u8) (w0 := w0) w0.heap.size rfl (.tmp 57) (.tmp 58) 32 5 (.int .u8 0) 1 rfl Try.underlying32 info5 rfl (by decide) (by omega) u0 x0_1 39 [.int .u8 39] (fun k_ => (P0_ k_ ∨ w.heap.size ≤ k_)) (fun _ => False) rfl rfl ?aP (fun _ hk => hk.elim) ?aF ?aO ?aB ?aS ?aL ?_; (case aP => exact rfl); (case aB => exact (by repeat (first | (with_reducible first | exact HB.out | apply below_alloc | apply pw_below_drewN | apply below_drew1 | refine below_set ?_ GE120.out) | exact HB.out))); (case aF => exact (fun k_ hk => (.inr (Nat.le_trans (by first | exact HK.out.1 | exact (show Kept w _ (fun k_ => P0_ k_) from by repeat (first | (with_reducible first | exact HK.out | apply Kept.alloc | apply Kept.drewN | apply Kept.drew | refine Kept.setCell ?_ (.inr GW120.out) _) | exact HK.out)).1) hk)))); (case aO => exact (by (with_reducible repeat (first | apply Kd.R_alloc | apply Kd.R_drewN | apply Kd.R_drew)); exact HO_0.out)); (case aS => exact (below_size (by repeat (first | (with_reducible first | exact HB.out | apply below_alloc | apply pw_below_drewN | apply below_drew1 | refine below_set ?_ GE120.out) | exact HB.out)))); (case aL => have := LMc34.out; omega); intro v125 w35 ho hb hg hat; rw [← Ny124.out] at ho; have n0_ := Aside0.mk (blk_grown (g := gb120) (o := .cells #[.string a1_0, .slice A1_1 l1_1.length c1_1] 24 (0, 0)) (by (with_reducible repeat (first | refine blk_drewN ?_ _ | refine blk_drew ?_ | refine blk_alloc ?_ _)); exact BK120.out) hg (Kd.R_ne HO_0.out BK120.out (by decide))); have n1_ := Aside0.mk (hb); have n2_ := Aside0.mk (Kept.of_grown (S := (fun k_ => P0_ k_)) hg (by repeat (first | (with_reducible first | exact HK.out | apply Kept.alloc | apply Kept.drewN | apply Kept.drew | refine Kept.setCell ?_ (.inr GW120.out) _) | exact HK.out)) (fun k_ e_ => (HO_0.out.1 k_ e_))); have n3_ := Aside0.mk (ho); clear BK120; clear HB; clear HK; clear HO_0; have BK120 := n0_; have HB := n1_; have HK := n2_; have HO126 := n3_; clear n0_ n1_ n2_ n3_; clear ho hb hg hat))
            go_ret
            exact ⟨_, by first | rfl | (simp [errW_none, errW_some] <;> rfl) | (simp [*, errW_none, errW_some] <;> rfl), by (with_reducible repeat (first | apply Kd.R_alloc | apply Kd.R_drewN | apply Kd.R_drew)); exact HO126.out, by repeat (first | (with_reducible first | exact HB.out | apply below_alloc | apply pw_below_drewN | apply below_drew1 | refine below_set ?_ GE120.out) | exact HB.out), by repeat (first | (with_reducible first | exact HK.out | apply Kept.alloc | apply Kept.drewN | apply Kept.drew | refine Kept.setCell ?_ (.inr GW120.out) _) | exact HK.out)⟩
          · rw [if_neg c34] at H
            exact absurd H (by simp)
  · rw [if_neg c3] at H
    exact absurd H (by simp)

end Go.Proofs.Ythdahpnjiighfaa.F
