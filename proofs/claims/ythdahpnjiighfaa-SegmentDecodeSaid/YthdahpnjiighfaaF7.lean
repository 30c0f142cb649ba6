import Derived.WalkMore
import Derived.Test.YthdahpnjiighfaaF0
import Derived.Test.YthdahpnjiighfaaF3
import Derived.Test.YthdahpnjiighfaaF6
namespace Go.Proofs.Ythdahpnjiighfaa.F
open Go.RowKit Go.Proofs.YthdahpnjiighfaaW.PrintWords Go.Proofs.YthdahpnjiighfaaW.PrintLast Go.Proofs.YthdahpnjiighfaaW.PrintMore
attribute [local go_sem] max2_int min2_int max_two min_two max_three min_three max_four min_four
set_option linter.unusedVariables false
set_option linter.unusedSimpArgs false
/-! ### segment_Encode: function 13 -/
def segment_Encode.l0 : Nat → List Int → List (S24) → Int → Int → Option (List Int × Int)
  | 0, _, _, _, _ => none
  | k + 1, x4, x8, x9, x10 => if x10 < x9 then (if 0 ≤ x10 then (if x10 < (x8.length : Int) then ((segment_Validate.f k ((rd_T24 x8 x10).f0) ((rd_T24 x8 x10).f1)).bind fun t147 => (if t147 = 0 then ((segment_put.f k x4 ((rd_T24 x8 x10).f0) ((rd_T24 x8 x10).f1)).bind fun t148 => (segment_Encode.l0 k t148 x8 x9 (wrap64 (x10 + 1)))) else (some (([] : List Int), t147)))) else (none)) else (none)) else (some (x4, 0))
def segment_Encode.f (k : Nat) (l0 : List (S24)) : Option (List Int × Int) := segment_Encode.l0 k ([] : List Int) l0 (l0.length : Int) 0
theorem segment_Encode.mono_l : ∀ k, (∀ y0 y1 y2 y3, LeO (segment_Encode.l0 k y0 y1 y2 y3) (segment_Encode.l0 (k + 1) y0 y1 y2 y3))
  | 0 => fun _ _ _ _ r h => by simp [segment_Encode.l0] at h
  | k + 1 => by
    have ih0 := segment_Encode.mono_l k
    · intro y0 y1 y2 y3
      unfold segment_Encode.l0
      repeat' first
      | (with_reducible exact ih0 _ _ _ _)
      | (with_reducible exact segment_Validate.mono _ _ _)
      | (with_reducible exact segment_put.mono _ _ _ _)
      | (with_reducible exact LeO.refl _)
      | (with_reducible exact LeO.none _)
      | (with_reducible refine LeO.ite ?_ ?_)
      | (with_reducible refine LeO.bind ?_ (fun _ => ?_))
      | exact ih0 _ _ _ _
      | exact segment_Validate.mono _ _ _
      | exact segment_put.mono _ _ _ _
      | exact LeO.none _
      | refine LeO.ite ?_ ?_
      | refine LeO.bind ?_ (fun _ => ?_)
theorem segment_Encode.mono : ∀ a0 k, LeO (segment_Encode.f k a0) (segment_Encode.f (k + 1) a0) := by
  intro a0 k; (have ih0 := segment_Encode.mono_l k); (unfold segment_Encode.f)
  repeat' first
      | (with_reducible exact ih0 _ _ _ _)
      | (with_reducible exact segment_Validate.mono _ _ _)
      | (with_reducible exact segment_put.mono _ _ _ _)
      | (with_reducible exact LeO.refl _)
      | (with_reducible exact LeO.none _)
      | (with_reducible refine LeO.ite ?_ ?_)
      | (with_reducible refine LeO.bind ?_ (fun _ => ?_))
      | exact ih0 _ _ _ _
      | exact segment_Validate.mono _ _ _
      | exact segment_put.mono _ _ _ _
      | exact LeO.none _
      | refine LeO.ite ?_ ?_
      | refine LeO.bind ?_ (fun _ => ?_)
set_option maxHeartbeats 8000000 in
set_option maxRecDepth 100000 in
theorem segment_Encode.calls (k : Nat) (A0 : Option Addr) (c0 : Nat) (l0 : List (S24)) (r1 : List Int) (r2 : Int) (w : World) (hr0 : Kd.C k24 w A0 l0.length l0) (hc0 : l0.length ≤ c0) (h : segment_Encode.f k l0 = some (r1, r2)) :
    Calls Try.prog 13 #[.slice A0 l0.length c0] w fun e w' => ∃ v0_ : Value, e = .returned (.tuple #[v0_, .int .i64 r2]) ∧ Kd.R (Kd.int .u8) 5 w' w.heap.size (fun _ => True) v0_ r1 ∧ Below w.heap.size w w' := by
  have hu24 := Try.underlying24; have HR0 := Aside0.mk hr0; have HC0 := Aside0.mk hc0; clear hr0 hc0; (have HB := Aside0.mk (Below.refl w.heap.size w)); (have H : (segment_Encode.l0 k ([] : List Int) l0 (l0.length : Int) 0) = some (r1, r2) := h); clear h; have H' := Aside0.mk H; clear H; (go_enter Try.func13, Try.ntmps13); go_wp2; (go_loopg [4, 10] k (fun kq v4 v10 w' => ∃ (x4_1 : List Int) (x10_1 : Int), v10 = .int .i64 x10_1 ∧ Aside0 (segment_Encode.l0 kq x4_1 l0 (l0.length : Int) x10_1 = some (r1, r2)) ∧ Aside0 (kq ≤ k) ∧ Aside0 (Kd.R (Kd.int .u8) 5 w' w.heap.size (fun _ => True) v4 x4_1) ∧ Aside0 (Below w.heap.size w w'))); (case atStart => exact ⟨(([] : List Int)), (0), (by first | rfl | (simp; done) | (simp [*]; done)), H', ⟨Nat.le_refl _⟩, ⟨by first | exact Kd.R_nil _ _ _ _ _ | exact Kd.N_nil _ _ _ _ _ | exact Kd.V_nil _ _ _ _ _ | exact Kd.Q_nil _ _ _ _ _ | exact Kd.S_nil _ _ _ _ _⟩, ⟨by repeat (first | (with_reducible first | exact HB.out | apply below_alloc | apply pw_below_drewN | apply below_drew1) | exact HB.out)⟩⟩)
  case round =>
    clear H'; (try clear c1); (obtain ⟨x4_1, x10_1, rfl, HA, HK1, HO_4, HB⟩ := hrel)
    cases gk with
    | zero => exact absurd HA.out (by simp [segment_Encode.l0])
    | succ k1 =>
      have H := HA.out; clear HA; (simp only [segment_Encode.l0] at H); (by_cases c2 : x10_1 < (l0.length : Int))
      · (rw [if_pos c2] at H); (have c2b0 : decide (x10_1 < (l0.length : Int)) = true := decide_eq_true c2); clear c2; (by_cases c3 : 0 ≤ x10_1)
        · (rw [if_pos c3] at H); (have c3b0 : decide (0 ≤ x10_1) = true := decide_eq_true c3); clear c3; (by_cases c4 : x10_1 < (l0.length : Int))
          · (rw [if_pos c4] at H); (have c4b0 : decide (x10_1 < (l0.length : Int)) = true := decide_eq_true c4); clear c4; (replace H := Option.bind_eq_some_iff.mp H); (obtain ⟨t147, A50, H⟩ := H); (replace H : (if t147 = 0 then ((segment_put.f k1 x4_1 ((rd_T24 l0 x10_1).f0) ((rd_T24 l0 x10_1).f1)).bind fun t148 => (segment_Encode.l0 k1 t148 l0 (l0.length : Int) (wrap64 (x10_1 + 1)))) else (some (([] : List Int), t147))) = some (r1, r2) := H); have A5 := Aside0.mk A50; clear A50; (by_cases c6 : t147 = 0)
            · (rw [if_pos c6] at H); (have c6b0 : (t147 == 0) = true := beq_iff_eq.mpr c6); (have c6b1 : (t147 != 0) = false := bne_eq_false_iff_eq.mpr c6); clear c6; (replace H := Option.bind_eq_some_iff.mp H); (obtain ⟨t148, A70, H⟩ := H); (replace H : (segment_Encode.l0 k1 t148 l0 (l0.length : Int) (wrap64 (x10_1 + 1))) = some (r1, r2) := H); have A7 := Aside0.mk A70; clear A70; have H' := Aside0.mk H; clear H; (have p145 : 0 ≤ (x10_1 : Int) := of_decide_eq_true (by first | (with_reducible assumption) | assumption)); (have q145 : x10_1 < (l0.length : Int) := of_decide_eq_true (by first | (with_reducible assumption) | assumption)); (obtain ⟨ad145, A145_1, c145_1, e145, hx145_0, hx145_1, hl145_1, hi145_1⟩ := at_T24 HR0.out x10_1 p145 q145); (cases e145); (replace hx145_0 := (HB.out.cell (World.block_lt_of_cell? w _ hx145_0)).trans hx145_0); (replace hx145_1 := (HB.out.cell (World.block_lt_of_cell? w _ hx145_1)).trans hx145_1); have HR145_1 := Aside0.mk hi145_1; have HC145_1 := Aside0.mk hl145_1; clear hi145_1 hl145_1; replace p145 := eq_true p145; replace q145 := eq_true q145; (go_wp2_with (first | ((with_reducible refine gate_dst (N := 6) rfl ?_); refine box_event ?hg (N := 6) ?hd (cs := #[.string (⟨#[]⟩ : ByteArray), .slice none 0 0]) (t := 24) ?hr ?_; (case hd => rfl); (case hg => rfl); (case hr => first | (go_simp; done) | (go_simp; rfl)); intro gb146 hg w8 hbox hb; have n0_ := Aside0.mk (Kd.R_below HO_4.out hb); have n1_ := Aside0.mk (below_step HB.out hb); have n2_ := Aside0.mk (hbox); have n3_ := Aside0.mk ((by rw [hg]; exact (below_size HB.out) : w.heap.size ≤ gb146)); have n4_ := Aside0.mk ((by rw [hg]; exact (below_size HB.out) : w.heap.size ≤ gb146)); clear HO_4; clear HB; have HO_4 := n0_; have HB := n1_; have BK146 := n2_; have GW146 := n3_; have GE146 := n4_; clear n0_ n1_ n2_ n3_ n4_; clear hb hbox hg; have hcz9_0 : w8.cell? ⟨gb146, 0, none⟩ = some (.string (⟨#[]⟩ : ByteArray)) := (blk_cell BK146.out 0).trans rfl; have hcz9_1 : w8.cell? ⟨gb146, 1, none⟩ = some (.slice none 0 0) := (blk_cell BK146.out 1).trans rfl; have hfz9_0 := blk_frozen BK146.out 0; have hfz9_1 := blk_frozen BK146.out 1) | ((with_reducible refine gate_callee (f := 9) rfl ?_); refine goesL_ (some 15) rfl rfl Try.func9 (by kernel_rfl) rfl #[.agg #[.string ((rd_T24 l0 x10_1).f0), .slice A145_1 ((rd_T24 l0 x10_1).f1).length c145_1]] rfl (by (try simp only [List.map_toArray, List.map_cons, List.map_nil]); first | done | rfl | (simp only [List.length_drop, List.length_take]; rfl)) ?_; (with_reducible refine (segment_Validate.calls k1 ((rd_T24 l0 x10_1).f0) _ _ ((rd_T24 l0 x10_1).f1) t147 _ ?side1 ?side2 A5.out).mono ?_); (case side1 => exact Kd.C_below HR145_1.out (by repeat (first | (with_reducible first | exact HB.out | apply below_alloc | apply pw_below_drewN | apply below_drew1 | refine below_set ?_ GE146.out) | exact HB.out))); (case side2 => exact HC145_1.out); rintro e w10 ⟨rfl, hb⟩; refine ⟨_, rfl, ?_⟩; have n0_ := Aside0.mk (Kd.R_below (by (with_reducible repeat (first | apply Kd.R_alloc | apply Kd.R_drewN | apply Kd.R_drew)); exact (Kd.R_mono (Kd.R_far (p := ⟨gb146, 1, none⟩) (Kd.R_far (p := ⟨gb146, 0, none⟩) (Kd.R_types HO_4.out BK146.out (by decide)) (fun _ hk => hk.2) (.string ((rd_T24 l0 x10_1).f0))) (fun _ hk => hk.2) (.slice A145_1 ((rd_T24 l0 x10_1).f1).length c145_1)) (fun _ h_ => h_.1))) hb); have n1_ := Aside0.mk (blk_below (g := gb146) (o := .cells #[.string ((rd_T24 l0 x10_1).f0), .slice A145_1 ((rd_T24 l0 x10_1).f1).length c145_1] 24 (0, 0)) (by (with_reducible repeat (first | refine blk_drewN ?_ _ | refine blk_drew ?_ | refine blk_alloc ?_ _)); refine blk_put (cs := #[.string ((rd_T24 l0 x10_1).f0), .slice none 0 0]) ?_ 1 _ rfl; (with_reducible repeat (first | refine blk_drewN ?_ _ | refine blk_drew ?_ | refine blk_alloc ?_ _)); refine blk_put (cs := #[.string (⟨#[]⟩ : ByteArray), .slice none 0 0]) ?_ 0 _ rfl; (with_reducible repeat (first | refine blk_drewN ?_ _ | refine blk_drew ?_ | refine blk_alloc ?_ _)); exact BK146.out) hb); have n2_ := Aside0.mk (below_step (by repeat (first | (with_reducible first | exact HB.out | apply below_alloc | apply pw_below_drewN | apply below_drew1 | refine below_set ?_ GE146.out) | exact HB.out)) hb); clear HO_4; clear BK146; clear HB; have HO_4 := n0_; have BK146 := n1_; have HB := n2_; clear n0_ n1_ n2_; (try clear hb); (try clear hb2); (try clear hk); (try clear hi); have hcz11_0 : w10.cell? ⟨gb146, 0, none⟩ = some (.string ((rd_T24 l0 x10_1).f0)) := (blk_cell BK146.out 0).trans rfl; have hcz11_1 : w10.cell? ⟨gb146, 1, none⟩ = some (.slice A145_1 ((rd_T24 l0 x10_1).f1).length c145_1) := (blk_cell BK146.out 1).trans rfl; have hfz11_0 := blk_frozen BK146.out 0; have hfz11_1 := blk_frozen BK146.out 1; obtain ⟨Ao12, co12, eo12⟩ := Kd.R_slice HO_4.out; subst eo12) | ((with_reducible refine gate_callee (f := 27) rfl ?_); refine goesL_ (some 21) rfl rfl Try.func27 (by kernel_rfl) rfl #[.slice Ao12 x4_1.length co12, .agg #[.string ((rd_T24 l0 x10_1).f0), .slice A145_1 ((rd_T24 l0 x10_1).f1).length c145_1]] rfl (by (try simp only [List.map_toArray, List.map_cons, List.map_nil]); first | done | rfl | (simp only [List.length_drop, List.length_take]; rfl)) ?_; (with_reducible refine (segment_put.calls k1 (fun k_ => some k_ = (.slice Ao12 x4_1.length co12 : Value).ownBlock) (.slice Ao12 x4_1.length co12) x4_1 ((rd_T24 l0 x10_1).f0) _ _ ((rd_T24 l0 x10_1).f1) t148 w _ ?side1 ?side2 ?side3 ?side4 A7.out).mono ?_); (case side1 => repeat (first | (with_reducible first | exact HB.out | apply below_alloc | apply pw_below_drewN | apply below_drew1 | refine below_set ?_ GE146.out) | exact HB.out)); (case side2 => exact Kd.R_tight rfl HO_4.out); (case side3 => exact Kd.C_kept_came (Kd.heap_slice 9 Kd.heap_string) HR145_1.out HB.out (fun k_ hs_ => (fun e_ => Kd.R_base HO_4.out k_ e_.symm) hs_)); (case side4 => exact HC145_1.out); rintro e w13 ⟨v149, rfl, ho0, hb, hkp⟩; refine ⟨_, rfl, ?_⟩; have n0_ := Aside0.mk (blk_kept BK146.out hkp (fun hs_ => (fun e_ => (Kd.R_ne HO_4.out BK146.out (by decide)) e_) hs_)); have n1_ := Aside0.mk (Kd.R_mono (ok' := fun k_ => True) ho0 (fun k_ hk_ => trivial)); have n2_ := Aside0.mk (hb); clear BK146; clear HB; clear HO_4; have BK146 := n0_; have HO150 := n1_; have HB := n2_; clear n0_ n1_ n2_; (try clear hb); (try clear hkp); (try clear ho0)))); (go_roundg k1); (case measure => have := HK1.out; omega); (case rel => exact ⟨(t148), (wrap64 (x10_1 + 1)), (by first | rfl | (simp; done) | (simp [*]; done)), H', ⟨by have := HK1.out; omega⟩, ⟨by (with_reducible repeat (first | apply Kd.R_alloc | apply Kd.R_drewN | apply Kd.R_drew)); exact HO150.out⟩, ⟨by repeat (first | (with_reducible first | exact HB.out | apply below_alloc | apply pw_below_drewN | apply below_drew1 | refine below_set ?_ GE146.out) | exact HB.out)⟩⟩)
            · (rw [if_neg c6] at H); (have c6b0 : (t147 == 0) = false := beq_eq_false_iff_ne.mpr c6); (have c6b1 : (t147 != 0) = true := bne_iff_ne.mpr c6); (simp only [Option.some.injEq, Prod.mk.injEq] at H); (obtain ⟨rfl, rfl⟩ := H); (have p145 : 0 ≤ (x10_1 : Int) := of_decide_eq_true (by first | (with_reducible assumption) | assumption)); (have q145 : x10_1 < (l0.length : Int) := of_decide_eq_true (by first | (with_reducible assumption) | assumption)); (obtain ⟨ad145, A145_1, c145_1, e145, hx145_0, hx145_1, hl145_1, hi145_1⟩ := at_T24 HR0.out x10_1 p145 q145); (cases e145); (replace hx145_0 := (HB.out.cell (World.block_lt_of_cell? w _ hx145_0)).trans hx145_0); (replace hx145_1 := (HB.out.cell (World.block_lt_of_cell? w _ hx145_1)).trans hx145_1); have HR145_1 := Aside0.mk hi145_1; have HC145_1 := Aside0.mk hl145_1; clear hi145_1 hl145_1; replace p145 := eq_true p145; replace q145 := eq_true q145; (go_wp2_with (first | ((with_reducible refine gate_dst (N := 6) rfl ?_); refine box_event ?hg (N := 6) ?hd (cs := #[.string (⟨#[]⟩ : ByteArray), .slice none 0 0]) (t := 24) ?hr ?_; (case hd => rfl); (case hg => rfl); (case hr => first | (go_simp; done) | (go_simp; rfl)); intro gb146 hg w14 hbox hb; have n0_ := Aside0.mk (Kd.R_below HO_4.out hb); have n1_ := Aside0.mk (below_step HB.out hb); have n2_ := Aside0.mk (hbox); have n3_ := Aside0.mk ((by rw [hg]; exact (below_size HB.out) : w.heap.size ≤ gb146)); have n4_ := Aside0.mk ((by rw [hg]; exact (below_size HB.out) : w.heap.size ≤ gb146)); clear HO_4; clear HB; have HO_4 := n0_; have HB := n1_; have BK146 := n2_; have GW146 := n3_; have GE146 := n4_; clear n0_ n1_ n2_ n3_ n4_; clear hb hbox hg; have hcz15_0 : w14.cell? ⟨gb146, 0, none⟩ = some (.string (⟨#[]⟩ : ByteArray)) := (blk_cell BK146.out 0).trans rfl; have hcz15_1 : w14.cell? ⟨gb146, 1, none⟩ = some (.slice none 0 0) := (blk_cell BK146.out 1).trans rfl; have hfz15_0 := blk_frozen BK146.out 0; have hfz15_1 := blk_frozen BK146.out 1) | ((with_reducible refine gate_callee (f := 9) rfl ?_); refine goesL_ (some 15) rfl rfl Try.func9 (by kernel_rfl) rfl #[.agg #[.string ((rd_T24 l0 x10_1).f0), .slice A145_1 ((rd_T24 l0 x10_1).f1).length c145_1]] rfl (by (try simp only [List.map_toArray, List.map_cons, List.map_nil]); first | done | rfl | (simp only [List.length_drop, List.length_take]; rfl)) ?_; (with_reducible refine (segment_Validate.calls k1 ((rd_T24 l0 x10_1).f0) _ _ ((rd_T24 l0 x10_1).f1) t147 _ ?side1 ?side2 A5.out).mono ?_); (case side1 => exact Kd.C_below HR145_1.out (by repeat (first | (with_reducible first | exact HB.out | apply below_alloc | apply pw_below_drewN | apply below_drew1 | refine below_set ?_ GE146.out) | exact HB.out))); (case side2 => exact HC145_1.out); rintro e w16 ⟨rfl, hb⟩; refine ⟨_, rfl, ?_⟩; have n0_ := Aside0.mk (Kd.R_below (by (with_reducible repeat (first | apply Kd.R_alloc | apply Kd.R_drewN | apply Kd.R_drew)); exact (Kd.R_mono (Kd.R_far (p := ⟨gb146, 1, none⟩) (Kd.R_far (p := ⟨gb146, 0, none⟩) (Kd.R_types HO_4.out BK146.out (by decide)) (fun _ hk => hk.2) (.string ((rd_T24 l0 x10_1).f0))) (fun _ hk => hk.2) (.slice A145_1 ((rd_T24 l0 x10_1).f1).length c145_1)) (fun _ h_ => h_.1))) hb); have n1_ := Aside0.mk (blk_below (g := gb146) (o := .cells #[.string ((rd_T24 l0 x10_1).f0), .slice A145_1 ((rd_T24 l0 x10_1).f1).length c145_1] 24 (0, 0)) (by (with_reducible repeat (first | refine blk_drewN ?_ _ | refine blk_drew ?_ | refine blk_alloc ?_ _)); refine blk_put (cs := #[.string ((rd_T24 l0 x10_1).f0), .slice none 0 0]) ?_ 1 _ rfl; (with_reducible repeat (first | refine blk_drewN ?_ _ | refine blk_drew ?_ | refine blk_alloc ?_ _)); refine blk_put (cs := #[.string (⟨#[]⟩ : ByteArray), .slice none 0 0]) ?_ 0 _ rfl; (with_reducible repeat (first | refine blk_drewN ?_ _ | refine blk_drew ?_ | refine blk_alloc ?_ _)); exact BK146.out) hb); have n2_ := Aside0.mk (below_step (by repeat (first | (with_reducible first | exact HB.out | apply below_alloc | apply pw_below_drewN | apply below_drew1 | refine below_set ?_ GE146.out) | exact HB.out)) hb); clear HO_4; clear BK146; clear HB; have HO_4 := n0_; have BK146 := n1_; have HB := n2_; clear n0_ n1_ n2_; (try clear hb); (try clear hb2); (try clear hk); (try clear hi)))); go_ret2; (exact ⟨_, by first | rfl | (simp [errW_none, errW_some] <;> rfl) | (simp [*, errW_none, errW_some] <;> rfl), by first | exact Kd.R_nil _ _ _ _ _ | exact Kd.N_nil _ _ _ _ _ | exact Kd.V_nil _ _ _ _ _ | exact Kd.Q_nil _ _ _ _ _ | exact Kd.S_nil _ _ _ _ _, by repeat (first | (with_reducible first | exact HB.out | apply below_alloc | apply pw_below_drewN | apply below_drew1 | refine below_set ?_ GE146.out) | exact HB.out)⟩)
          · (rw [if_neg c4] at H); (exact absurd H (by simp))
        · (rw [if_neg c3] at H); (exact absurd H (by simp))
      · (rw [if_neg c2] at H); (have c2b0 : decide (x10_1 < (l0.length : Int)) = false := decide_eq_false c2); clear c2; (simp only [Option.some.injEq, Prod.mk.injEq] at H); (obtain ⟨rfl, rfl⟩ := H); go_wp2; go_ret2; (exact ⟨_, by first | rfl | (simp [errW_none, errW_some] <;> rfl) | (simp [*, errW_none, errW_some] <;> rfl), by (with_reducible repeat (first | apply Kd.R_alloc | apply Kd.R_drewN | apply Kd.R_drew)); exact HO_4.out, by repeat (first | (with_reducible first | exact HB.out | apply below_alloc | apply pw_below_drewN | apply below_drew1) | exact HB.out)⟩)
/-! ### segment_length: function 29 -/
def segment_length.l0 : Nat → List Int → Int → Bool → Option (Int × Bool)
  | 0, _, _, _ => none
  | k + 1, x0, x4, x5 => if x4 < (x0.length : Int) then (if 0 ≤ x4 then (if (rd x0 x4) = 63 then (segment_length.l0 k x0 (wrap64 ((wrap64 (x4 + 1)) + 1)) x5) else (if (rd x0 x4) = 39 then (some (wrap64 (x4 + 1), true)) else (segment_length.l0 k x0 (wrap64 (x4 + 1)) x5))) else (none)) else (some (wrap64 (x4 + 1), x5))
def segment_length.f (k : Nat) (l0 : List Int) : Option (Int × Bool) := segment_length.l0 k l0 0 false
theorem segment_length.mono_l : ∀ k, (∀ y0 y1 y2, LeO (segment_length.l0 k y0 y1 y2) (segment_length.l0 (k + 1) y0 y1 y2))
  | 0 => fun _ _ _ r h => by simp [segment_length.l0] at h
  | k + 1 => by
    have ih0 := segment_length.mono_l k
    · intro y0 y1 y2
      unfold segment_length.l0
      repeat' first
      | (with_reducible exact ih0 _ _ _)
      | (with_reducible exact LeO.refl _)
      | (with_reducible exact LeO.none _)
      | (with_reducible refine LeO.ite ?_ ?_)
      | (with_reducible refine LeO.bind ?_ (fun _ => ?_))
      | exact ih0 _ _ _
      | exact LeO.none _
      | refine LeO.ite ?_ ?_
      | refine LeO.bind ?_ (fun _ => ?_)
theorem segment_length.mono : ∀ a0 k, LeO (segment_length.f k a0) (segment_length.f (k + 1) a0) := by
  intro a0 k; (have ih0 := segment_length.mono_l k); (unfold segment_length.f)
  repeat' first
      | (with_reducible exact ih0 _ _ _)
      | (with_reducible exact LeO.refl _)
      | (with_reducible exact LeO.none _)
      | (with_reducible refine LeO.ite ?_ ?_)
      | (with_reducible refine LeO.bind ?_ (fun _ => ?_))
      | exact ih0 _ _ _
      | exact LeO.none _
      | refine LeO.ite ?_ ?_
      | refine LeO.bind ?_ (fun _ => ?_)
set_option maxHeartbeats 8000000 in
set_option maxRecDepth 100000 in
theorem segment_length.calls (k : Nat) (A0 : Option Addr) (c0 : Nat) (l0 : List Int) (r1 : Int) (r2 : Bool) (w : World) (hr0 : Kd.C (Kd.int .u8) w A0 l0.length l0) (hc0 : l0.length ≤ c0) (h : segment_length.f k l0 = some (r1, r2)) :
    Calls Try.prog 29 #[.slice A0 l0.length c0] w fun e w' => e = .returned (.tuple #[.int .i64 r1, .bool r2]) ∧ Drawn0 w w' := by
  have HR0 := Aside0.mk hr0; have HC0 := Aside0.mk hc0; clear hr0 hc0; (have H : (segment_length.l0 k l0 0 false) = some (r1, r2) := h); clear h; have H' := Aside0.mk H; clear H; (go_enter Try.func29, Try.ntmps29); go_wp2; go_step3; go_wp2; go_step3; go_wp2; (go_loopg [4, 5] k (fun kq v4 v5 w' => ∃ (x4_1 : Int) (x5_1 : Bool), v4 = .int .i64 x4_1 ∧ v5 = .bool x5_1 ∧ Aside0 (segment_length.l0 kq l0 x4_1 x5_1 = some (r1, r2)) ∧ Aside0 (kq ≤ k) ∧ Drawn0 w w')); (case atStart => exact ⟨(0), (false), (by first | rfl | (simp; done) | (simp [*]; done)), (by first | rfl | (simp; done) | (simp [*]; done)), H', ⟨Nat.le_refl _⟩, by repeat (first | exact Drawn0.refl _ | apply Drawn0.step)⟩)
  case round =>
    clear H'; (obtain ⟨x4_1, x5_1, rfl, rfl, HA, HK1, ⟨m1, rfl⟩⟩ := hrel)
    cases gk with
    | zero => exact absurd HA.out (by simp [segment_length.l0])
    | succ k1 =>
      have H := HA.out; clear HA; (simp only [segment_length.l0] at H); (by_cases c2 : x4_1 < (l0.length : Int))
      · (rw [if_pos c2] at H); (have c2b0 : decide (x4_1 < (l0.length : Int)) = true := decide_eq_true c2); clear c2; (by_cases c3 : 0 ≤ x4_1)
        · (rw [if_pos c3] at H); (have c3b0 : decide (0 ≤ x4_1) = true := decide_eq_true c3); clear c3; (by_cases c4 : (rd l0 x4_1) = 63)
          · (rw [if_pos c4] at H); (have c4b0 : ((rd l0 x4_1) == 63) = true := beq_iff_eq.mpr c4); (have c4b1 : ((rd l0 x4_1) != 63) = false := bne_eq_false_iff_eq.mpr c4); clear c4; have H' := Aside0.mk H; clear H; (have p151 : 0 ≤ (x4_1 : Int) := of_decide_eq_true (by first | (with_reducible assumption) | assumption)); (have q151 : x4_1 < (l0.length : Int) := of_decide_eq_true (by first | (with_reducible assumption) | assumption)); (obtain ⟨ad151, e151, hx151_0⟩ := Kd.at_int HR0.out x4_1 p151 q151); (cases e151); replace p151 := eq_true p151; replace q151 := eq_true q151; go_wp2; (go_roundg k1); (case measure => have := HK1.out; omega); (case rel => exact ⟨(wrap64 ((wrap64 (x4_1 + 1)) + 1)), (x5_1), (by first | rfl | (simp; done) | (simp [*]; done)), (by first | rfl | (simp; done) | (simp [*]; done)), H', ⟨by have := HK1.out; omega⟩, by repeat (first | exact Drawn0.refl _ | apply Drawn0.step)⟩)
          · (rw [if_neg c4] at H); (have c4b0 : ((rd l0 x4_1) == 63) = false := beq_eq_false_iff_ne.mpr c4); (have c4b1 : ((rd l0 x4_1) != 63) = true := bne_iff_ne.mpr c4); (by_cases c5 : (rd l0 x4_1) = 39)
            · (rw [if_pos c5] at H); (have c5b0 : ((rd l0 x4_1) == 39) = true := beq_iff_eq.mpr c5); (have c5b1 : ((rd l0 x4_1) != 39) = false := bne_eq_false_iff_eq.mpr c5); clear c5; (simp only [Option.some.injEq, Prod.mk.injEq] at H); (obtain ⟨rfl, rfl⟩ := H); (have p151 : 0 ≤ (x4_1 : Int) := of_decide_eq_true (by first | (with_reducible assumption) | assumption)); (have q151 : x4_1 < (l0.length : Int) := of_decide_eq_true (by first | (with_reducible assumption) | assumption)); (obtain ⟨ad151, e151, hx151_0⟩ := Kd.at_int HR0.out x4_1 p151 q151); (cases e151); replace p151 := eq_true p151; replace q151 := eq_true q151; go_wp2; (rw [Exit.noGoto_ret]); go_ret2; (exact ⟨by first | rfl | (simp; done) | (simp [*]; done), by repeat (first | exact Drawn0.refl _ | apply Drawn0.step)⟩)
            · (rw [if_neg c5] at H); (have c5b0 : ((rd l0 x4_1) == 39) = false := beq_eq_false_iff_ne.mpr c5); (have c5b1 : ((rd l0 x4_1) != 39) = true := bne_iff_ne.mpr c5); have H' := Aside0.mk H; clear H; (have p151 : 0 ≤ (x4_1 : Int) := of_decide_eq_true (by first | (with_reducible assumption) | assumption)); (have q151 : x4_1 < (l0.length : Int) := of_decide_eq_true (by first | (with_reducible assumption) | assumption)); (obtain ⟨ad151, e151, hx151_0⟩ := Kd.at_int HR0.out x4_1 p151 q151); (cases e151); replace p151 := eq_true p151; replace q151 := eq_true q151; go_wp2; (go_roundg k1); (case measure => have := HK1.out; omega); (case rel => exact ⟨(wrap64 (x4_1 + 1)), (x5_1), (by first | rfl | (simp; done) | (simp [*]; done)), (by first | rfl | (simp; done) | (simp [*]; done)), H', ⟨by have := HK1.out; omega⟩, by repeat (first | exact Drawn0.refl _ | apply Drawn0.step)⟩)
        · (rw [if_neg c3] at H); (exact absurd H (by simp))
      · (rw [if_neg c2] at H); (have c2b0 : decide (x4_1 < (l0.length : Int)) = false := decide_eq_false c2); clear c2; (simp only [Option.some.injEq, Prod.mk.injEq] at H); (obtain ⟨rfl, rfl⟩ := H); go_wp2; (rw [Exit.noGoto_ret]); go_ret2; (exact ⟨by first | rfl | (simp; done) | (simp [*]; done), by repeat (first | exact Drawn0.refl _ | apply Drawn0.step)⟩)
end Go.Proofs.Ythdahpnjiighfaa.F
