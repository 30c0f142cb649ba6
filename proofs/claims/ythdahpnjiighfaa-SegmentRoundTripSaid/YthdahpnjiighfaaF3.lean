-- printed by this session's own copy of a printing program, out of the translation
import Derived.Test.YthdahpnjiighfaaF0
import Derived.Test.YthdahpnjiighfaaF1
import Derived.Test.YthdahpnjiighfaaF2
namespace Go.Proofs.Ythdahpnjiighfaa.F
open Go.RowKit Go.Proofs.YthdahpnjiighfaaW.PrintWords Go.Proofs.YthdahpnjiighfaaW.PrintLast Go.Proofs.YthdahpnjiighfaaW.PrintMore
attribute [local go_sem] max2_int min2_int max_two min_two max_three min_three max_four min_four   -- for this text's walks alone
set_option linter.unusedVariables false
set_option linter.unusedSimpArgs false

/-! ### segment_Validate: function 9 -/
def segment_Validate.l0 : Nat → List (List ByteArray) → Int → Int → ByteArray → List (List ByteArray) → Option (Int)
  | 0, _, _, _, _, _ => none
  | k + 1, x14, x15, x16, x105000, x105001 => if x16 < x15 then (if 0 ≤ x16 then (if x16 < (x14.length : Int) then (if ((rd_L1 x14 x16).length : Int) = 0 then (if x16 = (wrap64 ((x105001.length : Int) - 1)) then (some 1) else (if ((rd_L1 x14 x16).length : Int) > 0 then (if 0 ≤ (wrap64 (((rd_L1 x14 x16).length : Int) - 1)) then (if (wrap64 (((rd_L1 x14 x16).length : Int) - 1)) < ((rd_L1 x14 x16).length : Int) then (if (rdOf ByteArray.empty (rd_L1 x14 x16) (wrap64 (((rd_L1 x14 x16).length : Int) - 1))).toList = ([] : List UInt8) then (some 1) else (segment_Validate.l0 k x14 x15 (wrap64 (x16 + 1)) x105000 x105001)) else (none)) else (none)) else (segment_Validate.l0 k x14 x15 (wrap64 (x16 + 1)) x105000 x105001))) else (if ((rd_L1 x14 x16).length : Int) > 0 then (if 0 ≤ (wrap64 (((rd_L1 x14 x16).length : Int) - 1)) then (if (wrap64 (((rd_L1 x14 x16).length : Int) - 1)) < ((rd_L1 x14 x16).length : Int) then (if (rdOf ByteArray.empty (rd_L1 x14 x16) (wrap64 (((rd_L1 x14 x16).length : Int) - 1))).toList = ([] : List UInt8) then (some 1) else (segment_Validate.l0 k x14 x15 (wrap64 (x16 + 1)) x105000 x105001)) else (none)) else (none)) else (segment_Validate.l0 k x14 x15 (wrap64 (x16 + 1)) x105000 x105001))) else (none)) else (none)) else (some 0)
def segment_Validate.f (k : Nat) (a0_0 : ByteArray) (l0_1 : List (List ByteArray)) : Option (Int) := (segment_tag.f k a0_0).bind fun t105 => (if t105 = true then ((segment_limits.f k a0_0 l0_1).bind fun t106 => (if t106 = true then (segment_Validate.l0 k l0_1 (l0_1.length : Int) 0 a0_0 l0_1) else (some 8))) else (some 1))
theorem segment_Validate.mono_l : ∀ k, (∀ y0 y1 y2 y3 y4, LeO (segment_Validate.l0 k y0 y1 y2 y3 y4) (segment_Validate.l0 (k + 1) y0 y1 y2 y3 y4))
  | 0 => fun _ _ _ _ _ r h => by simp [segment_Validate.l0] at h
  | k + 1 => by
    have ih0 := segment_Validate.mono_l k
    · intro y0 y1 y2 y3 y4
      unfold segment_Validate.l0
      repeat' first
      | (with_reducible exact ih0 _ _ _ _ _)
      | (with_reducible exact segment_limits.mono _ _ _)
      | (with_reducible exact segment_tag.mono _ _)
      | (with_reducible exact LeO.refl _)
      | (with_reducible exact LeO.none _)
      | (with_reducible refine LeO.ite ?_ ?_)
      | (with_reducible refine LeO.bind ?_ (fun _ => ?_))
      | exact ih0 _ _ _ _ _
      | exact segment_limits.mono _ _ _
      | exact segment_tag.mono _ _
      | exact LeO.none _
      | refine LeO.ite ?_ ?_
      | refine LeO.bind ?_ (fun _ => ?_)
theorem segment_Validate.mono : ∀ a0 a1 k, LeO (segment_Validate.f k a0 a1) (segment_Validate.f (k + 1) a0 a1) := by
  intro a0 a1 k
  have ih0 := segment_Validate.mono_l k
  unfold segment_Validate.f
  repeat' first
      | (with_reducible exact ih0 _ _ _ _ _)
      | (with_reducible exact segment_limits.mono _ _ _)
      | (with_reducible exact segment_tag.mono _ _)
      | (with_reducible exact LeO.refl _)
      | (with_reducible exact LeO.none _)
      | (with_reducible refine LeO.ite ?_ ?_)
      | (with_reducible refine LeO.bind ?_ (fun _ => ?_))
      | exact ih0 _ _ _ _ _
      | exact segment_limits.mono _ _ _
      | exact segment_tag.mono _ _
      | exact LeO.none _
      | refine LeO.ite ?_ ?_
      | refine LeO.bind ?_ (fun _ => ?_)
set_option maxHeartbeats 8000000 in
set_option maxRecDepth 100000 in
theorem segment_Validate.calls (k : Nat) (a0_0 : ByteArray) (A0_1 : Option Addr) (c0_1 : Nat) (l0_1 : List (List ByteArray)) (r : Int) (w : World) (hr0_1 : Kd.C (Kd.slice 9 Kd.string) w A0_1 l0_1.length l0_1) (hc0_1 : l0_1.length ≤ c0_1) (h : segment_Validate.f k a0_0 l0_1 = some r) :
    Calls Try.prog 9 #[.agg #[.string a0_0, .slice A0_1 l0_1.length c0_1]] w fun e w' => e = .returned (.int .i64 r) ∧ Below w.heap.size w w' := by
  have hu24 := Try.underlying24
  have HR0_1 := Aside0.mk hr0_1
  have HC0_1 := Aside0.mk hc0_1
  clear hr0_1 hc0_1
  have HB := Aside0.mk (Below.refl w.heap.size w)
  have H : ((segment_tag.f k a0_0).bind fun t105 => (if t105 = true then ((segment_limits.f k a0_0 l0_1).bind fun t106 => (if t106 = true then (segment_Validate.l0 k l0_1 (l0_1.length : Int) 0 a0_0 l0_1) else (some 8))) else (some 1))) = some r := h
  clear h
  replace H := Option.bind_eq_some_iff.mp H
  obtain ⟨t105, A20, H⟩ := H
  replace H : (if t105 = true then ((segment_limits.f k a0_0 l0_1).bind fun t106 => (if t106 = true then (segment_Validate.l0 k l0_1 (l0_1.length : Int) 0 a0_0 l0_1) else (some 8))) else (some 1)) = some r := H
  have A2 := Aside0.mk A20
  clear A20
  by_cases c3 : t105 = true
  · subst c3
    have H1 : ((segment_limits.f k a0_0 l0_1).bind fun t106 => (if t106 = true then (segment_Validate.l0 k l0_1 (l0_1.length : Int) 0 a0_0 l0_1) else (some 8))) = some r := by rw [if_pos rfl] at H; exact H
    clear H
    have H := H1
    clear H1
    replace H := Option.bind_eq_some_iff.mp H
    obtain ⟨t106, A40, H⟩ := H
    replace H : (if t106 = true then (segment_Validate.l0 k l0_1 (l0_1.length : Int) 0 a0_0 l0_1) else (some 8)) = some r := H
    have A4 := Aside0.mk A40
    clear A40
    by_cases c5 : t106 = true
    · subst c5
      have H1 : (segment_Validate.l0 k l0_1 (l0_1.length : Int) 0 a0_0 l0_1) = some r := by rw [if_pos rfl] at H; exact H
      clear H
      have H := H1
      clear H1
      have H' := Aside0.mk H
      clear H
      go_enter Try.func9, Try.ntmps9
      go_wp2_with (first | ((with_reducible refine gate_dst (N := 1) rfl ?_); (try (refine gate_guard (by rfl) ?_; dsimp only)); refine box_event ?hg (N := 1) ?hd (cs := #[.string a0_0, .slice A0_1 l0_1.length c0_1]) (t := 24) ?hr ?_; (case hd => rfl); (case hg => rfl); (case hr => first | (go_simp; done) | (go_simp; rfl)); intro gb104 hg w6 hbox hb; have n0_ := Aside0.mk (below_step (by repeat (first | (with_reducible first | exact HB.out | apply below_alloc | apply pw_below_drewN | apply below_drew1) | exact HB.out)) hb); have n1_ := Aside0.mk (hbox); have n2_ := Aside0.mk ((by rw [hg]; exact (below_size (by repeat (first | (with_reducible first | exact HB.out | apply below_alloc | apply pw_below_drewN | apply below_drew1) | exact HB.out))) : w.heap.size ≤ gb104)); have n3_ := Aside0.mk ((by rw [hg]; exact (below_size (by repeat (first | (with_reducible first | exact HB.out | apply below_alloc | apply pw_below_drewN | apply below_drew1) | exact HB.out))) : w.heap.size ≤ gb104)); clear HB; have HB := n0_; have BK104 := n1_; have GW104 := n2_; have GE104 := n3_; clear n0_ n1_ n2_ n3_; clear hb hbox hg; have hcz7_0 : w6.cell? ⟨gb104, 0, none⟩ = some (.string a0_0) := (blk_cell BK104.out 0).trans rfl; have hcz7_1 : w6.cell? ⟨gb104, 1, none⟩ = some (.slice A0_1 l0_1.length c0_1) := (blk_cell BK104.out 1).trans rfl; have hfz7_0 := blk_frozen BK104.out 0; have hfz7_1 := blk_frozen BK104.out 1) | ((with_reducible refine gate_callee (f := 21) rfl ?_); refine goesL_ (some 8) rfl rfl Try.func21 (by kernel_rfl) rfl #[.string a0_0] rfl (by (try simp only [List.map_toArray, List.map_cons, List.map_nil]); first | done | rfl | (simp only [List.length_drop, List.length_take]; rfl)) ?_; (with_reducible refine (segment_tag.calls k a0_0 true _ A2.out).mono ?_); rintro e w' ⟨rfl, ⟨nd, rfl⟩⟩; refine ⟨_, rfl, ?_⟩) | ((with_reducible refine gate_callee (f := 22) rfl ?_); refine goesL_ (some 11) rfl rfl Try.func22 (by kernel_rfl) rfl #[.agg #[.string a0_0, .slice A0_1 l0_1.length c0_1]] rfl (by (try simp only [List.map_toArray, List.map_cons, List.map_nil]); first | done | rfl | (simp only [List.length_drop, List.length_take]; rfl)) ?_; (with_reducible refine (segment_limits.calls k a0_0 _ _ l0_1 true _ ?side1 ?side2 A4.out).mono ?_); (case side1 => repeat (first | exact (Kd.C_below HR0_1.out (by repeat (first | (with_reducible first | exact HB.out | apply below_alloc | apply pw_below_drewN | apply below_drew1 | refine below_set ?_ GE104.out) | exact HB.out))) | (with_reducible refine Kd.C_alloc ?_ _) | (with_reducible refine Kd.C_drewN ?_ _) | (with_reducible refine Kd.C_drew ?_))); (case side2 => exact HC0_1.out); rintro e w8 ⟨rfl, hb⟩; refine ⟨_, rfl, ?_⟩; have n0_ := Aside0.mk (blk_below (g := gb104) (o := .cells #[.string a0_0, .slice A0_1 l0_1.length c0_1] 24 (0, 0)) (by (with_reducible repeat (first | refine blk_drewN ?_ _ | refine blk_drew ?_ | refine blk_alloc ?_ _)); exact BK104.out) hb); have n1_ := Aside0.mk (below_step (by repeat (first | (with_reducible first | exact HB.out | apply below_alloc | apply pw_below_drewN | apply below_drew1 | refine below_set ?_ GE104.out) | exact HB.out)) hb); clear BK104; clear HB; have BK104 := n0_; have HB := n1_; clear n0_ n1_; (try clear hb); (try clear hb2); (try clear hk); (try clear hi); have hcz9_0 : w8.cell? ⟨gb104, 0, none⟩ = some (.string a0_0) := (blk_cell BK104.out 0).trans rfl; have hcz9_1 : w8.cell? ⟨gb104, 1, none⟩ = some (.slice A0_1 l0_1.length c0_1) := (blk_cell BK104.out 1).trans rfl; have hfz9_0 := blk_frozen BK104.out 0; have hfz9_1 := blk_frozen BK104.out 1))
      go_loopg [16] k (fun kq v16 w' => ∃ (x16_1 : Int), v16 = .int .i64 x16_1 ∧ Aside0 (segment_Validate.l0 kq l0_1 (l0_1.length : Int) x16_1 a0_0 l0_1 = some r) ∧ Aside0 (kq ≤ k) ∧ Aside0 (w'.heap[gb104]? = some (.cells #[.string a0_0, (.slice A0_1 l0_1.length c0_1)] 24 (0, 0))) ∧ Aside0 (Below w.heap.size w w'))
      case atStart => exact ⟨(0), (by first | rfl | (simp; done) | (simp [*]; done)), H', ⟨Nat.le_refl _⟩, ⟨by (with_reducible repeat (first | refine blk_drewN ?_ _ | refine blk_drew ?_ | refine blk_alloc ?_ _)); exact BK104.out⟩, ⟨by repeat (first | (with_reducible first | exact HB.out | apply below_alloc | apply pw_below_drewN | apply below_drew1 | refine below_set ?_ GE104.out) | exact HB.out)⟩⟩
      case round =>
        clear H'
        try clear c2
        try clear p2
        try clear c3
        try clear c5
        try clear c9
        try clear hcz7_0
        try clear hcz7_1
        try clear hcz9_0
        try clear hcz9_1
        try clear hfz7_0
        try clear hfz7_1
        try clear hfz9_0
        try clear hfz9_1
        obtain ⟨x16_1, rfl, HA, HK1, BK104, HB⟩ := hrel
        cases gk with
        | zero => exact absurd HA.out (by simp [segment_Validate.l0])
        | succ k1 =>
          have H := HA.out
          clear HA
          simp only [segment_Validate.l0] at H
          by_cases c10 : x16_1 < (l0_1.length : Int)
          · rw [if_pos c10] at H
            have c10b0 : decide (x16_1 < (l0_1.length : Int)) = true := decide_eq_true c10
            clear c10
            by_cases c11 : 0 ≤ x16_1
            · rw [if_pos c11] at H
              have c11b0 : decide (0 ≤ x16_1) = true := decide_eq_true c11
              clear c11
              by_cases c12 : x16_1 < (l0_1.length : Int)
              · rw [if_pos c12] at H
                have c12b0 : decide (x16_1 < (l0_1.length : Int)) = true := decide_eq_true c12
                clear c12
                by_cases c13 : ((rd_L1 l0_1 x16_1).length : Int) = 0
                · rw [if_pos c13] at H
                  have c13b0 : (((rd_L1 l0_1 x16_1).length : Int) == 0) = true := beq_iff_eq.mpr c13
                  have c13b1 : (((rd_L1 l0_1 x16_1).length : Int) != 0) = false := bne_eq_false_iff_eq.mpr c13
                  clear c13
                  by_cases c14 : x16_1 = (wrap64 ((l0_1.length : Int) - 1))
                  · rw [if_pos c14] at H
                    have c14b0 : (x16_1 == (wrap64 ((l0_1.length : Int) - 1))) = true := beq_iff_eq.mpr c14
                    have c14b1 : (x16_1 != (wrap64 ((l0_1.length : Int) - 1))) = false := bne_eq_false_iff_eq.mpr c14
                    clear c14
                    obtain rfl := Option.some.inj H
                    have p107 : 0 ≤ (x16_1 : Int) := of_decide_eq_true (by first | (with_reducible assumption) | assumption)
                    have q107 : x16_1 < (l0_1.length : Int) := of_decide_eq_true (by first | (with_reducible assumption) | assumption)
                    obtain ⟨ad107, A107_0, c107_0, e107, hx107_0, hl107_0, hi107_0⟩ := at_L1 HR0_1.out x16_1 p107 q107
                    cases e107
                    replace hx107_0 := (HB.out.cell (World.block_lt_of_cell? w _ hx107_0)).trans hx107_0
                    have HR107_0 := Aside0.mk hi107_0
                    have HC107_0 := Aside0.mk hl107_0
                    clear hi107_0 hl107_0
                    replace p107 := eq_true p107
                    replace q107 := eq_true q107
                    have hcz15_0 : wr.cell? ⟨gb104, 0, none⟩ = some (.string a0_0) := (blk_cell BK104.out 0).trans rfl
                    have hcz15_1 : wr.cell? ⟨gb104, 1, none⟩ = some (.slice (some ad107) l0_1.length c0_1) := (blk_cell BK104.out 1).trans rfl
                    have hfz15_0 := blk_frozen BK104.out 0
                    have hfz15_1 := blk_frozen BK104.out 1
                    go_wp2
                    go_ret
                    exact ⟨by first | rfl | (simp [errW_none, errW_some] <;> rfl) | (simp [*, errW_none, errW_some] <;> rfl), by repeat (first | (with_reducible first | exact HB.out | apply below_alloc | apply pw_below_drewN | apply below_drew1 | refine below_set ?_ GE104.out) | exact HB.out)⟩
                  · rw [if_neg c14] at H
                    have c14b0 : (x16_1 == (wrap64 ((l0_1.length : Int) - 1))) = false := beq_eq_false_iff_ne.mpr c14
                    have c14b1 : (x16_1 != (wrap64 ((l0_1.length : Int) - 1))) = true := bne_iff_ne.mpr c14
                    by_cases c16 : ((rd_L1 l0_1 x16_1).length : Int) > 0
                    · rw [if_pos c16] at H
                      have c16b0 : decide (0 < ((rd_L1 l0_1 x16_1).length : Int)) = true := decide_eq_true c16
                      have c16b1 : decide (0 < (rd_L1 l0_1 x16_1).length) = true := decide_eq_true (by omega)
                      clear c16
                      obtain ⟨ji17, hji17⟩ : ∃ j_ : Int, (wrap64 (((rd_L1 l0_1 x16_1).length : Int) - 1)) = j_ := ⟨_, rfl⟩
                      replace H : (if 0 ≤ (ji17) then (if (ji17) < ((rd_L1 l0_1 x16_1).length : Int) then (if (rdOf ByteArray.empty (rd_L1 l0_1 x16_1) (ji17)).toList = ([] : List UInt8) then (some 1) else (segment_Validate.l0 k1 l0_1 (l0_1.length : Int) (wrap64 (x16_1 + 1)) a0_0 l0_1)) else (none)) else (none)) = some r := by first | (rw [hji17] at H; exact H) | (simp only [hji17] at H ⊢; exact H)
                      have hji17w : (IntKind.i64.wrap (((rd_L1 l0_1 x16_1).length : Int) - 1)) = ji17 := (i64_w _).trans hji17
                      by_cases c18 : 0 ≤ (ji17)
                      · rw [if_pos c18] at H
                        have c18b0 : decide (0 ≤ (ji17)) = true := decide_eq_true c18
                        clear c18
                        by_cases c19 : (ji17) < ((rd_L1 l0_1 x16_1).length : Int)
                        · rw [if_pos c19] at H
                          have c19b0 : decide ((ji17) < ((rd_L1 l0_1 x16_1).length : Int)) = true := decide_eq_true c19
                          clear c19
                          by_cases c20 : (rdOf ByteArray.empty (rd_L1 l0_1 x16_1) (ji17)).toList = ([] : List UInt8)
                          · rw [if_pos c20] at H
                            have c20b0 : ((rdOf ByteArray.empty (rd_L1 l0_1 x16_1) (ji17)).toList == ([] : List UInt8)) = true := beq_iff_eq.mpr c20
                            have c20b1 : ((rdOf ByteArray.empty (rd_L1 l0_1 x16_1) (ji17)).toList != ([] : List UInt8)) = false := bne_eq_false_iff_eq.mpr c20
                            clear c20
                            obtain rfl := Option.some.inj H
                            have p107 : 0 ≤ (x16_1 : Int) := of_decide_eq_true (by first | (with_reducible assumption) | assumption)
                            have q107 : x16_1 < (l0_1.length : Int) := of_decide_eq_true (by first | (with_reducible assumption) | assumption)
                            obtain ⟨ad107, A107_0, c107_0, e107, hx107_0, hl107_0, hi107_0⟩ := at_L1 HR0_1.out x16_1 p107 q107
                            cases e107
                            replace hx107_0 := (HB.out.cell (World.block_lt_of_cell? w _ hx107_0)).trans hx107_0
                            have HR107_0 := Aside0.mk hi107_0
                            have HC107_0 := Aside0.mk hl107_0
                            clear hi107_0 hl107_0
                            replace p107 := eq_true p107
                            replace q107 := eq_true q107
                            have hcz21_0 : wr.cell? ⟨gb104, 0, none⟩ = some (.string a0_0) := (blk_cell BK104.out 0).trans rfl
                            have hcz21_1 : wr.cell? ⟨gb104, 1, none⟩ = some (.slice (some ad107) l0_1.length c0_1) := (blk_cell BK104.out 1).trans rfl
                            have hfz21_0 := blk_frozen BK104.out 0
                            have hfz21_1 := blk_frozen BK104.out 1
                            have p108 : 0 ≤ ((ji17) : Int) := of_decide_eq_true (by first | (with_reducible assumption) | assumption)
                            have q108 : (ji17) < ((rd_L1 l0_1 x16_1).length : Int) := of_decide_eq_true (by first | (with_reducible assumption) | assumption)
                            obtain ⟨ad108, e108, hx108_0⟩ := Kd.at_string HR107_0.out (ji17) p108 q108
                            cases e108
                            replace hx108_0 := (HB.out.cell (World.block_lt_of_cell? w _ hx108_0)).trans hx108_0
                            replace p108 := eq_true p108
                            replace q108 := eq_true q108
                            go_wp2
                            go_ret
                            exact ⟨by first | rfl | (simp [errW_none, errW_some] <;> rfl) | (simp only [← hji17]; first | rfl | (simp [errW_none, errW_some] <;> rfl)) | (simp [*, errW_none, errW_some] <;> rfl), by repeat (first | (with_reducible first | exact HB.out | apply below_alloc | apply pw_below_drewN | apply below_drew1 | refine below_set ?_ GE104.out) | exact HB.out)⟩
                          · rw [if_neg c20] at H
                            have c20b0 : ((rdOf ByteArray.empty (rd_L1 l0_1 x16_1) (ji17)).toList == ([] : List UInt8)) = false := beq_eq_false_iff_ne.mpr c20
                            have c20b1 : ((rdOf ByteArray.empty (rd_L1 l0_1 x16_1) (ji17)).toList != ([] : List UInt8)) = true := bne_iff_ne.mpr c20
                            have H' := Aside0.mk H
                            clear H
                            have p107 : 0 ≤ (x16_1 : Int) := of_decide_eq_true (by first | (with_reducible assumption) | assumption)
                            have q107 : x16_1 < (l0_1.length : Int) := of_decide_eq_true (by first | (with_reducible assumption) | assumption)
                            obtain ⟨ad107, A107_0, c107_0, e107, hx107_0, hl107_0, hi107_0⟩ := at_L1 HR0_1.out x16_1 p107 q107
                            cases e107
                            replace hx107_0 := (HB.out.cell (World.block_lt_of_cell? w _ hx107_0)).trans hx107_0
                            have HR107_0 := Aside0.mk hi107_0
                            have HC107_0 := Aside0.mk hl107_0
                            clear hi107_0 hl107_0
                            replace p107 := eq_true p107
                            replace q107 := eq_true q107
                            have hcz22_0 : wr.cell? ⟨gb104, 0, none⟩ = some (.string a0_0) := (blk_cell BK104.out 0).trans rfl
                            have hcz22_1 : wr.cell? ⟨gb104, 1, none⟩ = some (.slice (some ad107) l0_1.length c0_1) := (blk_cell BK104.out 1).trans rfl
                            have hfz22_0 := blk_frozen BK104.out 0
                            have hfz22_1 := blk_frozen BK104.out 1
                            have p108 : 0 ≤ ((ji17) : Int) := of_decide_eq_true (by first | (with_reducible assumption) | assumption)
                            have q108 : (ji17) < ((rd_L1 l0_1 x16_1).length : Int) := of_decide_eq_true (by first | (with_reducible assumption) | assumption)
                            obtain ⟨ad108, e108, hx108_0⟩ := Kd.at_string HR107_0.out (ji17) p108 q108
                            cases e108
                            replace hx108_0 := (HB.out.cell (World.block_lt_of_cell? w _ hx108_0)).trans hx108_0
                            replace p108 := eq_true p108
                            replace q108 := eq_true q108
                            go_wp2
                            go_roundg k1
                            case measure => have := HK1.out; omega
                            case rel => exact ⟨(wrap64 (x16_1 + 1)), (by first | rfl | (simp; done) | (simp [*]; done)), H', ⟨by have := HK1.out; omega⟩, ⟨by (with_reducible repeat (first | refine blk_drewN ?_ _ | refine blk_drew ?_ | refine blk_alloc ?_ _)); exact BK104.out⟩, ⟨by repeat (first | (with_reducible first | exact HB.out | apply below_alloc | apply pw_below_drewN | apply below_drew1 | refine below_set ?_ GE104.out) | exact HB.out)⟩⟩
                        · rw [if_neg c19] at H
                          exact absurd H (by simp)
                      · rw [if_neg c18] at H
                        exact absurd H (by simp)
                    · rw [if_neg c16] at H
                      have c16b0 : decide (0 < ((rd_L1 l0_1 x16_1).length : Int)) = false := decide_eq_false c16
                      have c16b1 : decide (0 < (rd_L1 l0_1 x16_1).length) = false := decide_eq_false (by omega)
                      clear c16
                      have H' := Aside0.mk H
                      clear H
                      have p107 : 0 ≤ (x16_1 : Int) := of_decide_eq_true (by first | (with_reducible assumption) | assumption)
                      have q107 : x16_1 < (l0_1.length : Int) := of_decide_eq_true (by first | (with_reducible assumption) | assumption)
                      obtain ⟨ad107, A107_0, c107_0, e107, hx107_0, hl107_0, hi107_0⟩ := at_L1 HR0_1.out x16_1 p107 q107
                      cases e107
                      replace hx107_0 := (HB.out.cell (World.block_lt_of_cell? w _ hx107_0)).trans hx107_0
                      have HR107_0 := Aside0.mk hi107_0
                      have HC107_0 := Aside0.mk hl107_0
                      clear hi107_0 hl107_0
                      replace p107 := eq_true p107
                      replace q107 := eq_true q107
                      have hcz23_0 : wr.cell? ⟨gb104, 0, none⟩ = some (.string a0_0) := (blk_cell BK104.out 0).trans rfl
                      have hcz23_1 : wr.cell? ⟨gb104, 1, none⟩ = some (.slice (some ad107) l0_1.length c0_1) := (blk_cell BK104.out 1).trans rfl
                      have hfz23_0 := blk_frozen BK104.out 0
                      have hfz23_1 := blk_frozen BK104.out 1
                      go_wp2
                      go_roundg k1
                      case measure => have := HK1.out; omega
                      case rel => exact ⟨(wrap64 (x16_1 + 1)), (by first | rfl | (simp; done) | (simp [*]; done)), H', ⟨by have := HK1.out; omega⟩, ⟨by (with_reducible repeat (first | refine blk_drewN ?_ _ | refine blk_drew ?_ | refine blk_alloc ?_ _)); exact BK104.out⟩, ⟨by repeat (first | (with_reducible first | exact HB.out | apply below_alloc | apply pw_below_drewN | apply below_drew1 | refine below_set ?_ GE104.out) | exact HB.out)⟩⟩
                · rw [if_neg c13] at H
                  have c13b0 : (((rd_L1 l0_1 x16_1).length : Int) == 0) = false := beq_eq_false_iff_ne.mpr c13
                  have c13b1 : (((rd_L1 l0_1 x16_1).length : Int) != 0) = true := bne_iff_ne.mpr c13
                  have c13b2 : ¬ ((rd_L1 l0_1 x16_1) = []) := fun h_ => c13 (by rw [h_]; rfl)
                  by_cases c24 : ((rd_L1 l0_1 x16_1).length : Int) > 0
                  · rw [if_pos c24] at H
                    have c24b0 : decide (0 < ((rd_L1 l0_1 x16_1).length : Int)) = true := decide_eq_true c24
                    have c24b1 : decide (0 < (rd_L1 l0_1 x16_1).length) = true := decide_eq_true (by omega)
                    clear c24
                    obtain ⟨ji25, hji25⟩ : ∃ j_ : Int, (wrap64 (((rd_L1 l0_1 x16_1).length : Int) - 1)) = j_ := ⟨_, rfl⟩
                    replace H : (if 0 ≤ (ji25) then (if (ji25) < ((rd_L1 l0_1 x16_1).length : Int) then (if (rdOf ByteArray.empty (rd_L1 l0_1 x16_1) (ji25)).toList = ([] : List UInt8) then (some 1) else (segment_Validate.l0 k1 l0_1 (l0_1.length : Int) (wrap64 (x16_1 + 1)) a0_0 l0_1)) else (none)) else (none)) = some r := by first | (rw [hji25] at H; exact H) | (simp only [hji25] at H ⊢; exact H)
                    have hji25w : (IntKind.i64.wrap (((rd_L1 l0_1 x16_1).length : Int) - 1)) = ji25 := (i64_w _).trans hji25
                    by_cases c26 : 0 ≤ (ji25)
                    · rw [if_pos c26] at H
                      have c26b0 : decide (0 ≤ (ji25)) = true := decide_eq_true c26
                      clear c26
                      by_cases c27 : (ji25) < ((rd_L1 l0_1 x16_1).length : Int)
                      · rw [if_pos c27] at H
                        have c27b0 : decide ((ji25) < ((rd_L1 l0_1 x16_1).length : Int)) = true := decide_eq_true c27
                        clear c27
                        by_cases c28 : (rdOf ByteArray.empty (rd_L1 l0_1 x16_1) (ji25)).toList = ([] : List UInt8)
                        · rw [if_pos c28] at H
                          have c28b0 : ((rdOf ByteArray.empty (rd_L1 l0_1 x16_1) (ji25)).toList == ([] : List UInt8)) = true := beq_iff_eq.mpr c28
                          have c28b1 : ((rdOf ByteArray.empty (rd_L1 l0_1 x16_1) (ji25)).toList != ([] : List UInt8)) = false := bne_eq_false_iff_eq.mpr c28
                          clear c28
                          obtain rfl := Option.some.inj H
                          have p107 : 0 ≤ (x16_1 : Int) := of_decide_eq_true (by first | (with_reducible assumption) | assumption)
                          have q107 : x16_1 < (l0_1.length : Int) := of_decide_eq_true (by first | (with_reducible assumption) | assumption)
                          obtain ⟨ad107, A107_0, c107_0, e107, hx107_0, hl107_0, hi107_0⟩ := at_L1 HR0_1.out x16_1 p107 q107
                          cases e107
                          replace hx107_0 := (HB.out.cell (World.block_lt_of_cell? w _ hx107_0)).trans hx107_0
                          have HR107_0 := Aside0.mk hi107_0
                          have HC107_0 := Aside0.mk hl107_0
                          clear hi107_0 hl107_0
                          replace p107 := eq_true p107
                          replace q107 := eq_true q107
                          have p109 : 0 ≤ ((ji25) : Int) := of_decide_eq_true (by first | (with_reducible assumption) | assumption)
                          have q109 : (ji25) < ((rd_L1 l0_1 x16_1).length : Int) := of_decide_eq_true (by first | (with_reducible assumption) | assumption)
                          obtain ⟨ad109, e109, hx109_0⟩ := Kd.at_string HR107_0.out (ji25) p109 q109
                          cases e109
                          replace hx109_0 := (HB.out.cell (World.block_lt_of_cell? w _ hx109_0)).trans hx109_0
                          replace p109 := eq_true p109
                          replace q109 := eq_true q109
                          go_wp2
                          go_ret
                          exact ⟨by first | rfl | (simp [errW_none, errW_some] <;> rfl) | (simp only [← hji25]; first | rfl | (simp [errW_none, errW_some] <;> rfl)) | (simp [*, errW_none, errW_some] <;> rfl), by repeat (first | (with_reducible first | exact HB.out | apply below_alloc | apply pw_below_drewN | apply below_drew1 | refine below_set ?_ GE104.out) | exact HB.out)⟩
                        · rw [if_neg c28] at H
                          have c28b0 : ((rdOf ByteArray.empty (rd_L1 l0_1 x16_1) (ji25)).toList == ([] : List UInt8)) = false := beq_eq_false_iff_ne.mpr c28
                          have c28b1 : ((rdOf ByteArray.empty (rd_L1 l0_1 x16_1) (ji25)).toList != ([] : List UInt8)) = true := bne_iff_ne.mpr c28
                          have H' := Aside0.mk H
                          clear H
                          have p107 : 0 ≤ (x16_1 : Int) := of_decide_eq_true (by first | (with_reducible assumption) | assumption)
                          have q107 : x16_1 < (l0_1.length : Int) := of_decide_eq_true (by first | (with_reducible assumption) | assumption)
                          obtain ⟨ad107, A107_0, c107_0, e107, hx107_0, hl107_0, hi107_0⟩ := at_L1 HR0_1.out x16_1 p107 q107
                          cases e107
                          replace hx107_0 := (HB.out.cell (World.block_lt_of_cell? w _ hx107_0)).trans hx107_0
                          have HR107_0 := Aside0.mk hi107_0
                          have HC107_0 := Aside0.mk hl107_0
                          clear hi107_0 hl107_0
                          replace p107 := eq_true p107
                          replace q107 := eq_true q107
                          have p109 : 0 ≤ ((ji25) : Int) := of_decide_eq_true (by first | (with_reducible assumption) | assumption)
                          have q109 : (ji25) < ((rd_L1 l0_1 x16_1).length : Int) := of_decide_eq_true (by first | (with_reducible assumption) | assumption)
                          obtain ⟨ad109, e109, hx109_0⟩ := Kd.at_string HR107_0.out (ji25) p109 q109
                          cases e109
                          replace hx109_0 := (HB.out.cell (World.block_lt_of_cell? w _ hx109_0)).trans hx109_0
                          replace p109 := eq_true p109
                          replace q109 := eq_true q109
                          go_wp2
                          go_roundg k1
                          case measure => have := HK1.out; omega
                          case rel => exact ⟨(wrap64 (x16_1 + 1)), (by first | rfl | (simp; done) | (simp [*]; done)), H', ⟨by have := HK1.out; omega⟩, ⟨by (with_reducible repeat (first | refine blk_drewN ?_ _ | refine blk_drew ?_ | refine blk_alloc ?_ _)); exact BK104.out⟩, ⟨by repeat (first | (with_reducible first | exact HB.out | apply below_alloc | apply pw_below_drewN | apply below_drew1 | refine below_set ?_ GE104.out) | exact HB.out)⟩⟩
                      · rw [if_neg c27] at H
                        exact absurd H (by simp)
                    · rw [if_neg c26] at H
                      exact absurd H (by simp)
                  · rw [if_neg c24] at H
                    have c24b0 : decide (0 < ((rd_L1 l0_1 x16_1).length : Int)) = false := decide_eq_false c24
                    have c24b1 : decide (0 < (rd_L1 l0_1 x16_1).length) = false := decide_eq_false (by omega)
                    clear c24
                    have H' := Aside0.mk H
                    clear H
                    have p107 : 0 ≤ (x16_1 : Int) := of_decide_eq_true (by first | (with_reducible assumption) | assumption)
                    have q107 : x16_1 < (l0_1.length : Int) := of_decide_eq_true (by first | (with_reducible assumption) | assumption)
                    obtain ⟨ad107, A107_0, c107_0, e107, hx107_0, hl107_0, hi107_0⟩ := at_L1 HR0_1.out x16_1 p107 q107
                    cases e107
                    replace hx107_0 := (HB.out.cell (World.block_lt_of_cell? w _ hx107_0)).trans hx107_0
                    have HR107_0 := Aside0.mk hi107_0
                    have HC107_0 := Aside0.mk hl107_0
                    clear hi107_0 hl107_0
                    replace p107 := eq_true p107
                    replace q107 := eq_true q107
                    go_wp2
                    go_roundg k1
                    case measure => have := HK1.out; omega
                    case rel => exact ⟨(wrap64 (x16_1 + 1)), (by first | rfl | (simp; done) | (simp [*]; done)), H', ⟨by have := HK1.out; omega⟩, ⟨by (with_reducible repeat (first | refine blk_drewN ?_ _ | refine blk_drew ?_ | refine blk_alloc ?_ _)); exact BK104.out⟩, ⟨by repeat (first | (with_reducible first | exact HB.out | apply below_alloc | apply pw_below_drewN | apply below_drew1 | refine below_set ?_ GE104.out) | exact HB.out)⟩⟩
              · rw [if_neg c12] at H
                exact absurd H (by simp)
            · rw [if_neg c11] at H
              exact absurd H (by simp)
          · rw [if_neg c10] at H
            have c10b0 : decide (x16_1 < (l0_1.length : Int)) = false := decide_eq_false c10
            clear c10
            obtain rfl := Option.some.inj H
            go_wp2
            go_ret
            exact ⟨by first | rfl | (simp [errW_none, errW_some] <;> rfl) | (simp [*, errW_none, errW_some] <;> rfl), by repeat (first | (with_reducible first | exact HB.out | apply below_alloc | apply pw_below_drewN | apply below_drew1 | refine below_set ?_ GE104.out) | exact HB.out)⟩
    · replace c5 := Bool.eq_false_iff.mpr c5
      subst c5
      have H1 : (some 8) = some r := by rw [if_neg (show ¬ (false = true) by decide)] at H; exact H
      clear H
      have H := H1
      clear H1
      obtain rfl := Option.some.inj H
      go_enter Try.func9, Try.ntmps9
      go_wp2_with (first | ((with_reducible refine gate_dst (N := 1) rfl ?_); (try (refine gate_guard (by rfl) ?_; dsimp only)); refine box_event ?hg (N := 1) ?hd (cs := #[.string a0_0, .slice A0_1 l0_1.length c0_1]) (t := 24) ?hr ?_; (case hd => rfl); (case hg => rfl); (case hr => first | (go_simp; done) | (go_simp; rfl)); intro gb104 hg w29 hbox hb; have n0_ := Aside0.mk (below_step (by repeat (first | (with_reducible first | exact HB.out | apply below_alloc | apply pw_below_drewN | apply below_drew1) | exact HB.out)) hb); have n1_ := Aside0.mk (hbox); have n2_ := Aside0.mk ((by rw [hg]; exact (below_size (by repeat (first | (with_reducible first | exact HB.out | apply below_alloc | apply pw_below_drewN | apply below_drew1) | exact HB.out))) : w.heap.size ≤ gb104)); have n3_ := Aside0.mk ((by rw [hg]; exact (below_size (by repeat (first | (with_reducible first | exact HB.out | apply below_alloc | apply pw_below_drewN | apply below_drew1) | exact HB.out))) : w.heap.size ≤ gb104)); clear HB; have HB := n0_; have BK104 := n1_; have GW104 := n2_; have GE104 := n3_; clear n0_ n1_ n2_ n3_; clear hb hbox hg; have hcz30_0 : w29.cell? ⟨gb104, 0, none⟩ = some (.string a0_0) := (blk_cell BK104.out 0).trans rfl; have hcz30_1 : w29.cell? ⟨gb104, 1, none⟩ = some (.slice A0_1 l0_1.length c0_1) := (blk_cell BK104.out 1).trans rfl; have hfz30_0 := blk_frozen BK104.out 0; have hfz30_1 := blk_frozen BK104.out 1) | ((with_reducible refine gate_callee (f := 21) rfl ?_); refine goesL_ (some 8) rfl rfl Try.func21 (by kernel_rfl) rfl #[.string a0_0] rfl (by (try simp only [List.map_toArray, List.map_cons, List.map_nil]); first | done | rfl | (simp only [List.length_drop, List.length_take]; rfl)) ?_; (with_reducible refine (segment_tag.calls k a0_0 true _ A2.out).mono ?_); rintro e w' ⟨rfl, ⟨nd, rfl⟩⟩; refine ⟨_, rfl, ?_⟩) | ((with_reducible refine gate_callee (f := 22) rfl ?_); refine goesL_ (some 11) rfl rfl Try.func22 (by kernel_rfl) rfl #[.agg #[.string a0_0, .slice A0_1 l0_1.length c0_1]] rfl (by (try simp only [List.map_toArray, List.map_cons, List.map_nil]); first | done | rfl | (simp only [List.length_drop, List.length_take]; rfl)) ?_; (with_reducible refine (segment_limits.calls k a0_0 _ _ l0_1 false _ ?side1 ?side2 A4.out).mono ?_); (case side1 => repeat (first | exact (Kd.C_below HR0_1.out (by repeat (first | (with_reducible first | exact HB.out | apply below_alloc | apply pw_below_drewN | apply below_drew1 | refine below_set ?_ GE104.out) | exact HB.out))) | (with_reducible refine Kd.C_alloc ?_ _) | (with_reducible refine Kd.C_drewN ?_ _) | (with_reducible refine Kd.C_drew ?_))); (case side2 => exact HC0_1.out); rintro e w31 ⟨rfl, hb⟩; refine ⟨_, rfl, ?_⟩; have n0_ := Aside0.mk (blk_below (g := gb104) (o := .cells #[.string a0_0, .slice A0_1 l0_1.length c0_1] 24 (0, 0)) (by (with_reducible repeat (first | refine blk_drewN ?_ _ | refine blk_drew ?_ | refine blk_alloc ?_ _)); exact BK104.out) hb); have n1_ := Aside0.mk (below_step (by repeat (first | (with_reducible first | exact HB.out | apply below_alloc | apply pw_below_drewN | apply below_drew1 | refine below_set ?_ GE104.out) | exact HB.out)) hb); clear BK104; clear HB; have BK104 := n0_; have HB := n1_; clear n0_ n1_; (try clear hb); (try clear hb2); (try clear hk); (try clear hi)))
      go_ret
      exact ⟨by first | rfl | (simp [errW_none, errW_some] <;> rfl) | (simp [*, errW_none, errW_some] <;> rfl), by repeat (first | (with_reducible first | exact HB.out | apply below_alloc | apply pw_below_drewN | apply below_drew1 | refine below_set ?_ GE104.out) | exact HB.out)⟩
  · replace c3 := Bool.eq_false_iff.mpr c3
    subst c3
    have H1 : (some 1) = some r := by rw [if_neg (show ¬ (false = true) by decide)] at H; exact H
    clear H
    have H := H1
    clear H1
    obtain rfl := Option.some.inj H
    go_enter Try.func9, Try.ntmps9
    go_wp2_with (first | ((with_reducible refine gate_dst (N := 1) rfl ?_); (try (refine gate_guard (by rfl) ?_; dsimp only)); refine box_event ?hg (N := 1) ?hd (cs := #[.string a0_0, .slice A0_1 l0_1.length c0_1]) (t := 24) ?hr ?_; (case hd => rfl); (case hg => rfl); (case hr => first | (go_simp; done) | (go_simp; rfl)); intro gb104 hg w32 hbox hb; have n0_ := Aside0.mk (below_step (by repeat (first | (with_reducible first | exact HB.out | apply below_alloc | apply pw_below_drewN | apply below_drew1) | exact HB.out)) hb); have n1_ := Aside0.mk (hbox); have n2_ := Aside0.mk ((by rw [hg]; exact (below_size (by repeat (first | (with_reducible first | exact HB.out | apply below_alloc | apply pw_below_drewN | apply below_drew1) | exact HB.out))) : w.heap.size ≤ gb104)); have n3_ := Aside0.mk ((by rw [hg]; exact (below_size (by repeat (first | (with_reducible first | exact HB.out | apply below_alloc | apply pw_below_drewN | apply below_drew1) | exact HB.out))) : w.heap.size ≤ gb104)); clear HB; have HB := n0_; have BK104 := n1_; have GW104 := n2_; have GE104 := n3_; clear n0_ n1_ n2_ n3_; clear hb hbox hg; have hcz33_0 : w32.cell? ⟨gb104, 0, none⟩ = some (.string a0_0) := (blk_cell BK104.out 0).trans rfl; have hcz33_1 : w32.cell? ⟨gb104, 1, none⟩ = some (.slice A0_1 l0_1.length c0_1) := (blk_cell BK104.out 1).trans rfl; have hfz33_0 := blk_frozen BK104.out 0; have hfz33_1 := blk_frozen BK104.out 1) | ((with_reducible refine gate_callee (f := 21) rfl ?_); refine goesL_ (some 8) rfl rfl Try.func21 (by kernel_rfl) rfl #[.string a0_0] rfl (by (try simp only [List.map_toArray, List.map_cons, List.map_nil]); first | done | rfl | (simp only [List.length_drop, List.length_take]; rfl)) ?_; (with_reducible refine (segment_tag.calls k a0_0 false _ A2.out).mono ?_); rintro e w' ⟨rfl, ⟨nd, rfl⟩⟩; refine ⟨_, rfl, ?_⟩))
    go_ret
    exact ⟨by first | rfl | (simp [errW_none, errW_some] <;> rfl) | (simp [*, errW_none, errW_some] <;> rfl), by repeat (first | (with_reducible first | exact HB.out | apply below_alloc | apply pw_below_drewN | apply below_drew1 | refine below_set ?_ GE104.out) | exact HB.out)⟩

end Go.Proofs.Ythdahpnjiighfaa.F
