-- PRINTED by print.py (a twelfth state) out of the translation. Not trusted: Lean checks it.
import Derived.Test.YthdahpnjiighfaaF0
import Derived.Test.YthdahpnjiighfaaF7
import Derived.Test.YthdahpnjiighfaaF10
import Derived.Test.YthdahpnjiighfaaF11
import Derived.Test.YthdahpnjiighfaaF14
import Derived.Test.YthdahpnjiighfaaF19
namespace Go.Proofs.Ythdahpnjiighfaa.F
open Go.RowKit Go.Proofs.YthdahpnjiighfaaW.PrintWords Go.Proofs.YthdahpnjiighfaaW.PrintLast Go.Proofs.YthdahpnjiighfaaW.PrintMore
attribute [local go_sem] max2_int min2_int max_two min_two max_three min_three max_four min_four   -- for this text's walks alone
set_option linter.unusedVariables false
set_option linter.unusedSimpArgs false

/-! ### customslaw06_SegmentRoundTrip: function 5 -/
def customslaw06_SegmentRoundTrip.j0 : Nat → List (S24) → List Int → Bool → Option (Bool)
  | 0, _, _, _ => none
  | k + 1, x3, x4, x44 => if x44 = true then (some false) else ((segment_Next.f k x4).bind fun bt403 => (if (x3.length : Int) = 0 then (if bt403.2.2.2 = 5 then ((customslaw06_awake.f k).bind fun t410 => (some t410)) else (some false)) else (if 1 ≤ (x3.length : Int) then ((segment_Encode.f k (x3.take 1)).bind fun bt416 => (if bt403.2.2.2 = 0 then (if bt416.2 = 0 then (if bt403.2.2.1 = (bt416.1.length : Int) then ((customsref06_SameSegments.f k (([(⟨bt403.1, bt403.2.1⟩ : S24)] : List (S24))) (x3.take 1)).bind fun t428 => (if t428 = true then ((customslaw06_awake.f k).bind fun t429 => (some t429)) else (some false))) else (some false)) else (some false)) else (some false))) else (none))))
def customslaw06_SegmentRoundTrip.f (k : Nat) (l0 : List Int) : Option (Bool) := (customsmade_Segments.f k l0).bind fun t390 => ((segment_Encode.f k t390).bind fun bt393 => ((segment_Decode.f k bt393.1).bind fun bt397 => (if bt393.2 = 0 then (if bt397.2.2 = 0 then (if bt397.2.1 = (bt393.1.length : Int) then ((customsref06_SameSegments.f k bt397.1 t390).bind fun t402 => (customslaw06_SegmentRoundTrip.j0 k t390 bt393.1 (!t402))) else (customslaw06_SegmentRoundTrip.j0 k t390 bt393.1 true)) else (customslaw06_SegmentRoundTrip.j0 k t390 bt393.1 true)) else (customslaw06_SegmentRoundTrip.j0 k t390 bt393.1 true))))
theorem customslaw06_SegmentRoundTrip.mono_l : ∀ k, (∀ y0 y1 y2, LeO (customslaw06_SegmentRoundTrip.j0 k y0 y1 y2) (customslaw06_SegmentRoundTrip.j0 (k + 1) y0 y1 y2))
  | 0 => fun _ _ _ r h => by simp [customslaw06_SegmentRoundTrip.j0] at h
  | k + 1 => by
    have ih0 := customslaw06_SegmentRoundTrip.mono_l k
    · intro y0 y1 y2
      unfold customslaw06_SegmentRoundTrip.j0
      repeat' first
      | (with_reducible exact ih0 _ _ _)
      | (with_reducible exact customslaw06_awake.mono _)
      | (with_reducible exact customsmade_Segments.mono _ _)
      | (with_reducible exact customsref06_SameSegments.mono _ _ _)
      | (with_reducible exact segment_Decode.mono _ _)
      | (with_reducible exact segment_Encode.mono _ _)
      | (with_reducible exact segment_Next.mono _ _)
      | (with_reducible exact LeO.refl _)
      | (with_reducible exact LeO.none _)
      | (with_reducible refine LeO.ite ?_ ?_)
      | (with_reducible refine LeO.bind ?_ (fun _ => ?_))
      | exact ih0 _ _ _
      | exact customslaw06_awake.mono _
      | exact customsmade_Segments.mono _ _
      | exact customsref06_SameSegments.mono _ _ _
      | exact segment_Decode.mono _ _
      | exact segment_Encode.mono _ _
      | exact segment_Next.mono _ _
      | exact LeO.none _
      | refine LeO.ite ?_ ?_
      | refine LeO.bind ?_ (fun _ => ?_)
theorem customslaw06_SegmentRoundTrip.mono : ∀ a0 k, LeO (customslaw06_SegmentRoundTrip.f k a0) (customslaw06_SegmentRoundTrip.f (k + 1) a0) := by
  intro a0 k
  have ih0 := customslaw06_SegmentRoundTrip.mono_l k
  unfold customslaw06_SegmentRoundTrip.f
  repeat' first
      | (with_reducible exact ih0 _ _ _)
      | (with_reducible exact customslaw06_awake.mono _)
      | (with_reducible exact customsmade_Segments.mono _ _)
      | (with_reducible exact customsref06_SameSegments.mono _ _ _)
      | (with_reducible exact segment_Decode.mono _ _)
      | (with_reducible exact segment_Encode.mono _ _)
      | (with_reducible exact segment_Next.mono _ _)
      | (with_reducible exact LeO.refl _)
      | (with_reducible exact LeO.none _)
      | (with_reducible refine LeO.ite ?_ ?_)
      | (with_reducible refine LeO.bind ?_ (fun _ => ?_))
      | exact ih0 _ _ _
      | exact customslaw06_awake.mono _
      | exact customsmade_Segments.mono _ _
      | exact customsref06_SameSegments.mono _ _ _
      | exact segment_Decode.mono _ _
      | exact segment_Encode.mono _ _
      | exact segment_Next.mono _ _
      | exact LeO.none _
      | refine LeO.ite ?_ ?_
      | refine LeO.bind ?_ (fun _ => ?_)
def customslaw06_SegmentRoundTrip.T10 : Bool × List (List Nat × List Nat) := (true, [([], []), ([0], [0]), ([1], [1]), ([2], [2]), ([3, 2], [2, 3]), ([2, 4], [2, 4]), ([5, 2], [5]), ([6], [6]), ([6], [6]), ([8, 6], [6, 8]), ([7, 9, 6], [6, 7, 9]), ([6, 10], [6, 10]), ([11, 6], [11]), ([12], [12]), ([13, 12], [12, 13]), ([12], [12]), ([15, 12], [12, 15]), ([14, 16, 12, 12], [12, 14, 16]), ([12, 17], [12, 17]), ([18, 17], [18]), ([19, 19], [19]), ([19, 20], [19, 20]), ([21, 20, 0, 1, 2, 3, 4, 5, 6, 7, 8, 9, 10, 11, 12, 13, 14, 15, 16, 17, 18, 19, 20, 21], [21])])
def customslaw06_SegmentRoundTrip.B10 : List Nat := [0, 1, 3, 7, 15, 31, 63, 127, 127, 383, 1023, 2047, 4095, 8191, 16383, 8191, 40959, 131071, 262143, 524287, 1048575, 2097151, 4194303]
theorem customslaw06_SegmentRoundTrip.tab10 : rtab .any (opsOf Try.f5 10) = customslaw06_SegmentRoundTrip.T10 := by kernel_rfl
theorem customslaw06_SegmentRoundTrip.bits10 : waitsOk customslaw06_SegmentRoundTrip.T10.2 customslaw06_SegmentRoundTrip.B10 = true := by kernel_rfl
set_option maxHeartbeats 8000000 in
set_option maxRecDepth 100000 in
theorem customslaw06_SegmentRoundTrip.calls (k : Nat) (A0 : Option Addr) (c0 : Nat) (l0 : List Int) (r : Bool) (w : World) (hr0 : Kd.C (Kd.int .i64) w A0 l0.length l0) (hc0 : l0.length ≤ c0) (h : customslaw06_SegmentRoundTrip.f k l0 = some r) (hT_ : r = true) :
    Calls Try.prog 5 #[.slice A0 l0.length c0] w fun e w' => e = .returned (.bool r) ∧ Below w.heap.size w w' := by
  have hu24 := Try.underlying24
  have HR0 := Aside0.mk hr0
  have HC0 := Aside0.mk hc0
  clear hr0 hc0
  have HB := Aside0.mk (Below.refl w.heap.size w)
  have H : ((customsmade_Segments.f k l0).bind fun t390 => ((segment_Encode.f k t390).bind fun bt393 => ((segment_Decode.f k bt393.1).bind fun bt397 => (if bt393.2 = 0 then (if bt397.2.2 = 0 then (if bt397.2.1 = (bt393.1.length : Int) then ((customsref06_SameSegments.f k bt397.1 t390).bind fun t402 => (customslaw06_SegmentRoundTrip.j0 k t390 bt393.1 (!t402))) else (customslaw06_SegmentRoundTrip.j0 k t390 bt393.1 true)) else (customslaw06_SegmentRoundTrip.j0 k t390 bt393.1 true)) else (customslaw06_SegmentRoundTrip.j0 k t390 bt393.1 true))))) = some r := h
  clear h
  replace H := Option.bind_eq_some_iff.mp H
  obtain ⟨t390, A20, H⟩ := H
  replace H : ((segment_Encode.f k t390).bind fun bt393 => ((segment_Decode.f k bt393.1).bind fun bt397 => (if bt393.2 = 0 then (if bt397.2.2 = 0 then (if bt397.2.1 = (bt393.1.length : Int) then ((customsref06_SameSegments.f k bt397.1 t390).bind fun t402 => (customslaw06_SegmentRoundTrip.j0 k t390 bt393.1 (!t402))) else (customslaw06_SegmentRoundTrip.j0 k t390 bt393.1 true)) else (customslaw06_SegmentRoundTrip.j0 k t390 bt393.1 true)) else (customslaw06_SegmentRoundTrip.j0 k t390 bt393.1 true)))) = some r := H
  have A2 := Aside0.mk A20
  clear A20
  replace H := Option.bind_eq_some_iff.mp H
  obtain ⟨⟨t393, t394⟩, A30, H⟩ := H
  replace H : ((segment_Decode.f k t393).bind fun bt397 => (if t394 = 0 then (if bt397.2.2 = 0 then (if bt397.2.1 = (t393.length : Int) then ((customsref06_SameSegments.f k bt397.1 t390).bind fun t402 => (customslaw06_SegmentRoundTrip.j0 k t390 t393 (!t402))) else (customslaw06_SegmentRoundTrip.j0 k t390 t393 true)) else (customslaw06_SegmentRoundTrip.j0 k t390 t393 true)) else (customslaw06_SegmentRoundTrip.j0 k t390 t393 true))) = some r := H
  have A3 := Aside0.mk A30
  clear A30
  replace H := Option.bind_eq_some_iff.mp H
  obtain ⟨⟨t397, t398, t399⟩, A40, H⟩ := H
  replace H : (if t394 = 0 then (if t399 = 0 then (if t398 = (t393.length : Int) then ((customsref06_SameSegments.f k t397 t390).bind fun t402 => (customslaw06_SegmentRoundTrip.j0 k t390 t393 (!t402))) else (customslaw06_SegmentRoundTrip.j0 k t390 t393 true)) else (customslaw06_SegmentRoundTrip.j0 k t390 t393 true)) else (customslaw06_SegmentRoundTrip.j0 k t390 t393 true)) = some r := H
  have A4 := Aside0.mk A40
  clear A40
  have HC5 := Aside0.mk H
  clear H
  go_enter Try.func5, Try.ntmps5
  go_upto_region 4 with (first | ((with_reducible refine gate_callee (f := 12) rfl ?_); refine goesL_ (some 15) rfl rfl Try.func12 (by kernel_rfl) rfl #[.slice A0 l0.length c0] rfl (by (try simp only [List.map_toArray, List.map_cons, List.map_nil]); first | done | rfl | (simp only [List.length_drop, List.length_take]; rfl)) ?_; (with_reducible refine (customsmade_Segments.calls k _ _ l0 t390 _ ?side1 ?side2 A2.out).mono ?_); (case side1 => repeat (first | exact HR0.out | (with_reducible refine Kd.C_alloc ?_ _) | (with_reducible refine Kd.C_drewN ?_ _) | (with_reducible refine Kd.C_drew ?_))); (case side2 => exact HC0.out); rintro e w6 ⟨v391, rfl, ho0, hb⟩; refine ⟨_, rfl, ?_⟩; have n0_ := Aside0.mk (Kd.N_lower (Kd.N_mono (ok' := fun k_ => True) (Kd.R_N (Kd.R_bound ho0)) (fun k_ hk_ => trivial)) (below_size (by repeat (first | (with_reducible first | exact HB.out | apply below_alloc | apply pw_below_drewN | apply below_drew1) | exact HB.out)))); have n1_ := Aside0.mk (below_step (by repeat (first | (with_reducible first | exact HB.out | apply below_alloc | apply pw_below_drewN | apply below_drew1) | exact HB.out)) hb); clear HB; have HO392 := n0_; have HB := n1_; clear n0_ n1_; (try clear hb); (try clear hb2); (try clear hk); (try clear hi); (try clear ho0); obtain ⟨Ao7, co7, eo7⟩ := Kd.N_slice HO392.out; subst eo7) | ((with_reducible refine gate_callee (f := 13) rfl ?_); refine goesL_ (some 18) rfl rfl Try.func13 (by kernel_rfl) rfl #[.slice Ao7 t390.length co7] rfl (by (try simp only [List.map_toArray, List.map_cons, List.map_nil]); first | done | rfl | (simp only [List.length_drop, List.length_take]; rfl)) ?_; (with_reducible refine (segment_Encode.calls k _ _ t390 t393 t394 _ ?side1 ?side2 A3.out).mono ?_); (case side1 => repeat (first | exact (Kd.N_reads' HO392.out).2.2 | (with_reducible refine Kd.C_alloc ?_ _) | (with_reducible refine Kd.C_drewN ?_ _) | (with_reducible refine Kd.C_drew ?_))); (case side2 => exact (Kd.N_reads' HO392.out).2.1); rintro e w8 ⟨v395, rfl, ho0, hb⟩; refine ⟨_, rfl, ?_⟩; have n0_ := Aside0.mk (Kd.N_elder' (by (with_reducible repeat (first | apply Kd.N_alloc | apply Kd.N_drewN | apply Kd.N_drew)); exact HO392.out) (Kd.R_base ho0) hb); have n1_ := Aside0.mk (Kd.R_lower ho0 (below_size (by repeat (first | (with_reducible first | exact HB.out | apply below_alloc | apply pw_below_drewN | apply below_drew1) | exact HB.out)))); have n2_ := Aside0.mk (below_step (by repeat (first | (with_reducible first | exact HB.out | apply below_alloc | apply pw_below_drewN | apply below_drew1) | exact HB.out)) hb); clear HO392; clear HB; have HO392 := n0_; have HO396 := n1_; have HB := n2_; clear n0_ n1_ n2_; (try clear hb); (try clear hb2); (try clear hk); (try clear hi); (try clear ho0); obtain ⟨Ao9, co9, eo9⟩ := Kd.R_slice HO396.out; subst eo9) | ((with_reducible refine gate_callee (f := 16) rfl ?_); refine goesL_ (some 23) rfl rfl Try.func16 (by kernel_rfl) rfl #[.slice Ao9 t393.length co9] rfl (by (try simp only [List.map_toArray, List.map_cons, List.map_nil]); first | done | rfl | (simp only [List.length_drop, List.length_take]; rfl)) ?_; (with_reducible refine (segment_Decode.calls k _ _ t393 t397 t398 t399 _ ?side1 ?side2 A4.out).mono ?_); (case side1 => repeat (first | exact (Kd.R_reads' HO396.out).2.2 | (with_reducible refine Kd.C_alloc ?_ _) | (with_reducible refine Kd.C_drewN ?_ _) | (with_reducible refine Kd.C_drew ?_))); (case side2 => exact (Kd.R_reads' HO396.out).2.1); rintro e w10 ⟨v400, rfl, ho0, hb⟩; refine ⟨_, rfl, ?_⟩; have n0_ := Aside0.mk (Kd.N_elder' (by (with_reducible repeat (first | apply Kd.N_alloc | apply Kd.N_drewN | apply Kd.N_drew)); exact HO392.out) (Kd.R_base ho0) hb); have n1_ := Aside0.mk (Kd.R_below (by (with_reducible repeat (first | apply Kd.R_alloc | apply Kd.R_drewN | apply Kd.R_drew)); exact HO396.out) hb); have n2_ := Aside0.mk (Kd.N_lower (Kd.N_mono (ok' := fun k_ => some k_ ≠ (.slice Ao7 t390.length co7 : Value).ownBlock ∧ some k_ ≠ (.slice Ao9 t393.length co9 : Value).ownBlock) (Kd.R_N (Kd.R_bound ho0)) (fun k_ hk_ => ⟨(Kd.fresh' (Kd.N_lt (by (with_reducible repeat (first | apply Kd.N_alloc | apply Kd.N_drewN | apply Kd.N_drew)); exact HO392.out)) k_ hk_.2.1), (Kd.fresh' (Kd.R_lt (by (with_reducible repeat (first | apply Kd.R_alloc | apply Kd.R_drewN | apply Kd.R_drew)); exact HO396.out)) k_ hk_.2.1)⟩)) (below_size (by repeat (first | (with_reducible first | exact HB.out | apply below_alloc | apply pw_below_drewN | apply below_drew1) | exact HB.out)))); have n3_ := Aside0.mk (below_step (by repeat (first | (with_reducible first | exact HB.out | apply below_alloc | apply pw_below_drewN | apply below_drew1) | exact HB.out)) hb); clear HO392; clear HO396; clear HB; have HO392 := n0_; have HO396 := n1_; have HO401 := n2_; have HB := n3_; clear n0_ n1_ n2_ n3_; (try clear hb); (try clear hb2); (try clear hk); (try clear hi); (try clear ho0)))
  (try simp only [Act.put, List.setIfInBounds_toArray, List.set_cons_zero, List.set_cons_succ])
  go_cut [44] (fun v44 wc => ∃ (kq : Nat) (x44_4 : Bool), v44 = .bool x44_4 ∧ Aside0 (customslaw06_SegmentRoundTrip.j0 kq t390 t393 x44_4 = some r) ∧ Aside0 (kq ≤ k) ∧ Aside0 (Kd.N k24 24 wc w.heap.size (fun k_ => some k_ ≠ ((.slice Ao9 t393.length co9) : Value).ownBlock) (.slice Ao7 t390.length co7) t390) ∧ Aside0 (Kd.R (Kd.int .u8) 5 wc w.heap.size (fun _ => True) (.slice Ao9 t393.length co9) t393) ∧ Aside0 (Below w.heap.size w wc))
  case first =>
    have H := HC5.out
    clear HC5
    by_cases c11 : t394 = 0
    · rw [if_pos c11] at H
      have c11b0 : (t394 == 0) = true := beq_iff_eq.mpr c11
      have c11b1 : (t394 != 0) = false := bne_eq_false_iff_eq.mpr c11
      clear c11
      (first | rw [c11b0] | (simp only [i64_w, i32_w]; rw [c11b0]) | skip)
      by_cases c12 : t399 = 0
      · rw [if_pos c12] at H
        have c12b0 : (t399 == 0) = true := beq_iff_eq.mpr c12
        have c12b1 : (t399 != 0) = false := bne_eq_false_iff_eq.mpr c12
        clear c12
        by_cases c13 : t398 = (t393.length : Int)
        · rw [if_pos c13] at H
          have c13b0 : (t398 == (t393.length : Int)) = true := beq_iff_eq.mpr c13
          have c13b1 : (t398 != (t393.length : Int)) = false := bne_eq_false_iff_eq.mpr c13
          clear c13
          replace H := Option.bind_eq_some_iff.mp H
          obtain ⟨t402, A140, H⟩ := H
          replace H : (customslaw06_SegmentRoundTrip.j0 k t390 t393 (!t402)) = some r := H
          have A14 := Aside0.mk A140
          clear A140
          have H' := Aside0.mk H
          clear H
          obtain ⟨Ao15, co15, eo15⟩ := Kd.N_slice HO401.out
          subst eo15
          go_wp2_with (first | (go_at_call 17; (with_reducible refine (customsref06_SameSegments.calls k _ _ t397 _ _ t390 t402 _ ?side1 ?side2 ?side3 ?side4 A14.out).mono ?_); (case side1 => repeat (first | exact (Kd.N_reads' HO401.out).2.2 | (with_reducible refine Kd.C_alloc ?_ _) | (with_reducible refine Kd.C_drewN ?_ _) | (with_reducible refine Kd.C_drew ?_))); (case side2 => exact (Kd.N_reads' HO401.out).2.1); (case side3 => repeat (first | exact (Kd.N_reads' HO392.out).2.2 | (with_reducible refine Kd.C_alloc ?_ _) | (with_reducible refine Kd.C_drewN ?_ _) | (with_reducible refine Kd.C_drew ?_))); (case side4 => exact (Kd.N_reads' HO392.out).2.1); rintro e w' ⟨rfl, ⟨nd, rfl⟩⟩))
          go_meet
          case rel => exact ⟨_, (!t402), (by first | rfl | (simp; done) | (simp [*]; done)), H', ⟨by first | omega | exact Nat.le_refl _⟩, ⟨by (with_reducible repeat (first | apply Kd.N_alloc | apply Kd.N_drewN | apply Kd.N_drew)); exact Kd.N_mono HO392.out (fun _ hk => hk.1.2)⟩, ⟨by (with_reducible repeat (first | apply Kd.R_alloc | apply Kd.R_drewN | apply Kd.R_drew)); exact HO396.out⟩, ⟨by repeat (first | (with_reducible first | exact HB.out | apply below_alloc | apply pw_below_drewN | apply below_drew1) | exact HB.out)⟩⟩
        · rw [if_neg c13] at H
          have c13b0 : (t398 == (t393.length : Int)) = false := beq_eq_false_iff_ne.mpr c13
          have c13b1 : (t398 != (t393.length : Int)) = true := bne_iff_ne.mpr c13
          have H' := Aside0.mk H
          clear H
          go_wp2
          go_meet
          case rel => exact ⟨_, (true), (by first | rfl | (simp; done) | (simp [*]; done)), H', ⟨by first | omega | exact Nat.le_refl _⟩, ⟨by (with_reducible repeat (first | apply Kd.N_alloc | apply Kd.N_drewN | apply Kd.N_drew)); exact Kd.N_mono HO392.out (fun _ hk => hk.1.2)⟩, ⟨by (with_reducible repeat (first | apply Kd.R_alloc | apply Kd.R_drewN | apply Kd.R_drew)); exact HO396.out⟩, ⟨by repeat (first | (with_reducible first | exact HB.out | apply below_alloc | apply pw_below_drewN | apply below_drew1) | exact HB.out)⟩⟩
      · rw [if_neg c12] at H
        have c12b0 : (t399 == 0) = false := beq_eq_false_iff_ne.mpr c12
        have c12b1 : (t399 != 0) = true := bne_iff_ne.mpr c12
        have H' := Aside0.mk H
        clear H
        go_wp2
        go_meet
        case rel => exact ⟨_, (true), (by first | rfl | (simp; done) | (simp [*]; done)), H', ⟨by first | omega | exact Nat.le_refl _⟩, ⟨by (with_reducible repeat (first | apply Kd.N_alloc | apply Kd.N_drewN | apply Kd.N_drew)); exact Kd.N_mono HO392.out (fun _ hk => hk.1.2)⟩, ⟨by (with_reducible repeat (first | apply Kd.R_alloc | apply Kd.R_drewN | apply Kd.R_drew)); exact HO396.out⟩, ⟨by repeat (first | (with_reducible first | exact HB.out | apply below_alloc | apply pw_below_drewN | apply below_drew1) | exact HB.out)⟩⟩
    · rw [if_neg c11] at H
      have c11b0 : (t394 == 0) = false := beq_eq_false_iff_ne.mpr c11
      have c11b1 : (t394 != 0) = true := bne_iff_ne.mpr c11
      (first | rw [c11b0] | (simp only [i64_w, i32_w]; rw [c11b0]) | skip)
      have H' := Aside0.mk H
      clear H
      go_wp2
      go_meet
      case rel => exact ⟨_, (true), (by first | rfl | (simp; done) | (simp [*]; done)), H', ⟨by first | omega | exact Nat.le_refl _⟩, ⟨by (with_reducible repeat (first | apply Kd.N_alloc | apply Kd.N_drewN | apply Kd.N_drew)); exact Kd.N_mono HO392.out (fun _ hk => hk.1.2)⟩, ⟨by (with_reducible repeat (first | apply Kd.R_alloc | apply Kd.R_drewN | apply Kd.R_drew)); exact HO396.out⟩, ⟨by repeat (first | (with_reducible first | exact HB.out | apply below_alloc | apply pw_below_drewN | apply below_drew1) | exact HB.out)⟩⟩
  case rest =>
    clear HC5
    try clear c1
    try clear p2
    try clear c5
    try clear c11
    try clear c11b0
    try clear c11b1
    try clear c12
    try clear c12b0
    try clear c12b1
    try clear c13
    try clear c13b0
    try clear c13b1
    obtain ⟨kq, x44_4, rfl, HA, HJ4, HO_3, HO_4, HB⟩ := hcut
    cases kq with
    | zero => exact absurd HA.out (by simp [customslaw06_SegmentRoundTrip.j0])
    | succ kj4 =>
      have H := HA.out
      clear HA
      simp only [customslaw06_SegmentRoundTrip.j0] at H
      by_cases c16 : x44_4 = true
      · subst c16
        have H1 : (some false) = some r := by rw [if_pos rfl] at H; exact H
        clear H
        have H := H1
        clear H1
        exact absurd (H.trans (congrArg some hT_)) (by decide)
      · replace c16 := Bool.eq_false_iff.mpr c16
        subst c16
        have H1 : ((segment_Next.f kj4 t393).bind fun bt403 => (if (t390.length : Int) = 0 then (if bt403.2.2.2 = 5 then ((customslaw06_awake.f kj4).bind fun t410 => (some t410)) else (some false)) else (if 1 ≤ (t390.length : Int) then ((segment_Encode.f kj4 (t390.take 1)).bind fun bt416 => (if bt403.2.2.2 = 0 then (if bt416.2 = 0 then (if bt403.2.2.1 = (bt416.1.length : Int) then ((customsref06_SameSegments.f kj4 (([(⟨bt403.1, bt403.2.1⟩ : S24)] : List (S24))) (t390.take 1)).bind fun t428 => (if t428 = true then ((customslaw06_awake.f kj4).bind fun t429 => (some t429)) else (some false))) else (some false)) else (some false)) else (some false))) else (none)))) = some r := by rw [if_neg (show ¬ (false = true) by decide)] at H; exact H
        clear H
        have H := H1
        clear H1
        replace H := Option.bind_eq_some_iff.mp H
        obtain ⟨⟨t403, t404, t407, t408⟩, A170, H⟩ := H
        replace H : (if (t390.length : Int) = 0 then (if t408 = 5 then ((customslaw06_awake.f kj4).bind fun t410 => (some t410)) else (some false)) else (if 1 ≤ (t390.length : Int) then ((segment_Encode.f kj4 (t390.take 1)).bind fun bt416 => (if t408 = 0 then (if bt416.2 = 0 then (if t407 = (bt416.1.length : Int) then ((customsref06_SameSegments.f kj4 (([(⟨t403, t404⟩ : S24)] : List (S24))) (t390.take 1)).bind fun t428 => (if t428 = true then ((customslaw06_awake.f kj4).bind fun t429 => (some t429)) else (some false))) else (some false)) else (some false)) else (some false))) else (none))) = some r := H
        have A17 := Aside0.mk A170
        clear A170
        by_cases c18 : (t390.length : Int) = 0
        · rw [if_pos c18] at H
          have c18b0 : ((t390.length : Int) == 0) = true := beq_iff_eq.mpr c18
          have c18b1 : ((t390.length : Int) != 0) = false := bne_eq_false_iff_eq.mpr c18
          clear c18
          by_cases c19 : t408 = 5
          · rw [if_pos c19] at H
            have c19b0 : (t408 == 5) = true := beq_iff_eq.mpr c19
            have c19b1 : (t408 != 5) = false := bne_eq_false_iff_eq.mpr c19
            clear c19
            replace H := Option.bind_eq_some_iff.mp H
            obtain ⟨t410, A200, H⟩ := H
            replace H : (some t410) = some r := H
            have A20 := Aside0.mk A200
            clear A200
            obtain rfl := Option.some.inj H
            go_wp2_with (first | ((with_reducible refine gate_callee (f := 18) rfl ?_); refine goesL_ (some 47) rfl rfl Try.func18 (by kernel_rfl) rfl #[.slice Ao9 t393.length co9] rfl (by (try simp only [List.map_toArray, List.map_cons, List.map_nil]); first | done | rfl | (simp only [List.length_drop, List.length_take]; rfl)) ?_; (with_reducible refine (segment_Next.calls kj4 _ _ t393 t403 t404 t407 t408 _ ?side1 ?side2 A17.out).mono ?_); (case side1 => repeat (first | exact (Kd.R_reads' HO_4.out).2.2 | (with_reducible refine Kd.C_alloc ?_ _) | (with_reducible refine Kd.C_drewN ?_ _) | (with_reducible refine Kd.C_drew ?_))); (case side2 => exact (Kd.R_reads' HO_4.out).2.1); rintro e w21 ⟨v405, rfl, ho0, hb⟩; refine ⟨_, rfl, ?_⟩; have n0_ := Aside0.mk (Kd.N_elder' (by (with_reducible repeat (first | apply Kd.N_alloc | apply Kd.N_drewN | apply Kd.N_drew)); exact HO_3.out) (Kd.S_base ho0) hb); have n1_ := Aside0.mk (Kd.R_below (by (with_reducible repeat (first | apply Kd.R_alloc | apply Kd.R_drewN | apply Kd.R_drew)); exact HO_4.out) hb); have n2_ := Aside0.mk (Kd.N_lower (Kd.N_mono (ok' := fun k_ => some k_ ≠ (.slice Ao7 t390.length co7 : Value).ownBlock ∧ some k_ ≠ (.slice Ao9 t393.length co9 : Value).ownBlock) (Kd.S_N (Kd.S_bound ho0)) (fun k_ hk_ => ⟨(Kd.fresh' (Kd.N_lt (by (with_reducible repeat (first | apply Kd.N_alloc | apply Kd.N_drewN | apply Kd.N_drew)); exact HO_3.out)) k_ hk_.2.1), (Kd.fresh' (Kd.R_lt (by (with_reducible repeat (first | apply Kd.R_alloc | apply Kd.R_drewN | apply Kd.R_drew)); exact HO_4.out)) k_ hk_.2.1)⟩)) (below_size (by repeat (first | (with_reducible first | exact HB.out | apply below_alloc | apply pw_below_drewN | apply below_drew1) | exact HB.out)))); have n3_ := Aside0.mk (below_step (by repeat (first | (with_reducible first | exact HB.out | apply below_alloc | apply pw_below_drewN | apply below_drew1) | exact HB.out)) hb); clear HO_3; clear HO_4; clear HB; have HO_3 := n0_; have HO_4 := n1_; have HO406 := n2_; have HB := n3_; clear n0_ n1_ n2_ n3_; (try clear hb); (try clear hb2); (try clear hk); (try clear hi); (try clear ho0)) | ((with_reducible refine gate_dst (N := 9) rfl ?_); (try (refine gate_guard (by rfl) ?_; dsimp only)); refine box_event ?hg (N := 9) ?hd (cs := #[.string (⟨#[]⟩ : ByteArray), .slice none 0 0]) (t := 24) ?hr ?_; (case hd => rfl); (case hg => rfl); (case hr => first | (go_simp; done) | (go_simp; rfl)); intro gb409 hg w22 hbox hb; have n0_ := Aside0.mk (Kd.N_below (Kd.N_elderB (by (with_reducible repeat (first | apply Kd.N_alloc | apply Kd.N_drewN | apply Kd.N_drew)); exact HO_3.out) gb409 (Nat.le_of_eq hg.symm)) hb); have n1_ := Aside0.mk (Kd.R_below (by (with_reducible repeat (first | apply Kd.R_alloc | apply Kd.R_drewN | apply Kd.R_drew)); exact HO_4.out) hb); have n2_ := Aside0.mk (Kd.N_below (Kd.N_elderB (by (with_reducible repeat (first | apply Kd.N_alloc | apply Kd.N_drewN | apply Kd.N_drew)); exact HO406.out) gb409 (Nat.le_of_eq hg.symm)) hb); have n3_ := Aside0.mk (below_step (by repeat (first | (with_reducible first | exact HB.out | apply below_alloc | apply pw_below_drewN | apply below_drew1) | exact HB.out)) hb); have n4_ := Aside0.mk (hbox); have n5_ := Aside0.mk ((by rw [hg]; exact (below_size (by repeat (first | (with_reducible first | exact HB.out | apply below_alloc | apply pw_below_drewN | apply below_drew1) | exact HB.out))) : w.heap.size ≤ gb409)); have n6_ := Aside0.mk ((by rw [hg]; exact (below_size (by repeat (first | (with_reducible first | exact HB.out | apply below_alloc | apply pw_below_drewN | apply below_drew1) | exact HB.out))) : w.heap.size ≤ gb409)); clear HO_3; clear HO_4; clear HO406; clear HB; have HO_3 := n0_; have HO_4 := n1_; have HO406 := n2_; have HB := n3_; have BK409 := n4_; have GW409 := n5_; have GE409 := n6_; clear n0_ n1_ n2_ n3_ n4_ n5_ n6_; clear hb hbox hg; have hcz23_0 : w22.cell? ⟨gb409, 0, none⟩ = some (.string (⟨#[]⟩ : ByteArray)) := (blk_cell BK409.out 0).trans rfl; have hcz23_1 : w22.cell? ⟨gb409, 1, none⟩ = some (.slice none 0 0) := (blk_cell BK409.out 1).trans rfl; have hfz23_0 := blk_frozen BK409.out 0; have hfz23_1 := blk_frozen BK409.out 1; obtain ⟨Ao24, co24, eo24⟩ := Kd.N_slice HO406.out; subst eo24) | (go_at_call 11; (with_reducible refine (customslaw06_awake.calls kj4  t410 _ A20.out).mono ?_); rintro e w25 ⟨rfl, hb⟩; have n0_ := Aside0.mk (Kd.N_below (by (with_reducible repeat (first | apply Kd.N_alloc | apply Kd.N_drewN | apply Kd.N_drew)); exact (Kd.N_mono (Kd.N_far (p := ⟨gb409, 1, none⟩) (Kd.N_far (p := ⟨gb409, 0, none⟩) (Kd.N_mono HO_3.out (fun k_ hk => (⟨hk, hk.2⟩ : _ ∧ k_ ≠ gb409))) (fun _ hk => hk.2) (.string t403)) (fun _ hk => hk.2) (.slice Ao24 t404.length co24)) (fun _ h_ => h_.1))) hb); have n1_ := Aside0.mk (Kd.R_below (by (with_reducible repeat (first | apply Kd.R_alloc | apply Kd.R_drewN | apply Kd.R_drew)); exact (Kd.R_mono (Kd.R_far (p := ⟨gb409, 1, none⟩) (Kd.R_far (p := ⟨gb409, 0, none⟩) (Kd.R_types HO_4.out BK409.out (by decide)) (fun _ hk => hk.2) (.string t403)) (fun _ hk => hk.2) (.slice Ao24 t404.length co24)) (fun _ h_ => h_.1))) hb); have n2_ := Aside0.mk (Kd.N_below (by (with_reducible repeat (first | apply Kd.N_alloc | apply Kd.N_drewN | apply Kd.N_drew)); exact (Kd.N_mono (Kd.N_far (p := ⟨gb409, 1, none⟩) (Kd.N_far (p := ⟨gb409, 0, none⟩) (Kd.N_mono HO406.out (fun k_ hk => (⟨hk, hk.2⟩ : _ ∧ k_ ≠ gb409))) (fun _ hk => hk.2) (.string t403)) (fun _ hk => hk.2) (.slice Ao24 t404.length co24)) (fun _ h_ => h_.1))) hb); have n3_ := Aside0.mk (blk_below (g := gb409) (o := .cells #[.string t403, .slice Ao24 t404.length co24] 24 (0, 0)) (by (with_reducible repeat (first | refine blk_drewN ?_ _ | refine blk_drew ?_ | refine blk_alloc ?_ _)); refine blk_put (cs := #[.string t403, .slice none 0 0]) ?_ 1 _ rfl; (with_reducible repeat (first | refine blk_drewN ?_ _ | refine blk_drew ?_ | refine blk_alloc ?_ _)); refine blk_put (cs := #[.string (⟨#[]⟩ : ByteArray), .slice none 0 0]) ?_ 0 _ rfl; (with_reducible repeat (first | refine blk_drewN ?_ _ | refine blk_drew ?_ | refine blk_alloc ?_ _)); exact BK409.out) hb); have n4_ := Aside0.mk (below_step (by repeat (first | (with_reducible first | exact HB.out | apply below_alloc | apply pw_below_drewN | apply below_drew1 | refine below_set ?_ GE409.out) | exact HB.out)) hb); clear HO_3; clear HO_4; clear HO406; clear BK409; clear HB; have HO_3 := n0_; have HO_4 := n1_; have HO406 := n2_; have BK409 := n3_; have HB := n4_; clear n0_ n1_ n2_ n3_ n4_; (try clear hb); (try clear hb2); (try clear hk); (try clear hi)))
            go_ret
            exact ⟨by first | rfl | (simp [errW_none, errW_some] <;> rfl) | (simp [*, errW_none, errW_some] <;> rfl), by repeat (first | (with_reducible first | exact HB.out | apply below_alloc | apply pw_below_drewN | apply below_drew1 | refine below_set ?_ GE409.out) | exact HB.out)⟩
          · rw [if_neg c19] at H
            have c19b0 : (t408 == 5) = false := beq_eq_false_iff_ne.mpr c19
            have c19b1 : (t408 != 5) = true := bne_iff_ne.mpr c19
            exact absurd (H.trans (congrArg some hT_)) (by decide)
        · rw [if_neg c18] at H
          have c18b0 : ((t390.length : Int) == 0) = false := beq_eq_false_iff_ne.mpr c18
          have c18b1 : ((t390.length : Int) != 0) = true := bne_iff_ne.mpr c18
          have c18b2 : ¬ (t390 = []) := fun h_ => c18 (by rw [h_]; rfl)
          by_cases c30 : 1 ≤ (t390.length : Int)
          · rw [if_pos c30] at H
            have c30b0 := eq_true c30
            have c30b1 : decide (1 ≤ (t390.length : Int)) = true := decide_eq_true c30
            clear c30
            obtain ⟨y411, hy411⟩ : ∃ y_ : List (S24), y_ = (t390.take 1) := ⟨_, rfl⟩
            replace H : ((segment_Encode.f kj4 y411).bind fun bt416 => (if t408 = 0 then (if bt416.2 = 0 then (if t407 = (bt416.1.length : Int) then ((customsref06_SameSegments.f kj4 (([(⟨t403, t404⟩ : S24)] : List (S24))) (t390.take 1)).bind fun t428 => (if t428 = true then ((customslaw06_awake.f kj4).bind fun t429 => (some t429)) else (some false))) else (some false)) else (some false)) else (some false))) = some r := by first | (rw [hy411]; with_reducible exact H) | (have H2_ := (Option.bind_some _ _).symm.trans H; rw [hy411]; with_reducible exact H2_) | (have H2_ := (Option.bind_some _ _).symm.trans H; with_reducible exact H2_) | with_reducible exact H | (rw [hy411]; exact H) | exact H
            have Ny411 := Aside0.mk hy411
            clear hy411
            replace H := Option.bind_eq_some_iff.mp H
            obtain ⟨⟨t416, t417⟩, A310, H⟩ := H
            replace H : (if t408 = 0 then (if t417 = 0 then (if t407 = (t416.length : Int) then ((customsref06_SameSegments.f kj4 (([(⟨t403, t404⟩ : S24)] : List (S24))) (t390.take 1)).bind fun t428 => (if t428 = true then ((customslaw06_awake.f kj4).bind fun t429 => (some t429)) else (some false))) else (some false)) else (some false)) else (some false)) = some r := H
            have A31 := Aside0.mk A310
            clear A310
            by_cases c32 : t408 = 0
            · rw [if_pos c32] at H
              have c32b0 : (t408 == 0) = true := beq_iff_eq.mpr c32
              have c32b1 : (t408 != 0) = false := bne_eq_false_iff_eq.mpr c32
              clear c32
              by_cases c33 : t417 = 0
              · rw [if_pos c33] at H
                have c33b0 : (t417 == 0) = true := beq_iff_eq.mpr c33
                have c33b1 : (t417 != 0) = false := bne_eq_false_iff_eq.mpr c33
                clear c33
                by_cases c34 : t407 = (t416.length : Int)
                · rw [if_pos c34] at H
                  have c34b0 : (t407 == (t416.length : Int)) = true := beq_iff_eq.mpr c34
                  have c34b1 : (t407 != (t416.length : Int)) = false := bne_eq_false_iff_eq.mpr c34
                  clear c34
                  obtain ⟨y420, hy420⟩ : ∃ y_ : List (S24), y_ = (([(⟨t403, t404⟩ : S24)] : List (S24))) := ⟨_, rfl⟩
                  replace H : ((customsref06_SameSegments.f kj4 y420 (t390.take 1)).bind fun t428 => (if t428 = true then ((customslaw06_awake.f kj4).bind fun t429 => (some t429)) else (some false))) = some r := by first | (rw [hy420]; with_reducible exact H) | (have H2_ := (Option.bind_some _ _).symm.trans H; rw [hy420]; with_reducible exact H2_) | (have H2_ := (Option.bind_some _ _).symm.trans H; with_reducible exact H2_) | with_reducible exact H | (rw [hy420]; exact H) | exact H
                  have Ny420 := Aside0.mk hy420
                  clear hy420
                  have c35b0 := eq_true (of_decide_eq_true (by first | (with_reducible assumption) | assumption) : 1 ≤ (t390.length : Int))
                  obtain ⟨y423, hy423⟩ : ∃ y_ : List (S24), y_ = (t390.take 1) := ⟨_, rfl⟩
                  replace H : ((customsref06_SameSegments.f kj4 y420 y423).bind fun t428 => (if t428 = true then ((customslaw06_awake.f kj4).bind fun t429 => (some t429)) else (some false))) = some r := by first | (rw [hy423]; with_reducible exact H) | (have H2_ := (Option.bind_some _ _).symm.trans H; rw [hy423]; with_reducible exact H2_) | (have H2_ := (Option.bind_some _ _).symm.trans H; with_reducible exact H2_) | with_reducible exact H | (rw [hy423]; exact H) | exact H
                  have Ny423 := Aside0.mk hy423
                  clear hy423
                  replace H := Option.bind_eq_some_iff.mp H
                  obtain ⟨t428, A360, H⟩ := H
                  replace H : (if t428 = true then ((customslaw06_awake.f kj4).bind fun t429 => (some t429)) else (some false)) = some r := H
                  have A36 := Aside0.mk A360
                  clear A360
                  by_cases c37 : t428 = true
                  · subst c37
                    have H1 : ((customslaw06_awake.f kj4).bind fun t429 => (some t429)) = some r := by rw [if_pos rfl] at H; exact H
                    clear H
                    have H := H1
                    clear H1
                    replace H := Option.bind_eq_some_iff.mp H
                    obtain ⟨t429, A380, H⟩ := H
                    replace H : (some t429) = some r := H
                    have A38 := Aside0.mk A380
                    clear A380
                    obtain rfl := Option.some.inj H
                    try go_wp2_with (first | ((with_reducible refine gate_callee (f := 18) rfl ?_); refine goesL_ (some 47) rfl rfl Try.func18 (by kernel_rfl) rfl #[.slice Ao9 t393.length co9] rfl (by (try simp only [List.map_toArray, List.map_cons, List.map_nil]); first | done | rfl | (simp only [List.length_drop, List.length_take]; rfl)) ?_; (with_reducible refine (segment_Next.calls kj4 _ _ t393 t403 t404 t407 t408 _ ?side1 ?side2 A17.out).mono ?_); (case side1 => repeat (first | exact (Kd.R_reads' HO_4.out).2.2 | (with_reducible refine Kd.C_alloc ?_ _) | (with_reducible refine Kd.C_drewN ?_ _) | (with_reducible refine Kd.C_drew ?_))); (case side2 => exact (Kd.R_reads' HO_4.out).2.1); rintro e w39 ⟨v405, rfl, ho0, hb⟩; refine ⟨_, rfl, ?_⟩; have n0_ := Aside0.mk (Kd.N_elder' (by (with_reducible repeat (first | apply Kd.N_alloc | apply Kd.N_drewN | apply Kd.N_drew)); exact HO_3.out) (Kd.S_base ho0) hb); have n1_ := Aside0.mk (Kd.R_below (by (with_reducible repeat (first | apply Kd.R_alloc | apply Kd.R_drewN | apply Kd.R_drew)); exact HO_4.out) hb); have n2_ := Aside0.mk (Kd.N_lower (Kd.N_mono (ok' := fun k_ => some k_ ≠ (.slice Ao7 t390.length co7 : Value).ownBlock ∧ some k_ ≠ (.slice Ao9 t393.length co9 : Value).ownBlock) (Kd.S_N (Kd.S_bound ho0)) (fun k_ hk_ => ⟨(Kd.fresh' (Kd.N_lt (by (with_reducible repeat (first | apply Kd.N_alloc | apply Kd.N_drewN | apply Kd.N_drew)); exact HO_3.out)) k_ hk_.2.1), (Kd.fresh' (Kd.R_lt (by (with_reducible repeat (first | apply Kd.R_alloc | apply Kd.R_drewN | apply Kd.R_drew)); exact HO_4.out)) k_ hk_.2.1)⟩)) (below_size (by repeat (first | (with_reducible first | exact HB.out | apply below_alloc | apply pw_below_drewN | apply below_drew1) | exact HB.out)))); have n3_ := Aside0.mk (below_step (by repeat (first | (with_reducible first | exact HB.out | apply below_alloc | apply pw_below_drewN | apply below_drew1) | exact HB.out)) hb); clear HO_3; clear HO_4; clear HB; have HO_3 := n0_; have HO_4 := n1_; have HO406 := n2_; have HB := n3_; clear n0_ n1_ n2_ n3_; (try clear hb); (try clear hb2); (try clear hk); (try clear hi); (try clear ho0)) | ((with_reducible refine gate_dst (N := 9) rfl ?_); (try (refine gate_guard (by rfl) ?_; dsimp only)); refine box_event ?hg (N := 9) ?hd (cs := #[.string (⟨#[]⟩ : ByteArray), .slice none 0 0]) (t := 24) ?hr ?_; (case hd => rfl); (case hg => rfl); (case hr => first | (go_simp; done) | (go_simp; rfl)); intro gb409 hg w40 hbox hb; have n0_ := Aside0.mk (Kd.N_below (Kd.N_elderB (by (with_reducible repeat (first | apply Kd.N_alloc | apply Kd.N_drewN | apply Kd.N_drew)); exact HO_3.out) gb409 (Nat.le_of_eq hg.symm)) hb); have n1_ := Aside0.mk (Kd.R_below (by (with_reducible repeat (first | apply Kd.R_alloc | apply Kd.R_drewN | apply Kd.R_drew)); exact HO_4.out) hb); have n2_ := Aside0.mk (Kd.N_below (Kd.N_elderB (by (with_reducible repeat (first | apply Kd.N_alloc | apply Kd.N_drewN | apply Kd.N_drew)); exact HO406.out) gb409 (Nat.le_of_eq hg.symm)) hb); have n3_ := Aside0.mk (below_step (by repeat (first | (with_reducible first | exact HB.out | apply below_alloc | apply pw_below_drewN | apply below_drew1) | exact HB.out)) hb); have n4_ := Aside0.mk (hbox); have n5_ := Aside0.mk ((by rw [hg]; exact (below_size (by repeat (first | (with_reducible first | exact HB.out | apply below_alloc | apply pw_below_drewN | apply below_drew1) | exact HB.out))) : w.heap.size ≤ gb409)); have n6_ := Aside0.mk ((by rw [hg]; exact (below_size (by repeat (first | (with_reducible first | exact HB.out | apply below_alloc | apply pw_below_drewN | apply below_drew1) | exact HB.out))) : w.heap.size ≤ gb409)); clear HO_3; clear HO_4; clear HO406; clear HB; have HO_3 := n0_; have HO_4 := n1_; have HO406 := n2_; have HB := n3_; have BK409 := n4_; have GW409 := n5_; have GE409 := n6_; clear n0_ n1_ n2_ n3_ n4_ n5_ n6_; clear hb hbox hg; have hcz41_0 : w40.cell? ⟨gb409, 0, none⟩ = some (.string (⟨#[]⟩ : ByteArray)) := (blk_cell BK409.out 0).trans rfl; have hcz41_1 : w40.cell? ⟨gb409, 1, none⟩ = some (.slice none 0 0) := (blk_cell BK409.out 1).trans rfl; have hfz41_0 := blk_frozen BK409.out 0; have hfz41_1 := blk_frozen BK409.out 1; obtain ⟨Ao42, co42, eo42⟩ := Kd.N_slice HO406.out; subst eo42) | ((with_reducible refine gate_store (t := 24) (p := 9) rfl ?_); refine store_event (t := 24) (p := 9) (v := ?vo_w43) (w1 := ((w40.setCell ⟨gb409, 0, none⟩ (.string t403)).setCell ⟨gb409, 1, none⟩ (.slice Ao42 t404.length co42))) ?hg ?ho ?hn ?hr ?_; (case ho => rfl); (case hg => rfl); (case hn => rfl); (case hr => first | (go_simp; done) | (go_simp; rfl)); intro w43 hw; have n0_ : Aside0 (Kd.N k24 24 w43 w.heap.size (fun k_ => some k_ ≠ (.slice Ao9 t393.length co9 : Value).ownBlock ∧ some k_ ≠ (.slice Ao42 t404.length co42 : Value).ownBlock ∧ k_ ≠ gb409) (.slice Ao7 t390.length co7) t390) := ⟨(by rw [hw]; exact (by (with_reducible repeat (first | apply Kd.N_alloc | apply Kd.N_drewN | apply Kd.N_drew)); exact Kd.N_mono (Kd.N_far (p := ⟨gb409, 1, none⟩) (Kd.N_far (p := ⟨gb409, 0, none⟩) (Kd.N_mono HO_3.out (fun k_ hk => (⟨hk, hk.2⟩ : _ ∧ k_ ≠ gb409))) (fun _ hk => hk.2) (.string t403)) (fun _ hk => hk.2) (.slice Ao42 t404.length co42)) (fun _ hk => ⟨hk.1.1.1, ⟨hk.1.1.2, hk.1.2⟩⟩)))⟩; have n1_ : Aside0 (Kd.R (Kd.int .u8) 5 w43 w.heap.size (fun _ => True) (.slice Ao9 t393.length co9) t393) := ⟨(by rw [hw]; exact (by (with_reducible repeat (first | apply Kd.R_alloc | apply Kd.R_drewN | apply Kd.R_drew)); exact Kd.R_mono (Kd.R_far (p := ⟨gb409, 1, none⟩) (Kd.R_far (p := ⟨gb409, 0, none⟩) (Kd.R_types HO_4.out BK409.out (by decide)) (fun _ hk => hk.2) (.string t403)) (fun _ hk => hk.2) (.slice Ao42 t404.length co42)) (fun _ hk => trivial)))⟩; have n2_ : Aside0 (Kd.N (Kd.slice 9 Kd.string) 48 w43 w.heap.size (fun k_ => some k_ ≠ (.slice Ao7 t390.length co7 : Value).ownBlock ∧ some k_ ≠ (.slice Ao9 t393.length co9 : Value).ownBlock ∧ k_ ≠ gb409) (.slice Ao42 t404.length co42) t404) := ⟨(by rw [hw]; exact (by (with_reducible repeat (first | apply Kd.N_alloc | apply Kd.N_drewN | apply Kd.N_drew)); exact Kd.N_mono (Kd.N_far (p := ⟨gb409, 1, none⟩) (Kd.N_far (p := ⟨gb409, 0, none⟩) (Kd.N_mono HO406.out (fun k_ hk => (⟨hk, hk.2⟩ : _ ∧ k_ ≠ gb409))) (fun _ hk => hk.2) (.string t403)) (fun _ hk => hk.2) (.slice Ao42 t404.length co42)) (fun _ hk => ⟨hk.1.1.1, ⟨hk.1.1.2, hk.1.2⟩⟩)))⟩; have n3_ : Aside0 (w43.heap[gb409]? = some (.cells #[.string t403, .slice Ao42 t404.length co42] 24 (0, 0))) := ⟨(by rw [hw]; exact (by (with_reducible repeat (first | refine blk_drewN ?_ _ | refine blk_drew ?_ | refine blk_alloc ?_ _)); refine blk_put (cs := #[.string t403, .slice none 0 0]) ?_ 1 _ rfl; (with_reducible repeat (first | refine blk_drewN ?_ _ | refine blk_drew ?_ | refine blk_alloc ?_ _)); refine blk_put (cs := #[.string (⟨#[]⟩ : ByteArray), .slice none 0 0]) ?_ 0 _ rfl; (with_reducible repeat (first | refine blk_drewN ?_ _ | refine blk_drew ?_ | refine blk_alloc ?_ _)); exact BK409.out))⟩; have n4_ : Aside0 (Below w.heap.size w w43) := ⟨(by rw [hw]; exact (by repeat (first | (with_reducible first | exact HB.out | apply below_alloc | apply pw_below_drewN | apply below_drew1 | refine below_set ?_ GE409.out) | exact HB.out)))⟩; clear hw; clear HO_3; clear HO_4; clear HO406; clear BK409; clear HB; have HO_3 := n0_; have HO_4 := n1_; have HO406 := n2_; have BK409 := n3_; have HB := n4_; clear n0_ n1_ n2_ n3_ n4_; have q44 : (1 : Int) ≤ ((t390.length : Int) : Int) := of_decide_eq_true (by first | (with_reducible assumption) | assumption); obtain ⟨i044, hi044, _, hsz44, _⟩ := info_parts info24; have hroom44 : t390.length ≤ co7 := (Kd.N_reads' HO_3.out).2.1; have hC44 : Kd.F k24 _ _ Ao7 t390.length t390 := (Kd.V_at (base := w.heap.size) (Kd.N_V HO_3.out)).2.2; have hcut44 := cut_to (P := Try.prog) 30 24 .i64 Try.underlying30 hi044 Ao7 t390.length co7 1 (by omega) q44 hroom44; have hr44 := Kd.F_take (m := 1) hC44 (by omega); have hy44 : y411.length = (1 : Int).toNat := (by rw [Ny411.out, List.length_take]; omega); rw [← Ny411.out] at hr44; rw [← hy44] at hcut44; have HO415 := Aside0.mk (show Kd.V k24 24 _ w.heap.size _ (.slice Ao7 y411.length co7) y411 from Kd.V_mk (by omega) hr44); have HC415 := Aside0.mk (show y411.length ≤ co7 from by omega); clear hr44 hC44 hroom44 hi044 hsz44; have KY44 := Aside0.mk hy44; clear hy44; replace q44 := eq_true q44) | ((with_reducible refine gate_callee (f := 13) rfl ?_); refine goesL_ (some 62) rfl rfl Try.func13 (by kernel_rfl) rfl #[.slice Ao7 y411.length co7] rfl (by (try simp only [List.map_toArray, List.map_cons, List.map_nil]); first | done | rfl | (simp only [List.length_drop, List.length_take]; rfl)) ?_; (with_reducible refine (segment_Encode.calls kj4 _ _ y411 t416 t417 _ ?side1 ?side2 A31.out).mono ?_); (case side1 => repeat (first | exact (Kd.V_reads' HO415.out).2.2 | (with_reducible refine Kd.C_alloc ?_ _) | (with_reducible refine Kd.C_drewN ?_ _) | (with_reducible refine Kd.C_drew ?_))); (case side2 => exact (Kd.V_reads' HO415.out).2.1); rintro e w45 ⟨v418, rfl, ho0, hb⟩; refine ⟨_, rfl, ?_⟩; have n0_ := Aside0.mk (Kd.N_elder' (by (with_reducible repeat (first | apply Kd.N_alloc | apply Kd.N_drewN | apply Kd.N_drew)); exact HO_3.out) (Kd.R_base ho0) hb); have n1_ := Aside0.mk (Kd.R_elder' (by (with_reducible repeat (first | apply Kd.R_alloc | apply Kd.R_drewN | apply Kd.R_drew)); exact HO_4.out) (Kd.R_base ho0) hb); have n2_ := Aside0.mk (Kd.N_elder' (by (with_reducible repeat (first | apply Kd.N_alloc | apply Kd.N_drewN | apply Kd.N_drew)); exact HO406.out) (Kd.R_base ho0) hb); have n3_ := Aside0.mk (Kd.V_elder' (by (with_reducible repeat (first | apply Kd.V_alloc | apply Kd.V_drewN | apply Kd.V_drew)); exact HO415.out) (Kd.R_base ho0) hb); have n4_ := Aside0.mk (Kd.R_lower (Kd.R_new' ho0 (Kd.R_lt (by (with_reducible repeat (first | apply Kd.R_alloc | apply Kd.R_drewN | apply Kd.R_drew)); exact HO_4.out))) (below_size (by repeat (first | (with_reducible first | exact HB.out | apply below_alloc | apply pw_below_drewN | apply below_drew1 | refine below_set ?_ GE409.out) | exact HB.out)))); have n5_ := Aside0.mk (blk_below (g := gb409) (o := .cells #[.string t403, .slice Ao42 t404.length co42] 24 (0, 0)) (by (with_reducible repeat (first | refine blk_drewN ?_ _ | refine blk_drew ?_ | refine blk_alloc ?_ _)); exact BK409.out) hb); have n6_ := Aside0.mk (below_step (by repeat (first | (with_reducible first | exact HB.out | apply below_alloc | apply pw_below_drewN | apply below_drew1 | refine below_set ?_ GE409.out) | exact HB.out)) hb); clear HO_3; clear HO_4; clear HO406; clear HO415; clear BK409; clear HB; have HO_3 := n0_; have HO_4 := n1_; have HO406 := n2_; have HO415 := n3_; have HO419 := n4_; have BK409 := n5_; have HB := n6_; clear n0_ n1_ n2_ n3_ n4_ n5_ n6_; (try clear hb); (try clear hb2); (try clear hk); (try clear hi); (try clear ho0)))
                    have n0_ := Aside0.mk (Kd.N_drew HO_3.out)
                    have n1_ := Aside0.mk (Kd.R_drew HO_4.out)
                    have n2_ := Aside0.mk (Kd.N_drew HO406.out)
                    have n3_ := Aside0.mk (Kd.V_drew HO415.out)
                    have n4_ := Aside0.mk (Kd.R_drew HO419.out)
                    have n5_ := Aside0.mk (blk_drew BK409.out)
                    have n6_ := Aside0.mk (below_drew1 HB.out)
                    clear HO_3
                    clear HO_4
                    clear HO406
                    clear HO415
                    clear HO419
                    clear BK409
                    clear HB
                    have HO_3 := n0_
                    have HO_4 := n1_
                    have HO406 := n2_
                    have HO415 := n3_
                    have HO419 := n4_
                    have BK409 := n5_
                    have HB := n6_
                    clear n0_ n1_ n2_ n3_ n4_ n5_ n6_
                    obtain ⟨Ao47, co47, eo47⟩ := Kd.R_slice HO419.out
                    (first | subst eo47 | (injection eo47 with f1_ f2_ f3_; have f4_ := f1_.symm; have f5_ := f3_.symm; clear f1_ f2_ f3_; subst f4_; subst f5_))
                    have q48 : (1 : Int) ≤ ((t390.length : Int) : Int) := of_decide_eq_true (by first | (with_reducible assumption) | assumption)
                    obtain ⟨i048, hi048, _, hsz48, _⟩ := info_parts info24
                    have hroom48 : t390.length ≤ co7 := (Kd.N_reads' HO_3.out).2.1
                    have hC48 : Kd.F k24 _ _ Ao7 t390.length t390 := (Kd.V_at (base := w.heap.size) (Kd.N_V HO_3.out)).2.2
                    have hcut48 := cut_to (P := Try.prog) 30 24 .i64 Try.underlying30 hi048 Ao7 t390.length co7 1 (by omega) q48 hroom48
                    have hr48 := Kd.F_take (m := 1) hC48 (by omega)
                    have hy48 : y423.length = (1 : Int).toNat := (by rw [Ny423.out, List.length_take]; omega)
                    rw [← Ny423.out] at hr48
                    rw [← hy48] at hcut48
                    have HO427 := Aside0.mk (show Kd.V k24 24 _ w.heap.size _ (.slice Ao7 y423.length co7) y423 from Kd.V_mk (by omega) hr48)
                    have HC427 := Aside0.mk (show y423.length ≤ co7 from by omega)
                    clear hr48 hC48 hroom48 hi048 hsz48
                    have KY48 := Aside0.mk hy48
                    clear hy48
                    replace q48 := eq_true q48
                    refine start_ (n := 23) (S := fun w' => w'.cell? ⟨gb409, 0, none⟩ = some (.string t403) ∧ w'.cell? ⟨gb409, 1, none⟩ = some (.slice Ao42 t404.length co42)) (ds := []) #[false, false, false, false, false, false, false, false, false, false, false, false, false, false, false, false, false, false, false, false, false, false, false] (by kernel_rfl) rfl rfl ⟨(blk_cell BK409.out 0).trans rfl, (blk_cell BK409.out 1).trans rfl⟩ (fun hHeld => ?_); refine with_tabW customslaw06_SegmentRoundTrip.tab10 customslaw06_SegmentRoundTrip.bits10 (fun HT_ HW_ => ?_)
                    generalize w45.drew = w46 at HO_3 HO_4 HO406 HO415 HO419 BK409 HB HO427 hHeld ⊢
                    refine pure_ (i := 0) (N := some 65) (v := ?_) (a' := ?_) #[true, false, false, false, false, false, false, false, false, false, false, false, false, false, false, false, false, false, false, false, false, false, false] rfl rfl (any_of HT_.out (by kernel_rfl)) (fun _ _ _ h => h) (Or.inl ⟨by rfl, ?_⟩) ?_ ?_
                    rotate_left
                    · intro w'
                      go_simp
                      with_reducible rfl
                    rotate_left
                    · simp only [Act.put, List.setIfInBounds_toArray, List.set_cons_zero, List.set_cons_succ, i64_w, i32_w]
                      rfl
                    refine pure_ (i := 1) (N := some 66) (v := ?_) (a' := ?_) #[true, true, false, false, false, false, false, false, false, false, false, false, false, false, false, false, false, false, false, false, false, false, false] rfl rfl (any_of HT_.out (by kernel_rfl)) (fun _ _ _ h => h) (Or.inl ⟨by rfl, ?_⟩) ?_ ?_
                    rotate_left
                    · intro w'
                      go_simp
                      with_reducible rfl
                    rotate_left
                    · simp only [Act.put, List.setIfInBounds_toArray, List.set_cons_zero, List.set_cons_succ, i64_w, i32_w]
                      rfl
                    refine pure_ (i := 2) (N := some 67) (v := ?_) (a' := ?_) #[true, true, true, false, false, false, false, false, false, false, false, false, false, false, false, false, false, false, false, false, false, false, false] rfl rfl (any_of HT_.out (by kernel_rfl)) (fun _ _ _ h => h) (Or.inl ⟨by rfl, ?_⟩) ?_ ?_
                    rotate_left
                    · intro w'
                      go_simp
                      with_reducible rfl
                    rotate_left
                    · simp only [Act.put, List.setIfInBounds_toArray, List.set_cons_zero, List.set_cons_succ, i64_w, i32_w]
                      rfl
                    refine pure_ (i := 3) (N := some 68) (v := ?_) (a' := ?_) #[true, true, true, true, false, false, false, false, false, false, false, false, false, false, false, false, false, false, false, false, false, false, false] rfl rfl (any_of HT_.out (by kernel_rfl)) (fun _ _ _ h => h) (Or.inl ⟨by rfl, ?_⟩) ?_ ?_
                    rotate_left
                    · intro w'
                      go_simp
                      with_reducible rfl
                    rotate_left
                    · simp only [Act.put, List.setIfInBounds_toArray, List.set_cons_zero, List.set_cons_succ, i64_w, i32_w]
                      rfl
                    refine pure_ (i := 4) (N := some 69) (v := ?_) (a' := ?_) #[true, true, true, true, true, false, false, false, false, false, false, false, false, false, false, false, false, false, false, false, false, false, false] rfl rfl (any_of HT_.out (by kernel_rfl)) (fun _ _ _ h => h) (Or.inl ⟨by rfl, ?_⟩) ?_ ?_
                    rotate_left
                    · intro w'
                      go_simp
                      with_reducible rfl
                    rotate_left
                    · simp only [Act.put, List.setIfInBounds_toArray, List.set_cons_zero, List.set_cons_succ, i64_w, i32_w]
                      rfl
                    refine pure_ (i := 5) (N := some 70) (v := ?_) (a' := ?_) #[true, true, true, true, true, true, false, false, false, false, false, false, false, false, false, false, false, false, false, false, false, false, false] rfl rfl (any_of HT_.out (by kernel_rfl)) (fun _ _ _ h => h) (Or.inl ⟨by rfl, ?_⟩) ?_ ?_
                    rotate_left
                    · intro w'
                      go_simp
                      with_reducible rfl
                    rotate_left
                    · simp only [Act.put, List.setIfInBounds_toArray, List.set_cons_zero, List.set_cons_succ, i64_w, i32_w]
                      rfl
                    refine pure_ (i := 6) (N := some 71) (v := ?_) (a' := ?_) #[true, true, true, true, true, true, true, false, false, false, false, false, false, false, false, false, false, false, false, false, false, false, false] rfl rfl (any_of HT_.out (by kernel_rfl)) (fun _ _ _ h => h) (Or.inl ⟨by rfl, ?_⟩) ?_ ?_
                    rotate_left
                    · intro w'
                      go_simp
                      with_reducible rfl
                    rotate_left
                    · simp only [Act.put, List.setIfInBounds_toArray, List.set_cons_zero, List.set_cons_succ, i64_w, i32_w]
                      rfl
                    refine pure_ (i := 7) (N := some 72) (v := ?_) (a' := ?_) #[true, true, true, true, true, true, true, true, false, false, false, false, false, false, false, false, false, false, false, false, false, false, false] rfl rfl (any_of HT_.out (by kernel_rfl)) (fun _ _ _ h => h) (Or.inl ⟨by rfl, ?_⟩) ?_ ?_
                    rotate_left
                    · intro w'
                      go_simp
                      with_reducible rfl
                    rotate_left
                    · simp only [Act.put, List.setIfInBounds_toArray, List.set_cons_zero, List.set_cons_succ, i64_w, i32_w]
                      rfl
                    refine pure_ (i := 8) (N := some 73) (v := ?_) (a' := ?_) #[true, true, true, true, true, true, true, true, true, false, false, false, false, false, false, false, false, false, false, false, false, false, false] rfl rfl (any_of HT_.out (by kernel_rfl)) (fun _ _ _ h => h) (Or.inl ⟨by rfl, ?_⟩) ?_ ?_
                    rotate_left
                    · intro w'
                      go_simp
                      with_reducible rfl
                    rotate_left
                    · simp only [Act.put, List.setIfInBounds_toArray, List.set_cons_zero, List.set_cons_succ, i64_w, i32_w]
                      rfl
                    refine pure_ (i := 9) (N := some 74) (v := ?_) (a' := ?_) #[true, true, true, true, true, true, true, true, true, true, false, false, false, false, false, false, false, false, false, false, false, false, false] rfl rfl (any_of HT_.out (by kernel_rfl)) (fun _ _ _ h => h) (Or.inl ⟨by rfl, ?_⟩) ?_ ?_
                    rotate_left
                    · intro w'
                      go_simp
                      with_reducible rfl
                    rotate_left
                    · simp only [Act.put, List.setIfInBounds_toArray, List.set_cons_zero, List.set_cons_succ, i64_w, i32_w]
                      rfl
                    refine pure_ (i := 10) (N := some 75) (v := ?_) (a' := ?_) #[true, true, true, true, true, true, true, true, true, true, true, false, false, false, false, false, false, false, false, false, false, false, false] rfl rfl (any_of HT_.out (by kernel_rfl)) (fun _ _ _ h => h) (Or.inl ⟨by rfl, ?_⟩) ?_ ?_
                    rotate_left
                    · intro w'
                      go_simp
                      with_reducible rfl
                    rotate_left
                    · simp only [Act.put, List.setIfInBounds_toArray, List.set_cons_zero, List.set_cons_succ, i64_w, i32_w]
                      rfl
                    refine pure_ (i := 11) (N := some 76) (v := ?_) (a' := ?_) #[true, true, true, true, true, true, true, true, true, true, true, true, false, false, false, false, false, false, false, false, false, false, false] rfl rfl (any_of HT_.out (by kernel_rfl)) (fun _ _ _ h => h) (Or.inl ⟨by rfl, ?_⟩) ?_ ?_
                    rotate_left
                    · intro w'
                      go_simp
                      with_reducible rfl
                    rotate_left
                    · simp only [Act.put, List.setIfInBounds_toArray, List.set_cons_zero, List.set_cons_succ, i64_w, i32_w]
                      rfl
                    refine pure_ (i := 12) (N := some 77) (v := ?_) (a' := ?_) #[true, true, true, true, true, true, true, true, true, true, true, true, true, false, false, false, false, false, false, false, false, false, false] rfl rfl (any_of HT_.out (by kernel_rfl)) (fun _ _ _ h => h) (Or.inl ⟨by rfl, ?_⟩) ?_ ?_
                    rotate_left
                    · intro w'
                      go_simp
                      with_reducible rfl
                    rotate_left
                    · simp only [Act.put, List.setIfInBounds_toArray, List.set_cons_zero, List.set_cons_succ, i64_w, i32_w]
                      rfl
                    refine pure_ (i := 15) (N := some 80) (v := ?_) (a' := ?_) #[true, true, true, true, true, true, true, true, true, true, true, true, true, false, false, true, false, false, false, false, false, false, false] rfl rfl (any_of HT_.out (by kernel_rfl)) (fun _ _ _ h => h) (Or.inl ⟨by rfl, ?_⟩) ?_ ?_
                    rotate_left
                    · intro w'
                      go_simp
                      with_reducible rfl
                    rotate_left
                    · simp only [Act.put, List.setIfInBounds_toArray, List.set_cons_zero, List.set_cons_succ, i64_w, i32_w]
                      rfl
                    refine pure_ (i := 16) (N := some 81) (v := ?_) (a' := ?_) #[true, true, true, true, true, true, true, true, true, true, true, true, true, false, false, true, true, false, false, false, false, false, false] rfl rfl (any_of HT_.out (by kernel_rfl)) (fun _ _ _ h => h) (Or.inl ⟨by rfl, ?_⟩) ?_ ?_
                    rotate_left
                    · intro w'
                      go_simp
                      with_reducible rfl
                    rotate_left
                    · simp only [Act.put, List.setIfInBounds_toArray, List.set_cons_zero, List.set_cons_succ, i64_w, i32_w]
                      rfl
                    refine take_ (i := 13) (N := some 78) (v := ?_) (a' := ?_) #[true, true, true, true, true, true, true, true, true, true, true, true, true, true, false, true, true, false, false, false, false, false, false] rfl rfl (take_ofW HT_.out HW_.out (by kernel_rfl)) (fun _ _ _ h => h) (Or.inl ⟨by rfl, ?_⟩) hHeld ?_ ?_
                    rotate_left
                    · rintro w' ⟨s0, s1⟩
                      go_simp
                      with_reducible rfl
                    rotate_left
                    · simp only [Act.put, List.setIfInBounds_toArray, List.set_cons_zero, List.set_cons_succ, i64_w, i32_w]
                      rfl
                    refine one_ (i := 14) (N := some 79) #[true, true, true, true, true, true, true, true, true, true, true, true, true, true, true, true, true, false, false, false, false, false, false] rfl rfl (one_of HT_.out (by kernel_rfl)) (by decide) (fun K hK => ?_)
                    refine Kd.N_lit_step k24 _ 24 ?hg (N' := 79) ?hd (xs := ([(⟨t403, t404⟩ : S24)] : List (S24))) (inner := [.string t403, .slice Ao42 t404.length co42]) (ok := (fun k_ => some k_ ≠ (.slice Ao7 t390.length co7 : Value).ownBlock ∧ some k_ ≠ (.slice Ao9 t393.length co9 : Value).ownBlock ∧ some k_ ≠ (.slice Ao47 t416.length co47 : Value).ownBlock ∧ k_ ≠ gb409)) (okp := (fun k_ => some k_ ≠ (.slice Ao7 t390.length co7 : Value).ownBlock ∧ some k_ ≠ (.slice Ao9 t393.length co9 : Value).ownBlock ∧ some k_ ≠ (.slice Ao47 t416.length co47 : Value).ownBlock ∧ k_ ≠ gb409)) ?hr ?hp (fun _ hk => hk) ((show ∀ k_, w46.heap.size ≤ k_ → (fun k_ => some k_ ≠ (.slice Ao7 t390.length co7 : Value).ownBlock ∧ some k_ ≠ (.slice Ao9 t393.length co9 : Value).ownBlock ∧ some k_ ≠ (.slice Ao47 t416.length co47 : Value).ownBlock ∧ k_ ≠ gb409) k_ from fun k_ hk => ⟨Kd.fresh' (Kd.N_lt (by (with_reducible repeat (first | apply Kd.N_alloc | apply Kd.N_drewN | apply Kd.N_drew)); exact HO_3.out)) k_ hk, Kd.fresh' (Kd.R_lt (by (with_reducible repeat (first | apply Kd.R_alloc | apply Kd.R_drewN | apply Kd.R_drew)); exact HO_4.out)) k_ hk, Kd.fresh' (Kd.R_lt (by (with_reducible repeat (first | apply Kd.R_alloc | apply Kd.R_drewN | apply Kd.R_drew)); exact HO419.out)) k_ hk, Kd.freshB (g := gb409) (o := .cells #[.string t403, .slice Ao42 t404.length co42] 24 (0, 0)) (by (with_reducible repeat (first | refine blk_drewN ?_ _ | refine blk_drew ?_ | refine blk_alloc ?_ _)); exact BK409.out) k_ hk⟩) _ (Nat.le_refl _)) (Below.refl _ _) (Nat.le_refl _) (by simp) ?_; (case hd => rfl); (case hg => rfl); (case hr => first | (go_simp; done) | (go_simp; rfl)); (case hp => exact (Reps.c2 (show Kd.FK k24 _ _ (⟨t403, t404⟩ : S24) [.string t403, .slice Ao42 t404.length co42] from (k24_mkF _ _ (⟨t403, t404⟩ : S24) (Kd.N_reads' (Kd.N_mono (ok' := (fun k_ => some k_ ≠ (.slice Ao7 t390.length co7 : Value).ownBlock ∧ some k_ ≠ (.slice Ao9 t393.length co9 : Value).ownBlock ∧ some k_ ≠ (.slice Ao47 t416.length co47 : Value).ownBlock ∧ k_ ≠ gb409)) (HO406.out) (fun k_ hk => ⟨hk.1.1, ⟨hk.1.2.1, ⟨hk.2, hk.1.2.2⟩⟩⟩))).2.1 (Kd.N_F (Kd.N_mono (ok' := (fun k_ => some k_ ≠ (.slice Ao7 t390.length co7 : Value).ownBlock ∧ some k_ ≠ (.slice Ao9 t393.length co9 : Value).ownBlock ∧ some k_ ≠ (.slice Ao47 t416.length co47 : Value).ownBlock ∧ k_ ≠ gb409)) (HO406.out) (fun k_ hk => ⟨hk.1.1, ⟨hk.1.2.1, ⟨hk.2, hk.1.2.2⟩⟩⟩))))) (Reps.none _ _)))
                    intro v421 w49 ho50 hb hg_ hnew_
                    clear hg_ hnew_
                    (first | rw [← Ny420.out] at ho50 | (simp only [Int.reduceToNat] at ho50; rw [← Ny420.out] at ho50))
                    have n0_ := Aside0.mk (Kd.N_elder' (by (with_reducible repeat (first | apply Kd.N_alloc | apply Kd.N_drewN | apply Kd.N_drew)); exact HO_3.out) (Kd.N_base ho50) hb)
                    have n1_ := Aside0.mk (Kd.R_below (by (with_reducible repeat (first | apply Kd.R_alloc | apply Kd.R_drewN | apply Kd.R_drew)); exact HO_4.out) hb)
                    have n2_ := Aside0.mk (Kd.V_elder' (by (with_reducible repeat (first | apply Kd.V_alloc | apply Kd.V_drewN | apply Kd.V_drew)); exact HO415.out) (Kd.N_base ho50) hb)
                    have n3_ := Aside0.mk (Kd.R_below (by (with_reducible repeat (first | apply Kd.R_alloc | apply Kd.R_drewN | apply Kd.R_drew)); exact HO419.out) hb)
                    have n4_ := Aside0.mk (Kd.V_elder' (by (with_reducible repeat (first | apply Kd.V_alloc | apply Kd.V_drewN | apply Kd.V_drew)); exact HO427.out) (Kd.N_base ho50) hb)
                    have n5_ := Aside0.mk (Kd.N_lower ho50 (below_size (by repeat (first | (with_reducible first | exact HB.out | apply below_alloc | apply pw_below_drewN | apply below_drew1 | refine below_set ?_ GE409.out) | exact HB.out))))
                    have n6_ := Aside0.mk (blk_below (g := gb409) (o := .cells #[.string t403, .slice Ao42 t404.length co42] 24 (0, 0)) (by (with_reducible repeat (first | refine blk_drewN ?_ _ | refine blk_drew ?_ | refine blk_alloc ?_ _)); exact BK409.out) hb)
                    have n7_ := Aside0.mk (below_step (by repeat (first | (with_reducible first | exact HB.out | apply below_alloc | apply pw_below_drewN | apply below_drew1 | refine below_set ?_ GE409.out) | exact HB.out)) hb)
                    clear HO_3
                    clear HO_4
                    clear HO415
                    clear HO419
                    clear HO427
                    clear BK409
                    clear HB
                    clear HO406
                    have HO_3 := n0_
                    have HO_4 := n1_
                    have HO415 := n2_
                    have HO419 := n3_
                    have HO427 := n4_
                    have HO422 := n5_
                    have BK409 := n6_
                    have HB := n7_
                    clear n0_ n1_ n2_ n3_ n4_ n5_ n6_ n7_
                    clear hb ho50
                    obtain ⟨Ao51, co51, eo51⟩ := Kd.N_slice HO422.out
                    (first | subst eo51 | (injection eo51 with f1_ f2_ f3_; have f4_ := f1_.symm; have f5_ := f3_.symm; clear f1_ f2_ f3_; subst f4_; subst f5_))
                    refine hK.out _ _ ⟨(blk_cell BK409.out 0).trans rfl, (blk_cell BK409.out 1).trans rfl⟩ (fun hHeld => ?_)
                    clear hK K
                    refine norm_ (a' := ?_) ?_ ?_
                    rotate_left
                    · show Act.put _ (some 79) _ = _
                      simp only [Act.put, List.setIfInBounds_toArray, List.set_cons_zero, List.set_cons_succ, i64_w, i32_w]
                      rfl
                    refine one_ (i := 17) (N := some 82) #[true, true, true, true, true, true, true, true, true, true, true, true, true, true, true, true, true, true, false, false, false, false, false] rfl rfl (one_of HT_.out (by kernel_rfl)) (by decide) (fun K hK => ?_)
                    refine goes_ Try.func17 (by kernel_rfl) rfl #[.slice Ao51 y420.length co51, .slice Ao7 y423.length co7] (by rfl) rfl rfl (by (try simp only [List.map_toArray, List.map_cons, List.map_nil]); first | done | rfl | (rw [show y423 = y411 from Ny423.out.trans Ny411.out.symm]; rfl) | (simp only [List.length_drop, List.length_take]; rfl)) ?_
                    with_reducible refine (customsref06_SameSegments.calls kj4 _ _ y420 _ _ y423 true _ ?side1 ?side2 ?side3 ?side4 A36.out).mono ?_
                    (case side1 => repeat (first | exact (Kd.N_reads' HO422.out).2.2 | (with_reducible refine Kd.C_alloc ?_ _) | (with_reducible refine Kd.C_drewN ?_ _) | (with_reducible refine Kd.C_drew ?_)))
                    (case side2 => exact (Kd.N_reads' HO422.out).2.1)
                    (case side3 => repeat (first | exact (Kd.V_reads' HO427.out).2.2 | (with_reducible refine Kd.C_alloc ?_ _) | (with_reducible refine Kd.C_drewN ?_ _) | (with_reducible refine Kd.C_drew ?_)))
                    (case side4 => exact (Kd.V_reads' HO427.out).2.1)
                    rintro e w' ⟨rfl, ⟨nd, rfl⟩⟩
                    refine ⟨_, rfl, ?_⟩
                    refine hK.out _ _ ⟨(blk_cell BK409.out 0).trans rfl, (blk_cell BK409.out 1).trans rfl⟩ (fun hHeld => ?_)
                    clear hK K
                    refine norm_ (a' := ?_) ?_ ?_
                    rotate_left
                    · show Act.put _ (some 82) _ = _
                      simp only [Act.put, List.setIfInBounds_toArray, List.set_cons_zero, List.set_cons_succ, i64_w, i32_w]
                      rfl
                    refine pure_ (i := 18) (N := some 83) (v := ?_) (a' := ?_) #[true, true, true, true, true, true, true, true, true, true, true, true, true, true, true, true, true, true, true, false, false, false, false] rfl rfl (any_of HT_.out (by kernel_rfl)) (fun _ _ _ h => h) (Or.inl ⟨by rfl, ?_⟩) ?_ ?_
                    rotate_left
                    · intro w'
                      go_simp
                      with_reducible rfl
                    rotate_left
                    · simp only [Act.put, List.setIfInBounds_toArray, List.set_cons_zero, List.set_cons_succ, i64_w, i32_w]
                      rfl
                    refine pure_ (i := 19) (N := some 84) (v := ?_) (a' := ?_) #[true, true, true, true, true, true, true, true, true, true, true, true, true, true, true, true, true, true, true, true, false, false, false] rfl rfl (any_of HT_.out (by kernel_rfl)) (fun _ _ _ h => h) (Or.inl ⟨by rfl, ?_⟩) ?_ ?_
                    rotate_left
                    · intro w'
                      go_simp
                      with_reducible rfl
                    rotate_left
                    · simp only [Act.put, List.setIfInBounds_toArray, List.set_cons_zero, List.set_cons_succ, i64_w, i32_w]
                      rfl
                    refine one_ (i := 20) (N := some 85) #[true, true, true, true, true, true, true, true, true, true, true, true, true, true, true, true, true, true, true, true, true, false, false] rfl rfl (one_of HT_.out (by kernel_rfl)) (by decide) (fun K hK => ?_)
                    refine goes_ Try.func11 (by kernel_rfl) rfl #[] (by rfl) rfl rfl (by (try simp only [List.map_toArray, List.map_cons, List.map_nil]); first | done | rfl | (simp only [List.length_drop, List.length_take]; rfl)) ?_
                    with_reducible refine (customslaw06_awake.calls kj4  t429 _ A38.out).mono ?_
                    rintro e w52 ⟨rfl, hb⟩
                    refine ⟨_, rfl, ?_⟩
                    have n0_ := Aside0.mk (Kd.N_below (by (with_reducible repeat (first | apply Kd.N_alloc | apply Kd.N_drewN | apply Kd.N_drew)); exact HO_3.out) hb)
                    have n1_ := Aside0.mk (Kd.R_below (by (with_reducible repeat (first | apply Kd.R_alloc | apply Kd.R_drewN | apply Kd.R_drew)); exact HO_4.out) hb)
                    have n2_ := Aside0.mk (Kd.V_below (by (with_reducible repeat (first | apply Kd.V_alloc | apply Kd.V_drewN | apply Kd.V_drew)); exact HO415.out) hb)
                    have n3_ := Aside0.mk (Kd.R_below (by (with_reducible repeat (first | apply Kd.R_alloc | apply Kd.R_drewN | apply Kd.R_drew)); exact HO419.out) hb)
                    have n4_ := Aside0.mk (Kd.V_below (by (with_reducible repeat (first | apply Kd.V_alloc | apply Kd.V_drewN | apply Kd.V_drew)); exact HO427.out) hb)
                    have n5_ := Aside0.mk (Kd.N_below (by (with_reducible repeat (first | apply Kd.N_alloc | apply Kd.N_drewN | apply Kd.N_drew)); exact HO422.out) hb)
                    have n6_ := Aside0.mk (blk_below (g := gb409) (o := .cells #[.string t403, .slice Ao42 t404.length co42] 24 (0, 0)) (by (with_reducible repeat (first | refine blk_drewN ?_ _ | refine blk_drew ?_ | refine blk_alloc ?_ _)); exact BK409.out) hb)
                    have n7_ := Aside0.mk (below_step (by repeat (first | (with_reducible first | exact HB.out | apply below_alloc | apply pw_below_drewN | apply below_drew1 | refine below_set ?_ GE409.out) | exact HB.out)) hb)
                    clear HO_3
                    clear HO_4
                    clear HO415
                    clear HO419
                    clear HO427
                    clear HO422
                    clear BK409
                    clear HB
                    have HO_3 := n0_
                    have HO_4 := n1_
                    have HO415 := n2_
                    have HO419 := n3_
                    have HO427 := n4_
                    have HO422 := n5_
                    have BK409 := n6_
                    have HB := n7_
                    clear n0_ n1_ n2_ n3_ n4_ n5_ n6_ n7_
                    (try clear hb)
                    (try clear hb2)
                    (try clear hk)
                    (try clear hi)
                    refine hK.out _ _ ⟨(blk_cell BK409.out 0).trans rfl, (blk_cell BK409.out 1).trans rfl⟩ (fun hHeld => ?_)
                    clear hK K
                    refine norm_ (a' := ?_) ?_ ?_
                    rotate_left
                    · show Act.put _ (some 85) _ = _
                      simp only [Act.put, List.setIfInBounds_toArray, List.set_cons_zero, List.set_cons_succ, i64_w, i32_w]
                      rfl
                    refine pure_ (i := 21) (N := some 86) (v := ?_) (a' := ?_) #[true, true, true, true, true, true, true, true, true, true, true, true, true, true, true, true, true, true, true, true, true, true, false] rfl rfl (any_of HT_.out (by kernel_rfl)) (fun _ _ _ h => h) (Or.inl ⟨by rfl, ?_⟩) ?_ ?_
                    rotate_left
                    · intro w'
                      go_simp
                      with_reducible rfl
                    rotate_left
                    · simp only [Act.put, List.setIfInBounds_toArray, List.set_cons_zero, List.set_cons_succ, i64_w, i32_w]
                      rfl
                    refine pure_ (i := 22) (N := some 2) (v := ?_) (a' := ?_) #[true, true, true, true, true, true, true, true, true, true, true, true, true, true, true, true, true, true, true, true, true, true, true] rfl rfl (any_of HT_.out (by kernel_rfl)) (fun _ _ _ h => h) (Or.inl ⟨by rfl, ?_⟩) ?_ ?_
                    rotate_left
                    · intro w'
                      go_simp
                      with_reducible rfl
                    rotate_left
                    · simp only [Act.put, List.setIfInBounds_toArray, List.set_cons_zero, List.set_cons_succ, i64_w, i32_w]
                      rfl
                    refine done_ (done_of HT_.out (by kernel_rfl)) ?_
                    try go_wp2
                    go_ret
                    exact ⟨by first | rfl | (simp [errW_none, errW_some] <;> rfl) | (simp [*, errW_none, errW_some] <;> rfl), by repeat (first | (with_reducible first | exact HB.out | apply below_alloc | apply pw_below_drewN | apply below_drew1 | refine below_set ?_ GE409.out) | exact HB.out)⟩
                  · replace c37 := Bool.eq_false_iff.mpr c37
                    subst c37
                    have H1 : (some false) = some r := by rw [if_neg (show ¬ (false = true) by decide)] at H; exact H
                    clear H
                    have H := H1
                    clear H1
                    exact absurd (H.trans (congrArg some hT_)) (by decide)
                · rw [if_neg c34] at H
                  have c34b0 : (t407 == (t416.length : Int)) = false := beq_eq_false_iff_ne.mpr c34
                  have c34b1 : (t407 != (t416.length : Int)) = true := bne_iff_ne.mpr c34
                  exact absurd (H.trans (congrArg some hT_)) (by decide)
              · rw [if_neg c33] at H
                have c33b0 : (t417 == 0) = false := beq_eq_false_iff_ne.mpr c33
                have c33b1 : (t417 != 0) = true := bne_iff_ne.mpr c33
                exact absurd (H.trans (congrArg some hT_)) (by decide)
            · rw [if_neg c32] at H
              have c32b0 : (t408 == 0) = false := beq_eq_false_iff_ne.mpr c32
              have c32b1 : (t408 != 0) = true := bne_iff_ne.mpr c32
              exact absurd (H.trans (congrArg some hT_)) (by decide)
          · rw [if_neg c30] at H
            exact absurd H (by simp)

/-- THE ONE PURE STATEMENT of customslaw06_SegmentRoundTrip: yours. -/
def customslaw06_SegmentRoundTrip.Pure : Prop := ∀ (l0 : List Int), l0.length ≤ maxLen → l0.length * 8 ≤ 140737488351232 → (∀ x ∈ l0, (Lit.int .i64 x).wf = true) → ∃ k, customslaw06_SegmentRoundTrip.f k l0 = some true
theorem customslaw06_SegmentRoundTrip.walk (P : customslaw06_SegmentRoundTrip.Pure) (a0 : Option Addr) (len0 cap0 : Nat) (z0 : List Int) (w : World) (w0 : (a0 = none ∧ len0 = 0 ∧ cap0 = 0 ∧ z0 = []) ∨ ∃ x, a0 = some x ∧ len0 ≤ cap0 ∧ cap0 ≤ maxLen ∧ z0.length = cap0 ∧ (∀ i, i < z0.length → w.cell? (x.add i) = some (.int .i64 (z0.getD i 0))) ∧ ∀ n ∈ z0, (Lit.int .i64 n).wf = true) (y0 : len0 * 8 ≤ 140737488351232) :
    Calls Try.prog 5 #[.slice a0 len0 cap0] w fun e w' => e = .returned (.bool true) ∧ Below w.heap.size w w' := by
  obtain ⟨l0, rfl, hr0, hm0, hw0, hc0⟩ := ReadsInt.ofRowC w0
  obtain ⟨k, h⟩ := P l0 hm0 y0 hw0
  refine (customslaw06_SegmentRoundTrip.calls k _ _ l0 true w (Kd.C_of_reads (d := (0 : Int)) (h1 := fun _ => rfl) hr0) hc0 h rfl).mono ?_
  rintro e w' ⟨rfl, hd⟩
  exact ⟨rfl, hd⟩

end Go.Proofs.Ythdahpnjiighfaa.F
