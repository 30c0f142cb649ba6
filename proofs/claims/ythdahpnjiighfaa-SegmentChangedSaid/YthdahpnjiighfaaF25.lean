import Derived.Test.YthdahpnjiighfaaF0
import Derived.Test.YthdahpnjiighfaaF11
import Derived.Test.YthdahpnjiighfaaF13
import Derived.Test.YthdahpnjiighfaaF14
import Derived.Test.YthdahpnjiighfaaF17
import Derived.Test.YthdahpnjiighfaaF19
import Derived.Test.YthdahpnjiighfaaF23
namespace Go.Proofs.Ythdahpnjiighfaa.F
open Go.RowKit Go.Proofs.YthdahpnjiighfaaW.PrintWords Go.Proofs.YthdahpnjiighfaaW.PrintLast Go.Proofs.YthdahpnjiighfaaW.PrintMore
attribute [local go_sem] max2_int min2_int max_two min_two max_three min_three max_four min_four
set_option linter.unusedVariables false
set_option linter.unusedSimpArgs false
/-! ### customslaw06_SegmentChanged: function 7 -/
mutual
def customslaw06_SegmentChanged.j1 : Nat → Int → List Int → Option (Bool)
  | 0, _, _ => none
  | k + 1, x3, x9 => if (Go.bits .and .i64 x3 1) = 1 then ((customsmade_Within.f (x3 / 2) (wrap64 ((x9.length : Int) + 1))).bind fun t578 => (if 0 ≤ t578 then (if t578 ≤ (x9.length : Int) then (customslaw06_SegmentChanged.j2 k (x9.take (t578 : Int).toNat)) else (none)) else (none))) else (customslaw06_SegmentChanged.j2 k x9)
def customslaw06_SegmentChanged.j2 : Nat → List Int → Option (Bool)
  | 0, _ => none
  | k + 1, x9 => (segment_Decode.f k x9).bind fun bt582 => ((customsref06_Decode.f k x9).bind fun bt587 => (if bt582.2.1 = bt587.2.1 then (if bt582.2.2 = bt587.2.2 then ((customsref06_SameSegments.f k bt582.1 bt587.1).bind fun t592 => (if t592 = true then ((customslaw06_awake.f k).bind fun t593 => (some t593)) else (some false))) else (some false)) else (some false)))
def customslaw06_SegmentChanged.l0 : Nat → List Int → List Int → Int → List Int → Int → Option (Bool)
  | 0, _, _, _, _, _ => none
  | k + 1, x1, x2, x3, x9, x11 => if x11 < (x1.length : Int) then (if x11 < (x2.length : Int) then (if x11 < 3 then (if (x9.length : Int) > 0 then (if 0 ≤ x11 then ((customsmade_Within.f (rd x1 x11) (x9.length : Int)).bind fun t575 => (if 0 ≤ t575 then (if t575 < (x9.length : Int) then (customslaw06_SegmentChanged.l0 k x1 x2 x3 (x9.set (t575 : Int).toNat (rd x2 x11)) (wrap64 (x11 + 1))) else (none)) else (none))) else (none)) else (customslaw06_SegmentChanged.j1 k x3 x9)) else (customslaw06_SegmentChanged.j1 k x3 x9)) else (customslaw06_SegmentChanged.j1 k x3 x9)) else (customslaw06_SegmentChanged.j1 k x3 x9)
end
def customslaw06_SegmentChanged.f (k : Nat) (l0 : List Int) (l1 : List Int) (l2 : List Int) (a3 : Int) : Option (Bool) := (customsmade_Segments.f k l0).bind fun t567 => ((customsref06_Encode.f k t567).bind fun bt570 => (customslaw06_SegmentChanged.l0 k l1 l2 a3 bt570.1 0))
theorem customslaw06_SegmentChanged.mono_l : ∀ k, (∀ y0 y1, LeO (customslaw06_SegmentChanged.j1 k y0 y1) (customslaw06_SegmentChanged.j1 (k + 1) y0 y1)) ∧ (∀ y0, LeO (customslaw06_SegmentChanged.j2 k y0) (customslaw06_SegmentChanged.j2 (k + 1) y0)) ∧ (∀ y0 y1 y2 y3 y4, LeO (customslaw06_SegmentChanged.l0 k y0 y1 y2 y3 y4) (customslaw06_SegmentChanged.l0 (k + 1) y0 y1 y2 y3 y4))
  | 0 => ⟨fun _ _ r h => by simp [customslaw06_SegmentChanged.j1] at h, fun _ r h => by simp [customslaw06_SegmentChanged.j2] at h, fun _ _ _ _ _ r h => by simp [customslaw06_SegmentChanged.l0] at h⟩
  | k + 1 => by
    obtain ⟨ih0, ih1, ih2⟩ := customslaw06_SegmentChanged.mono_l k
    refine ⟨?_, ?_, ?_⟩
    · intro y0 y1
      unfold customslaw06_SegmentChanged.j1
      repeat' first
      | (with_reducible exact ih0 _ _)
      | (with_reducible exact ih1 _)
      | (with_reducible exact ih2 _ _ _ _ _)
      | (with_reducible exact customslaw06_awake.mono _)
      | (with_reducible exact customsmade_Segments.mono _ _)
      | (with_reducible exact customsref06_Decode.mono _ _)
      | (with_reducible exact customsref06_Encode.mono _ _)
      | (with_reducible exact customsref06_SameSegments.mono _ _ _)
      | (with_reducible exact segment_Decode.mono _ _)
      | (with_reducible exact LeO.refl _)
      | (with_reducible exact LeO.none _)
      | (with_reducible refine LeO.ite ?_ ?_)
      | (with_reducible refine LeO.bind ?_ (fun _ => ?_))
      | exact ih0 _ _
      | exact ih1 _
      | exact ih2 _ _ _ _ _
      | exact customslaw06_awake.mono _
      | exact customsmade_Segments.mono _ _
      | exact customsref06_Decode.mono _ _
      | exact customsref06_Encode.mono _ _
      | exact customsref06_SameSegments.mono _ _ _
      | exact segment_Decode.mono _ _
      | exact LeO.none _
      | refine LeO.ite ?_ ?_
      | refine LeO.bind ?_ (fun _ => ?_)
    · intro y0
      unfold customslaw06_SegmentChanged.j2
      repeat' first
      | (with_reducible exact ih0 _ _)
      | (with_reducible exact ih1 _)
      | (with_reducible exact ih2 _ _ _ _ _)
      | (with_reducible exact customslaw06_awake.mono _)
      | (with_reducible exact customsmade_Segments.mono _ _)
      | (with_reducible exact customsref06_Decode.mono _ _)
      | (with_reducible exact customsref06_Encode.mono _ _)
      | (with_reducible exact customsref06_SameSegments.mono _ _ _)
      | (with_reducible exact segment_Decode.mono _ _)
      | (with_reducible exact LeO.refl _)
      | (with_reducible exact LeO.none _)
      | (with_reducible refine LeO.ite ?_ ?_)
      | (with_reducible refine LeO.bind ?_ (fun _ => ?_))
      | exact ih0 _ _
      | exact ih1 _
      | exact ih2 _ _ _ _ _
      | exact customslaw06_awake.mono _
      | exact customsmade_Segments.mono _ _
      | exact customsref06_Decode.mono _ _
      | exact customsref06_Encode.mono _ _
      | exact customsref06_SameSegments.mono _ _ _
      | exact segment_Decode.mono _ _
      | exact LeO.none _
      | refine LeO.ite ?_ ?_
      | refine LeO.bind ?_ (fun _ => ?_)
    · intro y0 y1 y2 y3 y4
      unfold customslaw06_SegmentChanged.l0
      repeat' first
      | (with_reducible exact ih0 _ _)
      | (with_reducible exact ih1 _)
      | (with_reducible exact ih2 _ _ _ _ _)
      | (with_reducible exact customslaw06_awake.mono _)
      | (with_reducible exact customsmade_Segments.mono _ _)
      | (with_reducible exact customsref06_Decode.mono _ _)
      | (with_reducible exact customsref06_Encode.mono _ _)
      | (with_reducible exact customsref06_SameSegments.mono _ _ _)
      | (with_reducible exact segment_Decode.mono _ _)
      | (with_reducible exact LeO.refl _)
      | (with_reducible exact LeO.none _)
      | (with_reducible refine LeO.ite ?_ ?_)
      | (with_reducible refine LeO.bind ?_ (fun _ => ?_))
      | exact ih0 _ _
      | exact ih1 _
      | exact ih2 _ _ _ _ _
      | exact customslaw06_awake.mono _
      | exact customsmade_Segments.mono _ _
      | exact customsref06_Decode.mono _ _
      | exact customsref06_Encode.mono _ _
      | exact customsref06_SameSegments.mono _ _ _
      | exact segment_Decode.mono _ _
      | exact LeO.none _
      | refine LeO.ite ?_ ?_
      | refine LeO.bind ?_ (fun _ => ?_)
theorem customslaw06_SegmentChanged.mono : ∀ a0 a1 a2 a3 k, LeO (customslaw06_SegmentChanged.f k a0 a1 a2 a3) (customslaw06_SegmentChanged.f (k + 1) a0 a1 a2 a3) := by
  intro a0 a1 a2 a3 k; (obtain ⟨ih0, ih1, ih2⟩ := customslaw06_SegmentChanged.mono_l k); (unfold customslaw06_SegmentChanged.f)
  repeat' first
      | (with_reducible exact ih0 _ _)
      | (with_reducible exact ih1 _)
      | (with_reducible exact ih2 _ _ _ _ _)
      | (with_reducible exact customslaw06_awake.mono _)
      | (with_reducible exact customsmade_Segments.mono _ _)
      | (with_reducible exact customsref06_Decode.mono _ _)
      | (with_reducible exact customsref06_Encode.mono _ _)
      | (with_reducible exact customsref06_SameSegments.mono _ _ _)
      | (with_reducible exact segment_Decode.mono _ _)
      | (with_reducible exact LeO.refl _)
      | (with_reducible exact LeO.none _)
      | (with_reducible refine LeO.ite ?_ ?_)
      | (with_reducible refine LeO.bind ?_ (fun _ => ?_))
      | exact ih0 _ _
      | exact ih1 _
      | exact ih2 _ _ _ _ _
      | exact customslaw06_awake.mono _
      | exact customsmade_Segments.mono _ _
      | exact customsref06_Decode.mono _ _
      | exact customsref06_Encode.mono _ _
      | exact customsref06_SameSegments.mono _ _ _
      | exact segment_Decode.mono _ _
      | exact LeO.none _
      | refine LeO.ite ?_ ?_
      | refine LeO.bind ?_ (fun _ => ?_)
def customslaw06_SegmentChanged.T5 : Bool × List (List Nat × List Nat) := (true, [([], []), ([], []), ([], []), ([1, 2], [1, 2]), ([3], [3]), ([], []), ([5], [5]), ([4, 6], [4, 6]), ([], []), ([], []), ([8, 9], [8, 9]), ([10], [10]), ([0, 7, 0, 1, 2, 3, 4, 5, 6, 7, 8, 9, 10, 11], [0, 7]), ([12, 11, 7, 0, 1, 2, 3, 4, 5, 6, 7, 8, 9, 10, 11], [11, 12])])
def customslaw06_SegmentChanged.B5 : List Nat := [0, 0, 0, 6, 14, 0, 32, 126, 0, 0, 768, 1792, 4095, 8191]
theorem customslaw06_SegmentChanged.tab5 : rtab .any (opsOf Try.f7 5) = customslaw06_SegmentChanged.T5 := by kernel_rfl
theorem customslaw06_SegmentChanged.bits5 : waitsOk customslaw06_SegmentChanged.T5.2 customslaw06_SegmentChanged.B5 = true := by kernel_rfl
set_option maxHeartbeats 8000000 in
set_option maxRecDepth 100000 in
theorem customslaw06_SegmentChanged.calls (k : Nat) (A0 : Option Addr) (c0 : Nat) (l0 : List Int) (A1 : Option Addr) (c1 : Nat) (l1 : List Int) (A2 : Option Addr) (c2 : Nat) (l2 : List Int) (a3 : Int) (r : Bool) (w : World) (hr0 : Kd.C (Kd.int .i64) w A0 l0.length l0) (hc0 : l0.length ≤ c0) (hr1 : Kd.C (Kd.int .i64) w A1 l1.length l1) (hc1 : l1.length ≤ c1) (hr2 : Kd.C (Kd.int .u8) w A2 l2.length l2) (hc2 : l2.length ≤ c2) (h : customslaw06_SegmentChanged.f k l0 l1 l2 a3 = some r) (hT_ : r = true) :
    Calls Try.prog 7 #[.slice A0 l0.length c0, .slice A1 l1.length c1, .slice A2 l2.length c2, .int .i64 a3] w fun e w' => e = .returned (.bool r) ∧ Below w.heap.size w w' := by
  have HR0 := Aside0.mk hr0; have HC0 := Aside0.mk hc0; clear hr0 hc0; have HR1 := Aside0.mk hr1; have HC1 := Aside0.mk hc1; clear hr1 hc1; have HR2 := Aside0.mk hr2; have HC2 := Aside0.mk hc2; clear hr2 hc2; (have HB := Aside0.mk (Below.refl w.heap.size w)); (have H : ((customsmade_Segments.f k l0).bind fun t567 => ((customsref06_Encode.f k t567).bind fun bt570 => (customslaw06_SegmentChanged.l0 k l1 l2 a3 bt570.1 0))) = some r := h); clear h; (replace H := Option.bind_eq_some_iff.mp H); (obtain ⟨t567, A50, H⟩ := H); (replace H : ((customsref06_Encode.f k t567).bind fun bt570 => (customslaw06_SegmentChanged.l0 k l1 l2 a3 bt570.1 0)) = some r := H); have A5 := Aside0.mk A50; clear A50; (replace H := Option.bind_eq_some_iff.mp H); (obtain ⟨⟨t570, t571⟩, A60, H⟩ := H); (replace H : (customslaw06_SegmentChanged.l0 k l1 l2 a3 t570 0) = some r := H); have A6 := Aside0.mk A60; clear A60; have HC7 := Aside0.mk H; clear H; (go_enter Try.func7, Try.ntmps7); (go_upto_block 0 with (first | ((with_reducible refine gate_callee (f := 12) rfl ?_); refine goesL_ (some 20) rfl rfl Try.func12 (by kernel_rfl) rfl #[.slice A0 l0.length c0] rfl (by (try simp only [List.map_toArray, List.map_cons, List.map_nil]); first | done | rfl | (simp only [List.length_drop, List.length_take]; rfl)) ?_; (with_reducible refine (customsmade_Segments.calls k _ _ l0 t567 _ ?side1 ?side2 A5.out).mono ?_); (case side1 => repeat (first | exact HR0.out | (with_reducible refine Kd.C_alloc ?_ _) | (with_reducible refine Kd.C_drewN ?_ _) | (with_reducible refine Kd.C_drew ?_))); (case side2 => exact HC0.out); rintro e w8 ⟨v568, rfl, ho0, hb⟩; refine ⟨_, rfl, ?_⟩; have n0_ := Aside0.mk (Kd.R_lower ho0 (below_size HB.out)); have n1_ := Aside0.mk (below_step HB.out hb); clear HB; have HO569 := n0_; have HB := n1_; clear n0_ n1_; (try clear hb); (try clear hb2); (try clear hk); (try clear hi); (try clear ho0); obtain ⟨Ao9, co9, eo9⟩ := Kd.R_slice HO569.out; subst eo9) | ((with_reducible refine gate_callee (f := 14) rfl ?_); refine goesL_ (some 21) rfl rfl Try.func14 (by kernel_rfl) rfl #[.slice Ao9 t567.length co9] rfl (by (try simp only [List.map_toArray, List.map_cons, List.map_nil]); first | done | rfl | (simp only [List.length_drop, List.length_take]; rfl)) ?_; (with_reducible refine (customsref06_Encode.calls k _ _ t567 t570 t571 _ ?side1 ?side2 A6.out).mono ?_); (case side1 => repeat (first | exact (Kd.R_reads' HO569.out).2.2 | (with_reducible refine Kd.C_alloc ?_ _) | (with_reducible refine Kd.C_drewN ?_ _) | (with_reducible refine Kd.C_drew ?_))); (case side2 => exact (Kd.R_reads' HO569.out).2.1); rintro e w10 ⟨v572, rfl, ho0, hb⟩; refine ⟨_, rfl, ?_⟩; have n0_ := Aside0.mk (Kd.R_below HO569.out hb); have n1_ := Aside0.mk (Kd.R_lower ho0 (below_size HB.out)); have n2_ := Aside0.mk (below_step HB.out hb); clear HO569; clear HB; have HO569 := n0_; have HO573 := n1_; have HB := n2_; clear n0_ n1_ n2_; (try clear hb); (try clear hb2); (try clear hk); (try clear hi); (try clear ho0)))); (try simp only [Act.put, List.setIfInBounds_toArray, List.set_cons_zero, List.set_cons_succ]); (go_cut [] (fun wc => ∃ (kq : Nat) (x9_6 : List Int), Aside0 (customslaw06_SegmentChanged.j1 kq a3 x9_6 = some r) ∧ Aside0 (kq ≤ k) ∧ Aside0 (Kd.R (Kd.int .u8) 5 wc w.heap.size (fun _ => True) v572 x9_6) ∧ Aside0 (Below w.heap.size w wc)))
  case first =>
    have H := HC7.out; clear HC7; have H' := Aside0.mk H; clear H; go_wp2; (go_loopg [11] k (fun kq v11 w' => ∃ (x9_1 : List Int) (x11_1 : Int), v11 = .int .i64 x11_1 ∧ Aside0 (customslaw06_SegmentChanged.l0 kq l1 l2 a3 x9_1 x11_1 = some r) ∧ Aside0 (kq ≤ k) ∧ Aside0 (Kd.R (Kd.int .u8) 5 w' w.heap.size (fun _ => True) v572 x9_1) ∧ Aside0 (Below w.heap.size w w'))); (case atStart => exact ⟨(t570), (0), (by first | rfl | (simp; done) | (simp [*]; done)), H', ⟨Nat.le_refl _⟩, ⟨by (with_reducible repeat (first | apply Kd.R_alloc | apply Kd.R_drewN | apply Kd.R_drew)); exact HO573.out⟩, ⟨by repeat (first | (with_reducible first | exact HB.out | apply below_alloc | apply pw_below_drewN | apply below_drew1) | exact HB.out)⟩⟩)
    case round =>
      clear H'; (try clear c1); (try clear c2); (try clear p2); (try clear c7); (obtain ⟨x9_1, x11_1, rfl, HA, HK1, HO_9, HB⟩ := hrel)
      cases gk with
      | zero => exact absurd HA.out (by simp [customslaw06_SegmentChanged.l0])
      | succ k1 =>
        have H := HA.out; clear HA; (simp only [customslaw06_SegmentChanged.l0] at H); (by_cases c11 : x11_1 < (l1.length : Int))
        · (rw [if_pos c11] at H); (have c11b0 : decide (x11_1 < (l1.length : Int)) = true := decide_eq_true c11); clear c11; (first | rw [c11b0] | (simp only [i64_w, i32_w]; rw [c11b0]) | skip); (by_cases c12 : x11_1 < (l2.length : Int))
          · (rw [if_pos c12] at H); (have c12b0 : decide (x11_1 < (l2.length : Int)) = true := decide_eq_true c12); clear c12; (by_cases c13 : x11_1 < 3)
            · (rw [if_pos c13] at H); (have c13b0 : decide (x11_1 < 3) = true := decide_eq_true c13); clear c13; (by_cases c14 : (x9_1.length : Int) > 0)
              · (rw [if_pos c14] at H); (have c14b0 : decide (0 < (x9_1.length : Int)) = true := decide_eq_true c14); (have c14b1 : decide (0 < x9_1.length) = true := decide_eq_true (by omega)); clear c14; (by_cases c15 : 0 ≤ x11_1)
                · (rw [if_pos c15] at H); (have c15b0 : decide (0 ≤ x11_1) = true := decide_eq_true c15); clear c15; (replace H := Option.bind_eq_some_iff.mp H); (obtain ⟨t575, A160, H⟩ := H); (replace H : (if 0 ≤ t575 then (if t575 < (x9_1.length : Int) then (customslaw06_SegmentChanged.l0 k1 l1 l2 a3 (x9_1.set (t575 : Int).toNat (rd l2 x11_1)) (wrap64 (x11_1 + 1))) else (none)) else (none)) = some r := H); have A16 := Aside0.mk A160; clear A160; (by_cases c17 : 0 ≤ t575)
                  · (rw [if_pos c17] at H); (have c17b0 : decide (0 ≤ t575) = true := decide_eq_true c17); clear c17; (by_cases c18 : t575 < (x9_1.length : Int))
                    · (rw [if_pos c18] at H); (have c18b0 : decide (t575 < (x9_1.length : Int)) = true := decide_eq_true c18); clear c18; (obtain ⟨y577, hy577⟩ : ∃ y_ : List Int, y_ = (x9_1.set (t575 : Int).toNat (rd l2 x11_1)) := ⟨_, rfl⟩); (replace H : (customslaw06_SegmentChanged.l0 k1 l1 l2 a3 y577 (wrap64 (x11_1 + 1))) = some r := by first | (rw [hy577]; with_reducible exact H) | (have H2_ := (Option.bind_some _ _).symm.trans H; rw [hy577]; with_reducible exact H2_) | (have H2_ := (Option.bind_some _ _).symm.trans H; with_reducible exact H2_) | with_reducible exact H | (rw [hy577]; exact H) | exact H); have Ny577 := Aside0.mk hy577; clear hy577; have H' := Aside0.mk H; clear H; (obtain ⟨Ao20, co20, eo20⟩ := Kd.R_slice HO_9.out); subst eo20; (try go_wp2); (have n0_ := Aside0.mk (Kd.R_drew HO_9.out)); (have n1_ := Aside0.mk (below_drew1 HB.out)); clear HO_9; clear HB; have HO_9 := n0_; have HB := n1_; clear n0_ n1_; (have p574 : 0 ≤ (x11_1 : Int) := of_decide_eq_true (by first | (with_reducible assumption) | assumption)); (have q574 : x11_1 < (l1.length : Int) := of_decide_eq_true (by first | (with_reducible assumption) | assumption)); (obtain ⟨ad574, e574, hx574_0⟩ := Kd.at_int HR1.out x11_1 p574 q574); have hw574_0 := hx574_0; (cases e574); (replace hx574_0 := (HB.out.cell (World.block_lt_of_cell? w _ hx574_0)).trans hx574_0); replace p574 := eq_true p574; replace q574 := eq_true q574; (have p576 : 0 ≤ (x11_1 : Int) := of_decide_eq_true (by first | (with_reducible assumption) | assumption)); (have q576 : x11_1 < (l2.length : Int) := of_decide_eq_true (by first | (with_reducible assumption) | assumption)); (obtain ⟨ad576, e576, hx576_0⟩ := Kd.at_int HR2.out x11_1 p576 q576); have hw576_0 := hx576_0; (cases e576); (replace hx576_0 := (HB.out.cell (World.block_lt_of_cell? w _ hx576_0)).trans hx576_0); replace p576 := eq_true p576; replace q576 := eq_true q576; (refine start_ (n := 14) (S := fun w' => w'.cell? (ad574.add (x11_1).toNat) = some (.int .i64 (rd l1 x11_1)) ∧ w'.cell? (ad576.add (x11_1).toNat) = some (.int .u8 (rd l2 x11_1))) (ds := [13]) #[false, false, false, false, false, false, false, false, false, false, false, false, false, false] (by kernel_rfl) rfl rfl ⟨((HB.out.cell (World.block_lt_of_cell? w _ hw574_0)).trans hw574_0), ((HB.out.cell (World.block_lt_of_cell? w _ hw576_0)).trans hw576_0)⟩ (fun hHeld => ?_); refine with_tabW customslaw06_SegmentChanged.tab5 customslaw06_SegmentChanged.bits5 (fun HT_ HW_ => ?_)); (generalize wr.drew = w21 at HO_9 HB hx574_0 hx576_0 hHeld ⊢); (refine pure_ (i := 0) (N := some 45) (v := ?_) (a' := ?_) #[true, false, false, false, false, false, false, false, false, false, false, false, false, false] rfl rfl (any_of HT_.out (by kernel_rfl)) (fun _ _ _ h => h) (Or.inl ⟨by rfl, ?_⟩) ?_ ?_); rotate_left
                      · intro w'; (go_simp); with_reducible rfl
                      rotate_left
                      · (simp only [Act.put, List.setIfInBounds_toArray, List.set_cons_zero, List.set_cons_succ, i64_w, i32_w]); rfl
                      (refine pure_ (i := 1) (N := some 46) (v := ?_) (a' := ?_) #[true, true, false, false, false, false, false, false, false, false, false, false, false, false] rfl rfl (any_of HT_.out (by kernel_rfl)) (fun _ _ _ h => h) (Or.inl ⟨by rfl, ?_⟩) ?_ ?_); rotate_left
                      · intro w'; (go_simp); with_reducible rfl
                      rotate_left
                      · (simp only [Act.put, List.setIfInBounds_toArray, List.set_cons_zero, List.set_cons_succ, i64_w, i32_w]); rfl
                      (refine pure_ (i := 2) (N := some 47) (v := ?_) (a' := ?_) #[true, true, true, false, false, false, false, false, false, false, false, false, false, false] rfl rfl (any_of HT_.out (by kernel_rfl)) (fun _ _ _ h => h) (Or.inl ⟨by rfl, ?_⟩) ?_ ?_); rotate_left
                      · intro w'; (go_simp); with_reducible rfl
                      rotate_left
                      · (simp only [Act.put, List.setIfInBounds_toArray, List.set_cons_zero, List.set_cons_succ, i64_w, i32_w]); rfl
                      (refine pure_ (i := 3) (N := some 48) (v := ?_) (a' := ?_) #[true, true, true, true, false, false, false, false, false, false, false, false, false, false] rfl rfl (any_of HT_.out (by kernel_rfl)) (fun _ _ _ h => h) (Or.inl ⟨by rfl, ?_⟩) ?_ ?_); rotate_left
                      · intro w'; (go_simp); with_reducible rfl
                      rotate_left
                      · (simp only [Act.put, List.setIfInBounds_toArray, List.set_cons_zero, List.set_cons_succ, i64_w, i32_w]); rfl
                      (refine pure_ (i := 5) (N := some 50) (v := ?_) (a' := ?_) #[true, true, true, true, false, true, false, false, false, false, false, false, false, false] rfl rfl (any_of HT_.out (by kernel_rfl)) (fun _ _ _ h => h) (Or.inl ⟨by rfl, ?_⟩) ?_ ?_); rotate_left
                      · intro w'; (go_simp); with_reducible rfl
                      rotate_left
                      · (simp only [Act.put, List.setIfInBounds_toArray, List.set_cons_zero, List.set_cons_succ, i64_w, i32_w]); rfl
                      (refine pure_ (i := 6) (N := some 51) (v := ?_) (a' := ?_) #[true, true, true, true, false, true, true, false, false, false, false, false, false, false] rfl rfl (any_of HT_.out (by kernel_rfl)) (fun _ _ _ h => h) (Or.inl ⟨by rfl, ?_⟩) ?_ ?_); rotate_left
                      · intro w'; (go_simp); with_reducible rfl
                      rotate_left
                      · (simp only [Act.put, List.setIfInBounds_toArray, List.set_cons_zero, List.set_cons_succ, i64_w, i32_w]); rfl
                      (refine pure_ (i := 8) (N := some 53) (v := ?_) (a' := ?_) #[true, true, true, true, false, true, true, false, true, false, false, false, false, false] rfl rfl (any_of HT_.out (by kernel_rfl)) (fun _ _ _ h => h) (Or.inl ⟨by rfl, ?_⟩) ?_ ?_); rotate_left
                      · intro w'; (go_simp); with_reducible rfl
                      rotate_left
                      · (simp only [Act.put, List.setIfInBounds_toArray, List.set_cons_zero, List.set_cons_succ, i64_w, i32_w]); rfl
                      (refine pure_ (i := 9) (N := some 54) (v := ?_) (a' := ?_) #[true, true, true, true, false, true, true, false, true, true, false, false, false, false] rfl rfl (any_of HT_.out (by kernel_rfl)) (fun _ _ _ h => h) (Or.inl ⟨by rfl, ?_⟩) ?_ ?_); rotate_left
                      · intro w'; (go_simp); with_reducible rfl
                      rotate_left
                      · (simp only [Act.put, List.setIfInBounds_toArray, List.set_cons_zero, List.set_cons_succ, i64_w, i32_w]); rfl
                      (refine pure_ (i := 10) (N := some 55) (v := ?_) (a' := ?_) #[true, true, true, true, false, true, true, false, true, true, true, false, false, false] rfl rfl (any_of HT_.out (by kernel_rfl)) (fun _ _ _ h => h) (Or.inl ⟨by rfl, ?_⟩) ?_ ?_); rotate_left
                      · intro w'; (go_simp); with_reducible rfl
                      rotate_left
                      · (simp only [Act.put, List.setIfInBounds_toArray, List.set_cons_zero, List.set_cons_succ, i64_w, i32_w]); rfl
                      (refine take_ (i := 4) (N := some 49) (v := ?_) (a' := ?_) #[true, true, true, true, true, true, true, false, true, true, true, false, false, false] rfl rfl (take_ofW HT_.out HW_.out (by kernel_rfl)) (fun _ _ _ h => h) (Or.inl ⟨by rfl, ?_⟩) hHeld ?_ ?_); rotate_left
                      · (rintro w' ⟨s0, s1⟩); (go_simp); with_reducible rfl
                      rotate_left
                      · (simp only [Act.put, List.setIfInBounds_toArray, List.set_cons_zero, List.set_cons_succ, i64_w, i32_w]); rfl
                      (refine take_ (i := 11) (N := some 56) (v := ?_) (a' := ?_) #[true, true, true, true, true, true, true, false, true, true, true, true, false, false] rfl rfl (take_ofW HT_.out HW_.out (by kernel_rfl)) (fun _ _ _ h => h) (Or.inl ⟨by rfl, ?_⟩) hHeld ?_ ?_); rotate_left
                      · (rintro w' ⟨s0, s1⟩); (go_simp); with_reducible rfl
                      rotate_left
                      · (simp only [Act.put, List.setIfInBounds_toArray, List.set_cons_zero, List.set_cons_succ, i64_w, i32_w]); rfl
                      (refine one_ (i := 7) (N := some 52) #[true, true, true, true, true, true, true, true, true, true, true, true, false, false] rfl rfl (one_of HT_.out (by kernel_rfl)) (by decide) (fun K hK => ?_)); (refine goes_ Try.func15 (by kernel_rfl) rfl #[.int .i64 (rd l1 x11_1), .int .i64 (x9_1.length : Int)] (by rfl) rfl rfl (by (try simp only [List.map_toArray, List.map_cons, List.map_nil]); first | done | rfl | (simp only [List.length_drop, List.length_take]; rfl)) ?_); (with_reducible refine (customsmade_Within.calls (rd l1 x11_1) (x9_1.length : Int) t575 _ A16.out).mono ?_); (rintro e w' ⟨rfl, ⟨nd, rfl⟩⟩); (refine ⟨_, rfl, ?_⟩); (have p19 : 0 ≤ (t575 : Int) := of_decide_eq_true (by first | (with_reducible assumption) | assumption)); (have q19 : (t575 : Int) < ((x9_1.length : Int) : Int) := of_decide_eq_true (by first | (with_reducible assumption) | assumption)); (obtain ⟨go19, co19, eo19, gb19, gl19, cl19, HG19⟩ := Kd.R_form HO_9.out (by omega)); (first | cases eo19 | (injection eo19 with ea_ en_ ec_; (first | subst ea_ | (injection ea_ with ea_; subst ea_)); subst ec_; clear en_)); have GB19 := Aside0.mk gb19; have GG19 := Aside0.mk HG19; clear gb19 gl19 HG19; (obtain ⟨hx19_0, hf19_0⟩ := Kd.R_celln 0 HO_9.out (t575 : Int) p19 q19); replace p19 := eq_true p19; replace q19 := eq_true q19; (have HP22 := Kd.R_putn HO_9.out (t575 : Int) (rd l2 x11_1)); (rw [← Ny577.out] at HP22); have HQ22 := Aside0.mk HP22; clear HP22; (refine hK.out _ _ ⟨((HB.out.cell (World.block_lt_of_cell? w _ hw574_0)).trans hw574_0), ((HB.out.cell (World.block_lt_of_cell? w _ hw576_0)).trans hw576_0)⟩ (fun hHeld => ?_)); clear hK K; (refine norm_ (a' := ?_) ?_ ?_); rotate_left
                      · (show Act.put _ (some 52) _ = _); (simp only [Act.put, List.setIfInBounds_toArray, List.set_cons_zero, List.set_cons_succ, i64_w, i32_w]); rfl
                      (refine pure_ (i := 12) (N := some 57) (v := ?_) (a' := ?_) #[true, true, true, true, true, true, true, true, true, true, true, true, true, false] rfl rfl (any_of HT_.out (by kernel_rfl)) (fun _ _ _ h => h) (Or.inl ⟨by rfl, ?_⟩) ?_ ?_); rotate_left
                      · intro w'; (go_simp); with_reducible rfl
                      rotate_left
                      · (simp only [Act.put, List.setIfInBounds_toArray, List.set_cons_zero, List.set_cons_succ, i64_w, i32_w]); rfl
                      (refine last_ (i := 13) (N := none) #[true, true, true, true, true, true, true, true, true, true, true, true, true, true] rfl rfl (one_of HT_.out (by kernel_rfl)) (by decide) (fun K hK => ?_)); (refine skip_ (w1 := ?_) (by rfl) rfl ?_ ?_); rotate_left
                      · (go_simp); rfl
                      (refine hK.out _ _ ?_); clear hK K; (refine done_ (done_of HT_.out (by kernel_rfl)) ?_); (try go_wp2); (go_roundg k1); (case measure => have := HK1.out; omega); (case rel => exact ⟨(y577), (wrap64 (x11_1 + 1)), (by first | rfl | (simp; done) | (simp [*]; done)), H', ⟨by have := HK1.out; omega⟩, ⟨by (with_reducible repeat (first | apply Kd.R_alloc | apply Kd.R_drewN | apply Kd.R_drew)); exact HQ22.out⟩, ⟨by repeat (first | (with_reducible first | exact HB.out | apply below_alloc | apply pw_below_drewN | apply below_drew1 | refine below_set ?_ GB19.out) | exact HB.out)⟩⟩)
                    · (rw [if_neg c18] at H); (exact absurd H (by simp))
                  · (rw [if_neg c17] at H); (exact absurd H (by simp))
                · (rw [if_neg c15] at H); (exact absurd H (by simp))
              · (rw [if_neg c14] at H); (have c14b0 : decide (0 < (x9_1.length : Int)) = false := decide_eq_false c14); (have c14b1 : decide (0 < x9_1.length) = false := decide_eq_false (by omega)); clear c14; have H' := Aside0.mk H; clear H; (obtain ⟨Ao23, co23, eo23⟩ := Kd.R_slice HO_9.out); subst eo23; go_wp2; (go_meet); (case rel => exact ⟨_, (x9_1), H', ⟨by have := HK1.out; first | omega | exact Nat.le_refl _⟩, ⟨by (with_reducible repeat (first | apply Kd.R_alloc | apply Kd.R_drewN | apply Kd.R_drew)); exact HO_9.out⟩, ⟨by repeat (first | (with_reducible first | exact HB.out | apply below_alloc | apply pw_below_drewN | apply below_drew1) | exact HB.out)⟩⟩)
            · (rw [if_neg c13] at H); (have c13b0 : decide (x11_1 < 3) = false := decide_eq_false c13); clear c13; have H' := Aside0.mk H; clear H; go_wp2; (go_meet); (case rel => exact ⟨_, (x9_1), H', ⟨by have := HK1.out; first | omega | exact Nat.le_refl _⟩, ⟨by (with_reducible repeat (first | apply Kd.R_alloc | apply Kd.R_drewN | apply Kd.R_drew)); exact HO_9.out⟩, ⟨by repeat (first | (with_reducible first | exact HB.out | apply below_alloc | apply pw_below_drewN | apply below_drew1) | exact HB.out)⟩⟩)
          · (rw [if_neg c12] at H); (have c12b0 : decide (x11_1 < (l2.length : Int)) = false := decide_eq_false c12); clear c12; have H' := Aside0.mk H; clear H; go_wp2; (go_meet); (case rel => exact ⟨_, (x9_1), H', ⟨by have := HK1.out; first | omega | exact Nat.le_refl _⟩, ⟨by (with_reducible repeat (first | apply Kd.R_alloc | apply Kd.R_drewN | apply Kd.R_drew)); exact HO_9.out⟩, ⟨by repeat (first | (with_reducible first | exact HB.out | apply below_alloc | apply pw_below_drewN | apply below_drew1) | exact HB.out)⟩⟩)
        · (rw [if_neg c11] at H); (have c11b0 : decide (x11_1 < (l1.length : Int)) = false := decide_eq_false c11); clear c11; (first | rw [c11b0] | (simp only [i64_w, i32_w]; rw [c11b0]) | skip); have H' := Aside0.mk H; clear H; go_wp2; (go_meet); (case rel => exact ⟨_, (x9_1), H', ⟨by have := HK1.out; first | omega | exact Nat.le_refl _⟩, ⟨by (with_reducible repeat (first | apply Kd.R_alloc | apply Kd.R_drewN | apply Kd.R_drew)); exact HO_9.out⟩, ⟨by repeat (first | (with_reducible first | exact HB.out | apply below_alloc | apply pw_below_drewN | apply below_drew1) | exact HB.out)⟩⟩)
  case rest =>
    clear HC7; (try clear c1); (try clear p1); (try clear q1); (try clear hx1); (try clear c2); (try clear p2); (try clear p5); (try clear q5); (try clear hx5); (try clear p6); (try clear c7); (try clear c11); (try clear c11b0); (try clear c12); (try clear c12b0); (try clear c13); (try clear c13b0); (try clear c14); (try clear c14b0); (try clear c14b1); (try clear c15); (try clear c15b0); (try clear c17); (try clear c17b0); (try clear c18); (try clear c18b0); (try clear p19); (try clear q19); (try clear hx19); (try clear hf19); (try clear hx19_0); (try clear hx574_0); (try clear hx576_0); (try clear p19); (try clear p2); (try clear p574); (try clear p576); (try clear q19); (try clear q574); (try clear q576); (obtain ⟨kq, x9_6, HA, HJ6, HO_9, HB⟩ := hcut)
    cases kq with
    | zero => exact absurd HA.out (by simp [customslaw06_SegmentChanged.j1])
    | succ kj6 =>
      have H := HA.out; clear HA; (simp only [customslaw06_SegmentChanged.j1] at H); have HC24 := Aside0.mk H; clear H; (go_upto_if 60 with (fail)); (go_cut [9] (fun v9 wc => ∃ (kq : Nat) (x9_23 : List Int), Aside0 (customslaw06_SegmentChanged.j2 kq x9_23 = some r) ∧ Aside0 (kq ≤ kj6) ∧ Aside0 (Kd.R (Kd.int .u8) 5 wc w.heap.size (fun _ => True) v9 x9_23) ∧ Aside0 (Below w.heap.size w wc)))
      case first =>
        have H := HC24.out; clear HC24; (by_cases c25 : (Go.bits .and .i64 a3 1) = 1)
        · (rw [if_pos c25] at H); (have c25b0 : ((Go.bits .and .i64 a3 1) == 1) = true := beq_iff_eq.mpr c25); (have c25b1 : ((Go.bits .and .i64 a3 1) != 1) = false := bne_eq_false_iff_eq.mpr c25); clear c25; (first | rw [c25b0] | (simp only [i64_w, i32_w]; rw [c25b0]) | skip); (replace H := Option.bind_eq_some_iff.mp H); (obtain ⟨t578, A260, H⟩ := H); (replace H : (if 0 ≤ t578 then (if t578 ≤ (x9_6.length : Int) then (customslaw06_SegmentChanged.j2 kj6 (x9_6.take (t578 : Int).toNat)) else (none)) else (none)) = some r := H); have A26 := Aside0.mk A260; clear A260; (by_cases c27 : 0 ≤ t578)
          · (rw [if_pos c27] at H); (have c27b0 := eq_true c27); (have c27b1 : decide (0 ≤ t578) = true := decide_eq_true c27); clear c27; (by_cases c28 : t578 ≤ (x9_6.length : Int))
            · (rw [if_pos c28] at H); (have c28b0 := eq_true c28); (have c28b1 : decide (t578 ≤ (x9_6.length : Int)) = true := decide_eq_true c28); clear c28; (obtain ⟨y579, hy579⟩ : ∃ y_ : List Int, y_ = (x9_6.take (t578 : Int).toNat) := ⟨_, rfl⟩); (replace H : (customslaw06_SegmentChanged.j2 kj6 y579) = some r := by first | (rw [hy579]; with_reducible exact H) | (have H2_ := (Option.bind_some _ _).symm.trans H; rw [hy579]; with_reducible exact H2_) | (have H2_ := (Option.bind_some _ _).symm.trans H; with_reducible exact H2_) | with_reducible exact H | (rw [hy579]; exact H) | exact H); have Ny579 := Aside0.mk hy579; clear hy579; have H' := Aside0.mk H; clear H; (obtain ⟨Ao29, co29, eo29⟩ := Kd.R_slice HO_9.out); subst eo29; (go_wp2_with (first | ((with_reducible refine gate_callee (f := 15) rfl ?_); refine goesL_ (some 67) rfl rfl Try.func15 (by kernel_rfl) rfl #[.int .i64 (a3 / 2), .int .i64 (wrap64 ((x9_6.length : Int) + 1))] rfl (by (try simp only [List.map_toArray, List.map_cons, List.map_nil]); first | done | rfl | (simp only [List.length_drop, List.length_take]; rfl)) ?_; (with_reducible refine (customsmade_Within.calls (a3 / 2) (wrap64 ((x9_6.length : Int) + 1)) t578 _ A26.out).mono ?_); rintro e w' ⟨rfl, ⟨nd, rfl⟩⟩; refine ⟨_, rfl, ?_⟩; have q30 : (t578 : Int) ≤ ((x9_6.length : Int) : Int) := of_decide_eq_true (by first | (with_reducible assumption) | assumption); obtain ⟨i030, hi030, _, hsz30, _⟩ := info_parts info5; have hcut30 := cut_to (P := Try.prog) 32 5 .i64 Try.underlying32 hi030 Ao29 x9_6.length co29 t578 (of_decide_eq_true (by first | (with_reducible assumption) | assumption)) q30 (Kd.R_reads' HO_9.out).2.1; have hr30 := Kd.R_take (m := (t578 : Int).toNat) HO_9.out (by omega); have hy30 : y579.length = (t578 : Int).toNat := (by rw [Ny579.out, List.length_take]; omega); rw [← Ny579.out] at hr30; rw [← hy30] at hr30 hcut30; clear hy30 hi030 hsz30 HO_9; have HO581 := Aside0.mk hr30; clear hr30; replace q30 := eq_true q30))); (go_meet); (case rel => exact ⟨_, (y579), H', ⟨by have := HJ6.out; first | omega | exact Nat.le_refl _⟩, ⟨by (with_reducible repeat (first | apply Kd.R_alloc | apply Kd.R_drewN | apply Kd.R_drew)); exact HO581.out⟩, ⟨by repeat (first | (with_reducible first | exact HB.out | apply below_alloc | apply pw_below_drewN | apply below_drew1) | exact HB.out)⟩⟩)
            · (rw [if_neg c28] at H); (exact absurd H (by simp))
          · (rw [if_neg c27] at H); (exact absurd H (by simp))
        · (rw [if_neg c25] at H); (have c25b0 : ((Go.bits .and .i64 a3 1) == 1) = false := beq_eq_false_iff_ne.mpr c25); (have c25b1 : ((Go.bits .and .i64 a3 1) != 1) = true := bne_iff_ne.mpr c25); (first | rw [c25b0] | (simp only [i64_w, i32_w]; rw [c25b0]) | skip); have H' := Aside0.mk H; clear H; go_wp2; (go_meet); (case rel => exact ⟨_, (x9_6), H', ⟨by have := HJ6.out; first | omega | exact Nat.le_refl _⟩, ⟨by (with_reducible repeat (first | apply Kd.R_alloc | apply Kd.R_drewN | apply Kd.R_drew)); exact HO_9.out⟩, ⟨by repeat (first | (with_reducible first | exact HB.out | apply below_alloc | apply pw_below_drewN | apply below_drew1) | exact HB.out)⟩⟩)
      case rest =>
        clear HC24; (try clear c1); (try clear p1); (try clear q1); (try clear hx1); (try clear c2); (try clear p2); (try clear q3); (try clear p5); (try clear q5); (try clear hx5); (try clear p6); (try clear c7); (try clear c11); (try clear c11b0); (try clear c12); (try clear c12b0); (try clear c13); (try clear c13b0); (try clear c14); (try clear c14b0); (try clear c14b1); (try clear c15); (try clear c15b0); (try clear c17); (try clear c17b0); (try clear c18); (try clear c18b0); (try clear p19); (try clear q19); (try clear hx19); (try clear hf19); (try clear c25); (try clear c25b0); (try clear c25b1); (try clear c27); (try clear c27b0); (try clear c27b1); (try clear c28); (try clear c28b0); (try clear c28b1); (try clear q30); (try clear hx19_0); (try clear hx574_0); (try clear hx576_0); (try clear p1); (try clear p19); (try clear p2); (try clear p5); (try clear p574); (try clear p576); (try clear p6); (try clear q1); (try clear q19); (try clear q30); (try clear q5); (try clear q574); (try clear q576); (obtain ⟨kq, x9_23, HA, HJ23, HO_9, HB⟩ := hcut)
        cases kq with
        | zero => exact absurd HA.out (by simp [customslaw06_SegmentChanged.j2])
        | succ kj23 =>
          have H := HA.out; clear HA; (simp only [customslaw06_SegmentChanged.j2] at H); (replace H := Option.bind_eq_some_iff.mp H); (obtain ⟨⟨t582, t583, t584⟩, A310, H⟩ := H); (replace H : ((customsref06_Decode.f kj23 x9_23).bind fun bt587 => (if t583 = bt587.2.1 then (if t584 = bt587.2.2 then ((customsref06_SameSegments.f kj23 t582 bt587.1).bind fun t592 => (if t592 = true then ((customslaw06_awake.f kj23).bind fun t593 => (some t593)) else (some false))) else (some false)) else (some false))) = some r := H); have A31 := Aside0.mk A310; clear A310; (replace H := Option.bind_eq_some_iff.mp H); (obtain ⟨⟨t587, t588, t589⟩, A320, H⟩ := H); (replace H : (if t583 = t588 then (if t584 = t589 then ((customsref06_SameSegments.f kj23 t582 t587).bind fun t592 => (if t592 = true then ((customslaw06_awake.f kj23).bind fun t593 => (some t593)) else (some false))) else (some false)) else (some false)) = some r := H); have A32 := Aside0.mk A320; clear A320; (by_cases c33 : t583 = t588)
          · (rw [if_pos c33] at H); (have c33b0 : (t583 == t588) = true := beq_iff_eq.mpr c33); (have c33b1 : (t583 != t588) = false := bne_eq_false_iff_eq.mpr c33); clear c33; (by_cases c34 : t584 = t589)
            · (rw [if_pos c34] at H); (have c34b0 : (t584 == t589) = true := beq_iff_eq.mpr c34); (have c34b1 : (t584 != t589) = false := bne_eq_false_iff_eq.mpr c34); clear c34; (replace H := Option.bind_eq_some_iff.mp H); (obtain ⟨t592, A350, H⟩ := H); (replace H : (if t592 = true then ((customslaw06_awake.f kj23).bind fun t593 => (some t593)) else (some false)) = some r := H); have A35 := Aside0.mk A350; clear A350; (by_cases c36 : t592 = true)
              · subst c36; (have H1 : ((customslaw06_awake.f kj23).bind fun t593 => (some t593)) = some r := by rw [if_pos rfl] at H; exact H); clear H; have H := H1; clear H1; (replace H := Option.bind_eq_some_iff.mp H); (obtain ⟨t593, A370, H⟩ := H); (replace H : (some t593) = some r := H); have A37 := Aside0.mk A370; clear A370; (obtain rfl := Option.some.inj H); (obtain ⟨Ao38, co38, eo38⟩ := Kd.R_slice HO_9.out); subst eo38; (go_wp2_with (first | ((with_reducible refine gate_callee (f := 16) rfl ?_); refine goesL_ (some 71) rfl rfl Try.func16 (by kernel_rfl) rfl #[.slice Ao38 x9_23.length co38] rfl (by (try simp only [List.map_toArray, List.map_cons, List.map_nil]); first | done | rfl | (simp only [List.length_drop, List.length_take]; rfl)) ?_; (with_reducible refine (segment_Decode.calls kj23 _ _ x9_23 t582 t583 t584 _ ?side1 ?side2 A31.out).mono ?_); (case side1 => repeat (first | exact (Kd.R_reads' HO_9.out).2.2 | (with_reducible refine Kd.C_alloc ?_ _) | (with_reducible refine Kd.C_drewN ?_ _) | (with_reducible refine Kd.C_drew ?_))); (case side2 => exact (Kd.R_reads' HO_9.out).2.1); rintro e w39 ⟨v585, rfl, ho0, hb⟩; refine ⟨_, rfl, ?_⟩; have n0_ := Aside0.mk (Kd.R_below HO_9.out hb); have n1_ := Aside0.mk (Kd.R_lower ho0 (below_size HB.out)); have n2_ := Aside0.mk (below_step HB.out hb); clear HO_9; clear HB; have HO_9 := n0_; have HO586 := n1_; have HB := n2_; clear n0_ n1_ n2_; (try clear hb); (try clear hb2); (try clear hk); (try clear hi); (try clear ho0)) | ((with_reducible refine gate_callee (f := 19) rfl ?_); refine goesL_ (some 77) rfl rfl Try.func19 (by kernel_rfl) rfl #[.slice Ao38 x9_23.length co38] rfl (by (try simp only [List.map_toArray, List.map_cons, List.map_nil]); first | done | rfl | (simp only [List.length_drop, List.length_take]; rfl)) ?_; (with_reducible refine (customsref06_Decode.calls kj23 _ _ x9_23 t587 t588 t589 _ ?side1 ?side2 A32.out).mono ?_); (case side1 => repeat (first | exact (Kd.R_reads' HO_9.out).2.2 | (with_reducible refine Kd.C_alloc ?_ _) | (with_reducible refine Kd.C_drewN ?_ _) | (with_reducible refine Kd.C_drew ?_))); (case side2 => exact (Kd.R_reads' HO_9.out).2.1); rintro e w40 ⟨v590, rfl, ho0, hb⟩; refine ⟨_, rfl, ?_⟩; have n0_ := Aside0.mk (Kd.R_below HO_9.out hb); have n1_ := Aside0.mk (Kd.R_elder' HO586.out (Kd.R_base ho0) hb); have n2_ := Aside0.mk (Kd.R_lower (Kd.R_new' ho0 (Kd.R_lt HO586.out)) (below_size HB.out)); have n3_ := Aside0.mk (below_step HB.out hb); clear HO_9; clear HO586; clear HB; have HO_9 := n0_; have HO586 := n1_; have HO591 := n2_; have HB := n3_; clear n0_ n1_ n2_ n3_; (try clear hb); (try clear hb2); (try clear hk); (try clear hi); (try clear ho0); obtain ⟨Ao41, co41, eo41⟩ := Kd.R_slice HO586.out; subst eo41; obtain ⟨Ao42, co42, eo42⟩ := Kd.R_slice HO591.out; subst eo42) | (go_at_call 17; (with_reducible refine (customsref06_SameSegments.calls kj23 _ _ t582 _ _ t587 true _ ?side1 ?side2 ?side3 ?side4 A35.out).mono ?_); (case side1 => repeat (first | exact (Kd.R_reads' HO586.out).2.2 | (with_reducible refine Kd.C_alloc ?_ _) | (with_reducible refine Kd.C_drewN ?_ _) | (with_reducible refine Kd.C_drew ?_))); (case side2 => exact (Kd.R_reads' HO586.out).2.1); (case side3 => repeat (first | exact (Kd.R_reads' HO591.out).2.2 | (with_reducible refine Kd.C_alloc ?_ _) | (with_reducible refine Kd.C_drewN ?_ _) | (with_reducible refine Kd.C_drew ?_))); (case side4 => exact (Kd.R_reads' HO591.out).2.1); rintro e w' ⟨rfl, ⟨nd, rfl⟩⟩) | (go_at_call 11; (with_reducible refine (customslaw06_awake.calls kj23  t593 _ A37.out).mono ?_); rintro e w43 ⟨rfl, hb⟩; have n0_ := Aside0.mk (Kd.R_below (by (with_reducible repeat (first | apply Kd.R_alloc | apply Kd.R_drewN | apply Kd.R_drew)); exact HO_9.out) hb); have n1_ := Aside0.mk (Kd.R_below (by (with_reducible repeat (first | apply Kd.R_alloc | apply Kd.R_drewN | apply Kd.R_drew)); exact HO586.out) hb); have n2_ := Aside0.mk (Kd.R_below (by (with_reducible repeat (first | apply Kd.R_alloc | apply Kd.R_drewN | apply Kd.R_drew)); exact HO591.out) hb); have n3_ := Aside0.mk (below_step (by repeat (first | (with_reducible first | exact HB.out | apply below_alloc | apply pw_below_drewN | apply below_drew1) | exact HB.out)) hb); clear HO_9; clear HO586; clear HO591; clear HB; have HO_9 := n0_; have HO586 := n1_; have HO591 := n2_; have HB := n3_; clear n0_ n1_ n2_ n3_; (try clear hb); (try clear hb2); (try clear hk); (try clear hi)))); go_ret; (exact ⟨by first | rfl | (simp [errW_none, errW_some] <;> rfl) | (simp [*, errW_none, errW_some] <;> rfl), by repeat (first | (with_reducible first | exact HB.out | apply below_alloc | apply pw_below_drewN | apply below_drew1) | exact HB.out)⟩)
              · (replace c36 := Bool.eq_false_iff.mpr c36); subst c36; (have H1 : (some false) = some r := by rw [if_neg (show ¬ (false = true) by decide)] at H; exact H); clear H; have H := H1; clear H1; (exact absurd (H.trans (congrArg some hT_)) (by decide))
            · (rw [if_neg c34] at H); (have c34b0 : (t584 == t589) = false := beq_eq_false_iff_ne.mpr c34); (have c34b1 : (t584 != t589) = true := bne_iff_ne.mpr c34); (exact absurd (H.trans (congrArg some hT_)) (by decide))
          · (rw [if_neg c33] at H); (have c33b0 : (t583 == t588) = false := beq_eq_false_iff_ne.mpr c33); (have c33b1 : (t583 != t588) = true := bne_iff_ne.mpr c33); (exact absurd (H.trans (congrArg some hT_)) (by decide))
def customslaw06_SegmentChanged.Pure : Prop := ∀ (l0 : List Int) (l1 : List Int) (l2 : List Int) (a3 : Int), l0.length ≤ maxLen → l0.length * 8 ≤ 140737488351232 → (∀ x ∈ l0, (Lit.int .i64 x).wf = true) → l1.length ≤ maxLen → l1.length * 8 ≤ 140737488351232 → (∀ x ∈ l1, (Lit.int .i64 x).wf = true) → l2.length ≤ maxLen → l2.length * 1 ≤ 140737488351232 → (∀ x ∈ l2, (Lit.int .u8 x).wf = true) → (Lit.int .i64 a3).wf = true → ∃ k, customslaw06_SegmentChanged.f k l0 l1 l2 a3 = some true
theorem customslaw06_SegmentChanged.walk (P : customslaw06_SegmentChanged.Pure) (a0 : Option Addr) (len0 cap0 : Nat) (z0 : List Int) (a1 : Option Addr) (len1 cap1 : Nat) (z1 : List Int) (a2 : Option Addr) (len2 cap2 : Nat) (z2 : List Int) (a3 : Int) (w : World) (w0 : (a0 = none ∧ len0 = 0 ∧ cap0 = 0 ∧ z0 = []) ∨ ∃ x, a0 = some x ∧ len0 ≤ cap0 ∧ cap0 ≤ maxLen ∧ z0.length = cap0 ∧ (∀ i, i < z0.length → w.cell? (x.add i) = some (.int .i64 (z0.getD i 0))) ∧ ∀ n ∈ z0, (Lit.int .i64 n).wf = true) (y0 : len0 * 8 ≤ 140737488351232) (w1 : (a1 = none ∧ len1 = 0 ∧ cap1 = 0 ∧ z1 = []) ∨ ∃ x, a1 = some x ∧ len1 ≤ cap1 ∧ cap1 ≤ maxLen ∧ z1.length = cap1 ∧ (∀ i, i < z1.length → w.cell? (x.add i) = some (.int .i64 (z1.getD i 0))) ∧ ∀ n ∈ z1, (Lit.int .i64 n).wf = true) (y1 : len1 * 8 ≤ 140737488351232) (w2 : (a2 = none ∧ len2 = 0 ∧ cap2 = 0 ∧ z2 = []) ∨ ∃ x, a2 = some x ∧ len2 ≤ cap2 ∧ cap2 ≤ maxLen ∧ z2.length = cap2 ∧ (∀ i, i < z2.length → w.cell? (x.add i) = some (.int .u8 (z2.getD i 0))) ∧ ∀ n ∈ z2, (Lit.int .u8 n).wf = true) (y2 : len2 * 1 ≤ 140737488351232) (w3 : (Lit.int .i64 a3).wf = true) :
    Calls Try.prog 7 #[.slice a0 len0 cap0, .slice a1 len1 cap1, .slice a2 len2 cap2, .int .i64 a3] w fun e w' => e = .returned (.bool true) ∧ Below w.heap.size w w' := by
  (obtain ⟨l0, rfl, hr0, hm0, hw0, hc0⟩ := ReadsInt.ofRowC w0); (obtain ⟨l1, rfl, hr1, hm1, hw1, hc1⟩ := ReadsInt.ofRowC w1); (obtain ⟨l2, rfl, hr2, hm2, hw2, hc2⟩ := ReadsInt.ofRowC w2); (obtain ⟨k, h⟩ := P l0 l1 l2 a3 hm0 y0 hw0 hm1 y1 hw1 hm2 y2 hw2 w3); (refine (customslaw06_SegmentChanged.calls k _ _ l0 _ _ l1 _ _ l2 a3 true w (Kd.C_of_reads (d := (0 : Int)) (h1 := fun _ => rfl) hr0) hc0 (Kd.C_of_reads (d := (0 : Int)) (h1 := fun _ => rfl) hr1) hc1 (Kd.C_of_reads (d := (0 : Int)) (h1 := fun _ => rfl) hr2) hc2 h rfl).mono ?_); (rintro e w' ⟨rfl, hd⟩); (exact ⟨rfl, hd⟩)
end Go.Proofs.Ythdahpnjiighfaa.F
