-- printed by this session's own copy of a printing program, out of the translation
import Derived.Test.YthdahpnjiighfaaF0
import Derived.Test.YthdahpnjiighfaaF12
import Derived.Test.YthdahpnjiighfaaF13
import Derived.Test.YthdahpnjiighfaaECut
namespace Go.Proofs.Ythdahpnjiighfaa.F
open Go.RowKit Go.Proofs.YthdahpnjiighfaaW.PrintWords Go.Proofs.YthdahpnjiighfaaW.PrintLast Go.Proofs.YthdahpnjiighfaaW.PrintMore
attribute [local go_sem] max2_int min2_int max_two min_two max_three min_three max_four min_four   -- for this text's walks alone
set_option linter.unusedVariables false
set_option linter.unusedSimpArgs false

/-! ### customsmade_Segments: function 12 -/
mutual
def customsmade_Segments.l0 : Nat → List (S24) → List Int → Int → Option ((List (S24)))
  | 0, _, _, _ => none
  | k + 1, x4, x253000, x253001 => (customsmade_Source_Left.f x253000 x253001).bind fun bt253 => (if bt253.1 = true then (customsmade_Segments.j1 k x4 (decide ((x4.length : Int) < 12)) x253000 bt253.2) else (customsmade_Segments.j1 k x4 false x253000 bt253.2))
def customsmade_Segments.j1 : Nat → List (S24) → Bool → List Int → Int → Option ((List (S24)))
  | 0, _, _, _, _ => none
  | k + 1, x4, x20, x253000, x253001 => if x20 = true then ((some (([(⟨#[76, 79, 84]⟩ : ByteArray), (⟨#[71, 68, 83]⟩ : ByteArray), (⟨#[65, 48, 48]⟩ : ByteArray), (⟨#[69, 78, 68]⟩ : ByteArray)] : List ByteArray) : List ByteArray)).bind fun y255 => ((customsmade_Source_Next.f x253000 x253001 4).bind fun bt258 => (if 0 ≤ bt258.1 then (if bt258.1 < (y255.length : Int) then ((customsmade_Source_Next.f x253000 bt258.2 4).bind fun bt262 => (customsmade_Segments.l1 k x4 bt262.1 x253000 bt262.2 (rdOf ByteArray.empty y255 bt258.1) ([] : List (List ByteArray)))) else (none)) else (none)))) else (some x4)
def customsmade_Segments.l1 : Nat → List (S24) → Int → List Int → Int → ByteArray → List (List ByteArray) → Option ((List (S24)))
  | 0, _, _, _, _, _, _ => none
  | k + 1, x4, x6, x253000, x253001, x262000, x262001 => if x6 > 0 then ((customsmade_Source_Next.f x253000 x253001 4).bind fun bt267 => (customsmade_Segments.l2 k x4 x6 ([] : List ByteArray) bt267.1 x253000 bt267.2 x262000 x262001)) else (if x4.length < 3518437208883 then (customsmade_Segments.l0 k (x4 ++ [(⟨x262000, x262001⟩ : S24)]) x253000 x253001) else (none))
def customsmade_Segments.l2 : Nat → List (S24) → Int → List ByteArray → Int → List Int → Int → ByteArray → List (List ByteArray) → Option ((List (S24)))
  | 0, _, _, _, _, _, _, _, _ => none
  | k + 1, x4, x6, x7, x8, x253000, x253001, x262000, x262001 => if x8 > 0 then ((customsmade_Source_text.f k x253000 x253001).bind fun bt269 => (if x7.length < 8796093022208 then (customsmade_Segments.l2 k x4 x6 (x7 ++ [bt269.1]) (wrap64 (x8 - 1)) x253000 bt269.2 x262000 x262001) else (none))) else (if x6 = 1 then (customsmade_Segments.j4 k x4 x6 x7 ((x7.length : Int) == 0) x253000 x253001 x262000 x262001) else (customsmade_Segments.j4 k x4 x6 x7 false x253000 x253001 x262000 x262001))
def customsmade_Segments.j4 : Nat → List (S24) → Int → List ByteArray → Bool → List Int → Int → ByteArray → List (List ByteArray) → Option ((List (S24)))
  | 0, _, _, _, _, _, _, _, _ => none
  | k + 1, x4, x6, x7, x50, x253000, x253001, x262000, x262001 => if x50 = true then ((some (([(⟨#[120]⟩ : ByteArray)] : List ByteArray) : List ByteArray)).bind fun y274 => (if (y274.length : Int) > 0 then (if 0 ≤ (wrap64 ((y274.length : Int) - 1)) then (if (wrap64 ((y274.length : Int) - 1)) < (y274.length : Int) then (if (rdOf ByteArray.empty y274 (wrap64 ((y274.length : Int) - 1))).toList = ([] : List UInt8) then (if x262001.length < 5864062014805 then (customsmade_Segments.l1 k x4 (wrap64 (x6 - 1)) x253000 x253001 x262000 (x262001 ++ [(y274.set ((wrap64 ((y274.length : Int) - 1)) : Int).toNat (⟨#[121]⟩ : ByteArray))])) else (none)) else (if x262001.length < 5864062014805 then (customsmade_Segments.l1 k x4 (wrap64 (x6 - 1)) x253000 x253001 x262000 (x262001 ++ [y274])) else (none))) else (none)) else (none)) else (if x262001.length < 5864062014805 then (customsmade_Segments.l1 k x4 (wrap64 (x6 - 1)) x253000 x253001 x262000 (x262001 ++ [y274])) else (none)))) else (if (x7.length : Int) > 0 then (if 0 ≤ (wrap64 ((x7.length : Int) - 1)) then (if (wrap64 ((x7.length : Int) - 1)) < (x7.length : Int) then (if (rdOf ByteArray.empty x7 (wrap64 ((x7.length : Int) - 1))).toList = ([] : List UInt8) then (if x262001.length < 5864062014805 then (customsmade_Segments.l1 k x4 (wrap64 (x6 - 1)) x253000 x253001 x262000 (x262001 ++ [(x7.set ((wrap64 ((x7.length : Int) - 1)) : Int).toNat (⟨#[121]⟩ : ByteArray))])) else (none)) else (if x262001.length < 5864062014805 then (customsmade_Segments.l1 k x4 (wrap64 (x6 - 1)) x253000 x253001 x262000 (x262001 ++ [x7])) else (none))) else (none)) else (none)) else (if x262001.length < 5864062014805 then (customsmade_Segments.l1 k x4 (wrap64 (x6 - 1)) x253000 x253001 x262000 (x262001 ++ [x7])) else (none)))
end
def customsmade_Segments.f (k : Nat) (l0 : List Int) : Option ((List (S24))) := customsmade_Segments.l0 k ([] : List (S24)) (l0.take 200) 0
theorem customsmade_Segments.mono_l : ∀ k, (∀ y0 y1 y2, LeO (customsmade_Segments.l0 k y0 y1 y2) (customsmade_Segments.l0 (k + 1) y0 y1 y2)) ∧ (∀ y0 y1 y2 y3, LeO (customsmade_Segments.j1 k y0 y1 y2 y3) (customsmade_Segments.j1 (k + 1) y0 y1 y2 y3)) ∧ (∀ y0 y1 y2 y3 y4 y5, LeO (customsmade_Segments.l1 k y0 y1 y2 y3 y4 y5) (customsmade_Segments.l1 (k + 1) y0 y1 y2 y3 y4 y5)) ∧ (∀ y0 y1 y2 y3 y4 y5 y6 y7, LeO (customsmade_Segments.l2 k y0 y1 y2 y3 y4 y5 y6 y7) (customsmade_Segments.l2 (k + 1) y0 y1 y2 y3 y4 y5 y6 y7)) ∧ (∀ y0 y1 y2 y3 y4 y5 y6 y7, LeO (customsmade_Segments.j4 k y0 y1 y2 y3 y4 y5 y6 y7) (customsmade_Segments.j4 (k + 1) y0 y1 y2 y3 y4 y5 y6 y7))
  | 0 => ⟨fun _ _ _ r h => by simp [customsmade_Segments.l0] at h, fun _ _ _ _ r h => by simp [customsmade_Segments.j1] at h, fun _ _ _ _ _ _ r h => by simp [customsmade_Segments.l1] at h, fun _ _ _ _ _ _ _ _ r h => by simp [customsmade_Segments.l2] at h, fun _ _ _ _ _ _ _ _ r h => by simp [customsmade_Segments.j4] at h⟩
  | k + 1 => by
    obtain ⟨ih0, ih1, ih2, ih3, ih4⟩ := customsmade_Segments.mono_l k
    refine ⟨?_, ?_, ?_, ?_, ?_⟩
    · intro y0 y1 y2
      unfold customsmade_Segments.l0
      repeat' first
      | (with_reducible exact ih0 _ _ _)
      | (with_reducible exact ih1 _ _ _ _)
      | (with_reducible exact ih2 _ _ _ _ _ _)
      | (with_reducible exact ih3 _ _ _ _ _ _ _ _)
      | (with_reducible exact ih4 _ _ _ _ _ _ _ _)
      | (with_reducible exact customsmade_Source_text.mono _ _ _)
      | (with_reducible exact LeO.refl _)
      | (with_reducible exact LeO.none _)
      | (with_reducible refine LeO.ite ?_ ?_)
      | (with_reducible refine LeO.bind ?_ (fun _ => ?_))
      | exact ih0 _ _ _
      | exact ih1 _ _ _ _
      | exact ih2 _ _ _ _ _ _
      | exact ih3 _ _ _ _ _ _ _ _
      | exact ih4 _ _ _ _ _ _ _ _
      | exact customsmade_Source_text.mono _ _ _
      | exact LeO.none _
      | refine LeO.ite ?_ ?_
      | refine LeO.bind ?_ (fun _ => ?_)
    · intro y0 y1 y2 y3
      unfold customsmade_Segments.j1
      repeat' first
      | (with_reducible exact ih0 _ _ _)
      | (with_reducible exact ih1 _ _ _ _)
      | (with_reducible exact ih2 _ _ _ _ _ _)
      | (with_reducible exact ih3 _ _ _ _ _ _ _ _)
      | (with_reducible exact ih4 _ _ _ _ _ _ _ _)
      | (with_reducible exact customsmade_Source_text.mono _ _ _)
      | (with_reducible exact LeO.refl _)
      | (with_reducible exact LeO.none _)
      | (with_reducible refine LeO.ite ?_ ?_)
      | (with_reducible refine LeO.bind ?_ (fun _ => ?_))
      | exact ih0 _ _ _
      | exact ih1 _ _ _ _
      | exact ih2 _ _ _ _ _ _
      | exact ih3 _ _ _ _ _ _ _ _
      | exact ih4 _ _ _ _ _ _ _ _
      | exact customsmade_Source_text.mono _ _ _
      | exact LeO.none _
      | refine LeO.ite ?_ ?_
      | refine LeO.bind ?_ (fun _ => ?_)
    · intro y0 y1 y2 y3 y4 y5
      unfold customsmade_Segments.l1
      repeat' first
      | (with_reducible exact ih0 _ _ _)
      | (with_reducible exact ih1 _ _ _ _)
      | (with_reducible exact ih2 _ _ _ _ _ _)
      | (with_reducible exact ih3 _ _ _ _ _ _ _ _)
      | (with_reducible exact ih4 _ _ _ _ _ _ _ _)
      | (with_reducible exact customsmade_Source_text.mono _ _ _)
      | (with_reducible exact LeO.refl _)
      | (with_reducible exact LeO.none _)
      | (with_reducible refine LeO.ite ?_ ?_)
      | (with_reducible refine LeO.bind ?_ (fun _ => ?_))
      | exact ih0 _ _ _
      | exact ih1 _ _ _ _
      | exact ih2 _ _ _ _ _ _
      | exact ih3 _ _ _ _ _ _ _ _
      | exact ih4 _ _ _ _ _ _ _ _
      | exact customsmade_Source_text.mono _ _ _
      | exact LeO.none _
      | refine LeO.ite ?_ ?_
      | refine LeO.bind ?_ (fun _ => ?_)
    · intro y0 y1 y2 y3 y4 y5 y6 y7
      unfold customsmade_Segments.l2
      repeat' first
      | (with_reducible exact ih0 _ _ _)
      | (with_reducible exact ih1 _ _ _ _)
      | (with_reducible exact ih2 _ _ _ _ _ _)
      | (with_reducible exact ih3 _ _ _ _ _ _ _ _)
      | (with_reducible exact ih4 _ _ _ _ _ _ _ _)
      | (with_reducible exact customsmade_Source_text.mono _ _ _)
      | (with_reducible exact LeO.refl _)
      | (with_reducible exact LeO.none _)
      | (with_reducible refine LeO.ite ?_ ?_)
      | (with_reducible refine LeO.bind ?_ (fun _ => ?_))
      | exact ih0 _ _ _
      | exact ih1 _ _ _ _
      | exact ih2 _ _ _ _ _ _
      | exact ih3 _ _ _ _ _ _ _ _
      | exact ih4 _ _ _ _ _ _ _ _
      | exact customsmade_Source_text.mono _ _ _
      | exact LeO.none _
      | refine LeO.ite ?_ ?_
      | refine LeO.bind ?_ (fun _ => ?_)
    · intro y0 y1 y2 y3 y4 y5 y6 y7
      unfold customsmade_Segments.j4
      repeat' first
      | (with_reducible exact ih0 _ _ _)
      | (with_reducible exact ih1 _ _ _ _)
      | (with_reducible exact ih2 _ _ _ _ _ _)
      | (with_reducible exact ih3 _ _ _ _ _ _ _ _)
      | (with_reducible exact ih4 _ _ _ _ _ _ _ _)
      | (with_reducible exact customsmade_Source_text.mono _ _ _)
      | (with_reducible exact LeO.refl _)
      | (with_reducible exact LeO.none _)
      | (with_reducible refine LeO.ite ?_ ?_)
      | (with_reducible refine LeO.bind ?_ (fun _ => ?_))
      | exact ih0 _ _ _
      | exact ih1 _ _ _ _
      | exact ih2 _ _ _ _ _ _
      | exact ih3 _ _ _ _ _ _ _ _
      | exact ih4 _ _ _ _ _ _ _ _
      | exact customsmade_Source_text.mono _ _ _
      | exact LeO.none _
      | refine LeO.ite ?_ ?_
      | refine LeO.bind ?_ (fun _ => ?_)
theorem customsmade_Segments.mono : ∀ a0 k, LeO (customsmade_Segments.f k a0) (customsmade_Segments.f (k + 1) a0) := by
  intro a0 k
  obtain ⟨ih0, ih1, ih2, ih3, ih4⟩ := customsmade_Segments.mono_l k
  unfold customsmade_Segments.f
  repeat' first
      | (with_reducible exact ih0 _ _ _)
      | (with_reducible exact ih1 _ _ _ _)
      | (with_reducible exact ih2 _ _ _ _ _ _)
      | (with_reducible exact ih3 _ _ _ _ _ _ _ _)
      | (with_reducible exact ih4 _ _ _ _ _ _ _ _)
      | (with_reducible exact customsmade_Source_text.mono _ _ _)
      | (with_reducible exact LeO.refl _)
      | (with_reducible exact LeO.none _)
      | (with_reducible refine LeO.ite ?_ ?_)
      | (with_reducible refine LeO.bind ?_ (fun _ => ?_))
      | exact ih0 _ _ _
      | exact ih1 _ _ _ _
      | exact ih2 _ _ _ _ _ _
      | exact ih3 _ _ _ _ _ _ _ _
      | exact ih4 _ _ _ _ _ _ _ _
      | exact customsmade_Source_text.mono _ _ _
      | exact LeO.none _
      | refine LeO.ite ?_ ?_
      | refine LeO.bind ?_ (fun _ => ?_)
set_option maxHeartbeats 8000000 in
set_option maxRecDepth 100000 in
theorem customsmade_Segments.calls (k : Nat) (A0 : Option Addr) (c0 : Nat) (l0 : List Int) (r : List (S24)) (w : World) (hr0 : Kd.C (Kd.int .i64) w A0 l0.length l0) (hc0 : l0.length ≤ c0) (h : customsmade_Segments.f k l0 = some r) :
    Calls Try.prog 12 #[.slice A0 l0.length c0] w fun e w' => ∃ v0_ : Value, e = .returned (v0_) ∧ Kd.R k24 24 w' w.heap.size (fun _ => True) v0_ r ∧ Below w.heap.size w w' := by
  have hu52 := Try.underlying52
  have hu24 := Try.underlying24
  have HR0 := Aside0.mk hr0
  have HC0 := Aside0.mk hc0
  clear hr0 hc0
  have HB := Aside0.mk (Below.refl w.heap.size w)
  have H : (customsmade_Segments.l0 k ([] : List (S24)) (l0.take 200) 0) = some r := h
  clear h
  have H' := Aside0.mk H
  clear H
  have HR251 := Aside0.mk (cut_C 200 HR0.out)
  have HC251 := Aside0.mk (cut_cap 200 HC0.out)
  go_enter Try.func12, Try.ntmps12
  go_wp2_with (first | ((with_reducible refine gate_callee (f := 23) rfl ?_); refine goesL_ (some 11) rfl rfl Try.func23 (by kernel_rfl) rfl #[.slice A0 l0.length c0, .int .i64 200] rfl (by (try simp only [List.map_toArray, List.map_cons, List.map_nil]); first | done | rfl) ?_; (with_reducible refine (customsmade_Cut.cut A0 c0 l0 200 200 rfl _ HC0.out).mono ?_); rintro e w' ⟨rfl, ⟨nd, rfl⟩⟩; refine ⟨_, rfl, ?_⟩) | ((with_reducible refine gate_dst (N := 13) rfl ?_); (try (refine gate_guard (by rfl) ?_; dsimp only)); refine box_event ?hg (N := 13) ?hd (cs := #[.slice A0 (l0.take 200).length c0, .int .i64 0]) (t := 52) ?hr ?_; (case hd => rfl); (case hg => rfl); (case hr => first | (go_simp; done) | (go_simp; rfl)); intro gb252 hg w2 hbox hb; have n0_ := Aside0.mk (below_step (by repeat (first | (with_reducible first | exact HB.out | apply below_alloc | apply pw_below_drewN | apply below_drew1) | exact HB.out)) hb); have n1_ := Aside0.mk (hbox); have n2_ := Aside0.mk ((by rw [hg]; exact (below_size (by repeat (first | (with_reducible first | exact HB.out | apply below_alloc | apply pw_below_drewN | apply below_drew1) | exact HB.out))) : w.heap.size ≤ gb252)); have n3_ := Aside0.mk ((by rw [hg]; exact (below_size (by repeat (first | (with_reducible first | exact HB.out | apply below_alloc | apply pw_below_drewN | apply below_drew1) | exact HB.out))) : w.heap.size ≤ gb252)); clear HB; have HB := n0_; have BK252 := n1_; have GW252 := n2_; have GE252 := n3_; clear n0_ n1_ n2_ n3_; clear hb hbox hg))
  go_loopg [4] k (fun kq v4 w' => ∃ (x4_1 : List (S24)) (x253001_1 : Int), Aside0 (customsmade_Segments.l0 kq x4_1 (l0.take 200) x253001_1 = some r) ∧ Aside0 (kq ≤ k) ∧ Aside0 (Kd.R k24 24 w' w.heap.size (fun _ => True) v4 x4_1) ∧ Aside0 (IsS52 w w' gb252 (l0.take 200) x253001_1) ∧ Aside0 (Below w.heap.size w w'))
  case atStart => exact ⟨(([] : List (S24))), (0), H', ⟨Nat.le_refl _⟩, ⟨by first | exact Kd.R_nil _ _ _ _ _ | exact Kd.N_nil _ _ _ _ _ | exact Kd.V_nil _ _ _ _ _ | exact Kd.Q_nil _ _ _ _ _ | exact Kd.S_nil _ _ _ _ _⟩, ⟨by unfold IsS52; exact ⟨A0, c0, (by (with_reducible repeat (first | refine blk_drewN ?_ _ | refine blk_drew ?_ | refine blk_alloc ?_ _)); exact BK252.out), GE252.out, HR251.out⟩⟩, ⟨by repeat (first | (with_reducible first | exact HB.out | apply below_alloc | apply pw_below_drewN | apply below_drew1 | refine below_set ?_ GE252.out) | exact HB.out)⟩⟩
  case round =>
    clear H'
    try clear c1
    try clear c2
    try clear p2
    obtain ⟨x4_1, x253001_1, HA, HK1, HO_4, HI252, HB⟩ := hrel
    cases gk with
    | zero => exact absurd HA.out (by simp [customsmade_Segments.l0])
    | succ k1 =>
      have H := HA.out
      clear HA
      simp only [customsmade_Segments.l0] at H
      have HC3 := Aside0.mk H
      clear H
      go_upto_region 3 with (fail)
      go_cut [20] (fun v20 wc => ∃ (kq : Nat) (x20_2 : Bool) (x253001_2 : Int), v20 = .bool x20_2 ∧ Aside0 (customsmade_Segments.j1 kq x4_1 x20_2 (l0.take 200) x253001_2 = some r) ∧ Aside0 (kq ≤ k1) ∧ Aside0 (Kd.R k24 24 wc w.heap.size (fun _ => True) u4 x4_1) ∧ Aside0 (IsS52 w wc gb252 (l0.take 200) x253001_2) ∧ Aside0 (Below w.heap.size w wc))
      case first =>
        have H := HC3.out
        clear HC3
        replace H := Option.bind_eq_some_iff.mp H
        obtain ⟨⟨t253, t254⟩, A40, H⟩ := H
        replace H : (if t253 = true then (customsmade_Segments.j1 k1 x4_1 (decide ((x4_1.length : Int) < 12)) (l0.take 200) t254) else (customsmade_Segments.j1 k1 x4_1 false (l0.take 200) t254)) = some r := H
        have A4 := Aside0.mk A40
        clear A40
        by_cases c5 : t253 = true
        · subst c5
          have H1 : (customsmade_Segments.j1 k1 x4_1 (decide ((x4_1.length : Int) < 12)) (l0.take 200) t254) = some r := by rw [if_pos rfl] at H; exact H
          clear H
          have H := H1
          clear H1
          have H' := Aside0.mk H
          clear H
          go_wp2_with (first | ((with_reducible refine gate_callee (f := 24) rfl ?_); refine goesL_ (some 15) rfl rfl Try.func24 (by kernel_rfl) rfl #[.pointer (some ⟨gb252, 0, none⟩)] rfl (by (try simp only [List.map_toArray, List.map_cons, List.map_nil]); first | done | rfl | (simp only [List.length_drop, List.length_take]; rfl)) ?_; (with_reducible refine (customsmade_Source_Left.calls gb252 (l0.take 200) x253001_1 true t254 w _ ?side1 ?side2 A4.out).mono ?_); (case side1 => repeat (first | (with_reducible first | exact HI252.out | apply IsS52.alloc | apply IsS52.drewN | apply IsS52.drew | apply IsS52.set_1) | exact HI252.out)); (case side2 => repeat (first | (with_reducible first | exact HB.out | apply below_alloc | apply pw_below_drewN | apply below_drew1 | refine below_set ?_ (IsS52.ge HI252.out)) | exact HB.out)); rintro e w6 ⟨rfl, hi, hb, hk⟩; refine ⟨_, rfl, ?_⟩; have n0_ := Aside0.mk (Kd.R_mono (Kd.R_keep (IsS52.apart (show IsS52 w _ gb252 (l0.take 200) x253001_1 from by repeat (first | (with_reducible first | exact HI252.out | apply IsS52.alloc | apply IsS52.drewN | apply IsS52.drew | apply IsS52.set_1) | exact HI252.out)) (by (with_reducible repeat (first | apply Kd.R_alloc | apply Kd.R_drewN | apply Kd.R_drew)); exact HO_4.out) (by decide)) hk (fun _ h => h.2)) (fun _ h => h.1)); have n1_ := Aside0.mk (hb); have n2_ := Aside0.mk (hi); clear HO_4; clear HB; clear HI252; have HO_4 := n0_; have HB := n1_; have HI252 := n2_; clear n0_ n1_ n2_; (try clear hb); (try clear hb2); (try clear hk); (try clear hi); obtain ⟨Ao7, co7, eo7⟩ := Kd.R_slice HO_4.out; subst eo7))
          go_meet
          case rel => exact ⟨_, (decide ((x4_1.length : Int) < 12)), (t254), (by first | rfl | (simp; done) | (simp [*]; done)), H', ⟨by have := HK1.out; first | omega | exact Nat.le_refl _⟩, ⟨by (with_reducible repeat (first | apply Kd.R_alloc | apply Kd.R_drewN | apply Kd.R_drew)); exact HO_4.out⟩, ⟨by repeat (first | (with_reducible first | exact HI252.out | apply IsS52.alloc | apply IsS52.drewN | apply IsS52.drew | apply IsS52.set_1) | exact HI252.out)⟩, ⟨by repeat (first | (with_reducible first | exact HB.out | apply below_alloc | apply pw_below_drewN | apply below_drew1 | refine below_set ?_ (IsS52.ge HI252.out)) | exact HB.out)⟩⟩
        · replace c5 := Bool.eq_false_iff.mpr c5
          subst c5
          have H1 : (customsmade_Segments.j1 k1 x4_1 false (l0.take 200) t254) = some r := by rw [if_neg (show ¬ (false = true) by decide)] at H; exact H
          clear H
          have H := H1
          clear H1
          have H' := Aside0.mk H
          clear H
          go_wp2_with (first | ((with_reducible refine gate_callee (f := 24) rfl ?_); refine goesL_ (some 15) rfl rfl Try.func24 (by kernel_rfl) rfl #[.pointer (some ⟨gb252, 0, none⟩)] rfl (by (try simp only [List.map_toArray, List.map_cons, List.map_nil]); first | done | rfl | (simp only [List.length_drop, List.length_take]; rfl)) ?_; (with_reducible refine (customsmade_Source_Left.calls gb252 (l0.take 200) x253001_1 false t254 w _ ?side1 ?side2 A4.out).mono ?_); (case side1 => repeat (first | (with_reducible first | exact HI252.out | apply IsS52.alloc | apply IsS52.drewN | apply IsS52.drew | apply IsS52.set_1) | exact HI252.out)); (case side2 => repeat (first | (with_reducible first | exact HB.out | apply below_alloc | apply pw_below_drewN | apply below_drew1 | refine below_set ?_ (IsS52.ge HI252.out)) | exact HB.out)); rintro e w8 ⟨rfl, hi, hb, hk⟩; refine ⟨_, rfl, ?_⟩; have n0_ := Aside0.mk (Kd.R_mono (Kd.R_keep (IsS52.apart (show IsS52 w _ gb252 (l0.take 200) x253001_1 from by repeat (first | (with_reducible first | exact HI252.out | apply IsS52.alloc | apply IsS52.drewN | apply IsS52.drew | apply IsS52.set_1) | exact HI252.out)) (by (with_reducible repeat (first | apply Kd.R_alloc | apply Kd.R_drewN | apply Kd.R_drew)); exact HO_4.out) (by decide)) hk (fun _ h => h.2)) (fun _ h => h.1)); have n1_ := Aside0.mk (hb); have n2_ := Aside0.mk (hi); clear HO_4; clear HB; clear HI252; have HO_4 := n0_; have HB := n1_; have HI252 := n2_; clear n0_ n1_ n2_; (try clear hb); (try clear hb2); (try clear hk); (try clear hi)))
          go_meet
          case rel => exact ⟨_, (false), (t254), (by first | rfl | (simp; done) | (simp [*]; done)), H', ⟨by have := HK1.out; first | omega | exact Nat.le_refl _⟩, ⟨by (with_reducible repeat (first | apply Kd.R_alloc | apply Kd.R_drewN | apply Kd.R_drew)); exact HO_4.out⟩, ⟨by repeat (first | (with_reducible first | exact HI252.out | apply IsS52.alloc | apply IsS52.drewN | apply IsS52.drew | apply IsS52.set_1) | exact HI252.out)⟩, ⟨by repeat (first | (with_reducible first | exact HB.out | apply below_alloc | apply pw_below_drewN | apply below_drew1 | refine below_set ?_ (IsS52.ge HI252.out)) | exact HB.out)⟩⟩
      case rest =>
        clear HC3
        try clear c1
        try clear c2
        try clear p2
        try clear c5
        try clear p2
        obtain ⟨kq, x20_2, x253001_2, rfl, HA, HJ2, HO_4, HI252, HB⟩ := hcut
        cases kq with
        | zero => exact absurd HA.out (by simp [customsmade_Segments.j1])
        | succ kj2 =>
          have H := HA.out
          clear HA
          simp only [customsmade_Segments.j1] at H
          by_cases c9 : x20_2 = true
          · subst c9
            have H1 : ((some (([(⟨#[76, 79, 84]⟩ : ByteArray), (⟨#[71, 68, 83]⟩ : ByteArray), (⟨#[65, 48, 48]⟩ : ByteArray), (⟨#[69, 78, 68]⟩ : ByteArray)] : List ByteArray) : List ByteArray)).bind fun y255 => ((customsmade_Source_Next.f (l0.take 200) x253001_2 4).bind fun bt258 => (if 0 ≤ bt258.1 then (if bt258.1 < (y255.length : Int) then ((customsmade_Source_Next.f (l0.take 200) bt258.2 4).bind fun bt262 => (customsmade_Segments.l1 kj2 x4_1 bt262.1 (l0.take 200) bt262.2 (rdOf ByteArray.empty y255 bt258.1) ([] : List (List ByteArray)))) else (none)) else (none)))) = some r := by rw [if_pos rfl] at H; exact H
            clear H
            have H := H1
            clear H1
            obtain ⟨y255, hy255⟩ : ∃ y_ : List ByteArray, y_ = (([(⟨#[76, 79, 84]⟩ : ByteArray), (⟨#[71, 68, 83]⟩ : ByteArray), (⟨#[65, 48, 48]⟩ : ByteArray), (⟨#[69, 78, 68]⟩ : ByteArray)] : List ByteArray)) := ⟨_, rfl⟩
            replace H : ((customsmade_Source_Next.f (l0.take 200) x253001_2 4).bind fun bt258 => (if 0 ≤ bt258.1 then (if bt258.1 < (y255.length : Int) then ((customsmade_Source_Next.f (l0.take 200) bt258.2 4).bind fun bt262 => (customsmade_Segments.l1 kj2 x4_1 bt262.1 (l0.take 200) bt262.2 (rdOf ByteArray.empty y255 bt258.1) ([] : List (List ByteArray)))) else (none)) else (none))) = some r := by first | (rw [hy255]; with_reducible exact H) | (have H2_ := (Option.bind_some _ _).symm.trans H; rw [hy255]; with_reducible exact H2_) | (have H2_ := (Option.bind_some _ _).symm.trans H; with_reducible exact H2_) | with_reducible exact H | (rw [hy255]; exact H) | exact H
            have Ny255 := Aside0.mk hy255
            clear hy255
            replace H := Option.bind_eq_some_iff.mp H
            obtain ⟨⟨t258, t259⟩, A100, H⟩ := H
            replace H : (if 0 ≤ t258 then (if t258 < (y255.length : Int) then ((customsmade_Source_Next.f (l0.take 200) t259 4).bind fun bt262 => (customsmade_Segments.l1 kj2 x4_1 bt262.1 (l0.take 200) bt262.2 (rdOf ByteArray.empty y255 t258) ([] : List (List ByteArray)))) else (none)) else (none)) = some r := H
            have A10 := Aside0.mk A100
            clear A100
            by_cases c11 : 0 ≤ t258
            · rw [if_pos c11] at H
              have c11b0 : decide (0 ≤ t258) = true := decide_eq_true c11
              clear c11
              by_cases c12 : t258 < (y255.length : Int)
              · rw [if_pos c12] at H
                have c12b0 : decide (t258 < (y255.length : Int)) = true := decide_eq_true c12
                clear c12
                replace H := Option.bind_eq_some_iff.mp H
                obtain ⟨⟨t262, t263⟩, A130, H⟩ := H
                replace H : (customsmade_Segments.l1 kj2 x4_1 t262 (l0.take 200) t263 (rdOf ByteArray.empty y255 t258) ([] : List (List ByteArray))) = some r := H
                have A13 := Aside0.mk A130
                clear A130
                have H' := Aside0.mk H
                clear H
                go_wp2_with (first | ((with_reducible refine gate_dst (N := 21) rfl ?_); (try (refine gate_guard (by rfl) ?_; dsimp only)); refine Kd.R_lit Kd.string _ 9 ?hg (N := 21) ?hd (xs := ([(⟨#[76, 79, 84]⟩ : ByteArray), (⟨#[71, 68, 83]⟩ : ByteArray), (⟨#[65, 48, 48]⟩ : ByteArray), (⟨#[69, 78, 68]⟩ : ByteArray)] : List ByteArray)) (inner := [.string (⟨#[76, 79, 84]⟩ : ByteArray), .string (⟨#[71, 68, 83]⟩ : ByteArray), .string (⟨#[65, 48, 48]⟩ : ByteArray), .string (⟨#[69, 78, 68]⟩ : ByteArray)]) (ok := fun _ => True) (okp := fun _ => True) ?hr ?hp (fun _ hk => hk) trivial (Below.refl _ _) (Nat.le_refl _) (by simp) ?_; (case hd => rfl); (case hg => rfl); (case hr => first | (go_simp; done) | (go_simp; rfl)); (case hp => exact (Reps.one (show Kd.M Kd.string _ _ _ (⟨#[76, 79, 84]⟩ : ByteArray) [.string (⟨#[76, 79, 84]⟩ : ByteArray)] from rfl) (Reps.one (show Kd.M Kd.string _ _ _ (⟨#[71, 68, 83]⟩ : ByteArray) [.string (⟨#[71, 68, 83]⟩ : ByteArray)] from rfl) (Reps.one (show Kd.M Kd.string _ _ _ (⟨#[65, 48, 48]⟩ : ByteArray) [.string (⟨#[65, 48, 48]⟩ : ByteArray)] from rfl) (Reps.one (show Kd.M Kd.string _ _ _ (⟨#[69, 78, 68]⟩ : ByteArray) [.string (⟨#[69, 78, 68]⟩ : ByteArray)] from rfl) (Reps.none _ _)))))); intro v256 w14 ho15 hb hg_ hnew_; clear hg_ hnew_; (first | rw [← Ny255.out] at ho15 | (simp only [Int.reduceToNat] at ho15; rw [← Ny255.out] at ho15)); have n0_ := Aside0.mk (Kd.R_elder' (by (with_reducible repeat (first | apply Kd.R_alloc | apply Kd.R_drewN | apply Kd.R_drew)); exact HO_4.out) (Kd.R_base ho15) hb); have n1_ := Aside0.mk (Kd.R_lower ho15 (below_size (by repeat (first | (with_reducible first | exact HB.out | apply below_alloc | apply pw_below_drewN | apply below_drew1 | refine below_set ?_ (IsS52.ge HI252.out)) | exact HB.out)))); have n2_ := Aside0.mk (IsS52.below (by repeat (first | (with_reducible first | exact HI252.out | apply IsS52.alloc | apply IsS52.drewN | apply IsS52.drew | apply IsS52.set_1) | exact HI252.out)) hb); have n3_ := Aside0.mk (below_step (by repeat (first | (with_reducible first | exact HB.out | apply below_alloc | apply pw_below_drewN | apply below_drew1 | refine below_set ?_ (IsS52.ge HI252.out)) | exact HB.out)) hb); clear HO_4; clear HI252; clear HB; have HO_4 := n0_; have HO257 := n1_; have HI252 := n2_; have HB := n3_; clear n0_ n1_ n2_ n3_; clear hb ho15) | ((with_reducible refine gate_callee (f := 25) rfl ?_); refine goesL_ (some 23) rfl rfl Try.func25 (by kernel_rfl) rfl #[.pointer (some ⟨gb252, 0, none⟩), .int .i64 4] rfl (by (try simp only [List.map_toArray, List.map_cons, List.map_nil]); first | done | rfl | (simp only [List.length_drop, List.length_take]; rfl)) ?_; (with_reducible refine (customsmade_Source_Next.calls gb252 (l0.take 200) x253001_2 4 t258 t259 w _ ?side1 ?side2 A10.out).mono ?_); (case side1 => repeat (first | (with_reducible first | exact HI252.out | apply IsS52.alloc | apply IsS52.drewN | apply IsS52.drew | apply IsS52.set_1) | exact HI252.out)); (case side2 => repeat (first | (with_reducible first | exact HB.out | apply below_alloc | apply pw_below_drewN | apply below_drew1 | refine below_set ?_ (IsS52.ge HI252.out)) | exact HB.out)); rintro e w16 ⟨rfl, hi, hb, hk⟩; refine ⟨_, rfl, ?_⟩; have n0_ := Aside0.mk (Kd.R_mono (Kd.R_keep (IsS52.apart (show IsS52 w _ gb252 (l0.take 200) x253001_2 from by repeat (first | (with_reducible first | exact HI252.out | apply IsS52.alloc | apply IsS52.drewN | apply IsS52.drew | apply IsS52.set_1) | exact HI252.out)) (by (with_reducible repeat (first | apply Kd.R_alloc | apply Kd.R_drewN | apply Kd.R_drew)); exact HO_4.out) (by decide)) hk (fun _ h => h.2)) (fun _ h => h.1)); have n1_ := Aside0.mk (Kd.R_mono (Kd.R_keep (IsS52.apart (show IsS52 w _ gb252 (l0.take 200) x253001_2 from by repeat (first | (with_reducible first | exact HI252.out | apply IsS52.alloc | apply IsS52.drewN | apply IsS52.drew | apply IsS52.set_1) | exact HI252.out)) (by (with_reducible repeat (first | apply Kd.R_alloc | apply Kd.R_drewN | apply Kd.R_drew)); exact HO257.out) (by decide)) hk (fun _ h => h.2)) (fun _ h => h.1)); have n2_ := Aside0.mk (hb); have n3_ := Aside0.mk (hi); clear HO_4; clear HO257; clear HB; clear HI252; have HO_4 := n0_; have HO257 := n1_; have HB := n2_; have HI252 := n3_; clear n0_ n1_ n2_ n3_; (try clear hb); (try clear hb2); (try clear hk); (try clear hi); obtain ⟨Ao17, co17, eo17⟩ := Kd.R_slice HO257.out; subst eo17; have p260 : 0 ≤ (t258 : Int) := of_decide_eq_true (by first | (with_reducible assumption) | assumption); have q260 : t258 < (y255.length : Int) := of_decide_eq_true (by first | (with_reducible assumption) | assumption); obtain ⟨ad260, e260, hx260_0⟩ := Kd.at_string (Kd.R_reads' HO257.out).2.2 t258 p260 q260; cases e260; replace p260 := eq_true p260; replace q260 := eq_true q260) | ((with_reducible refine gate_dst (N := 5) rfl ?_); (try (refine gate_guard (by rfl) ?_; dsimp only)); refine box_event ?hg (N := 5) ?hd (cs := #[.string (⟨#[]⟩ : ByteArray), .slice none 0 0]) (t := 24) ?hr ?_; (case hd => rfl); (case hg => rfl); (case hr => first | (go_simp; done) | (go_simp; rfl)); intro gb261 hg w18 hbox hb; have n0_ := Aside0.mk (Kd.R_below (Kd.R_elderB (by (with_reducible repeat (first | apply Kd.R_alloc | apply Kd.R_drewN | apply Kd.R_drew)); exact HO_4.out) gb261 (Nat.le_of_eq hg.symm)) hb); have n1_ := Aside0.mk (Kd.R_below (by (with_reducible repeat (first | apply Kd.R_alloc | apply Kd.R_drewN | apply Kd.R_drew)); exact HO257.out) hb); have n2_ := Aside0.mk (IsS52.below (by repeat (first | (with_reducible first | exact HI252.out | apply IsS52.alloc | apply IsS52.drewN | apply IsS52.drew | apply IsS52.set_1) | exact HI252.out)) hb); have n3_ := Aside0.mk (below_step (by repeat (first | (with_reducible first | exact HB.out | apply below_alloc | apply pw_below_drewN | apply below_drew1 | refine below_set ?_ (IsS52.ge HI252.out)) | exact HB.out)) hb); have n4_ := Aside0.mk (hbox); have n5_ := Aside0.mk ((by rw [hg]; exact (below_size (by repeat (first | (with_reducible first | exact HB.out | apply below_alloc | apply pw_below_drewN | apply below_drew1 | refine below_set ?_ (IsS52.ge HI252.out)) | exact HB.out))) : w.heap.size ≤ gb261)); have n6_ := Aside0.mk ((by rw [hg]; exact (below_size (by repeat (first | (with_reducible first | exact HB.out | apply below_alloc | apply pw_below_drewN | apply below_drew1 | refine below_set ?_ (IsS52.ge HI252.out)) | exact HB.out))) : w.heap.size ≤ gb261)); have n7_ := Aside0.mk ((by rw [hg]; exact Nat.ne_of_lt (IsS52.lt (show IsS52 w _ gb252 (l0.take 200) t259 from by repeat (first | (with_reducible first | exact HI252.out | apply IsS52.alloc | apply IsS52.drewN | apply IsS52.drew | apply IsS52.set_1) | exact HI252.out))) : gb252 ≠ gb261)); have n8_ := Aside0.mk ((by rw [hg]; exact Nat.ne_of_gt (IsS52.lt (show IsS52 w _ gb252 (l0.take 200) t259 from by repeat (first | (with_reducible first | exact HI252.out | apply IsS52.alloc | apply IsS52.drewN | apply IsS52.drew | apply IsS52.set_1) | exact HI252.out))) : gb261 ≠ gb252)); clear HO_4; clear HO257; clear HI252; clear HB; have HO_4 := n0_; have HO257 := n1_; have HI252 := n2_; have HB := n3_; have BK261 := n4_; have GW261 := n5_; have GE261 := n6_; have NB252_261 := n7_; have NB261_252 := n8_; clear n0_ n1_ n2_ n3_ n4_ n5_ n6_ n7_ n8_; clear hb hbox hg; have hnb19 := NB261_252.out; have hnc19 := NB252_261.out; have hcz20_0 : w18.cell? ⟨gb261, 0, none⟩ = some (.string (⟨#[]⟩ : ByteArray)) := (blk_cell BK261.out 0).trans rfl; have hcz20_1 : w18.cell? ⟨gb261, 1, none⟩ = some (.slice none 0 0) := (blk_cell BK261.out 1).trans rfl; have hfz20_0 := blk_frozen BK261.out 0; have hfz20_1 := blk_frozen BK261.out 1) | ((with_reducible refine gate_callee (f := 25) rfl ?_); refine goesL_ (some 28) rfl rfl Try.func25 (by kernel_rfl) rfl #[.pointer (some ⟨gb252, 0, none⟩), .int .i64 4] rfl (by (try simp only [List.map_toArray, List.map_cons, List.map_nil]); first | done | rfl | (simp only [List.length_drop, List.length_take]; rfl)) ?_; (with_reducible refine (customsmade_Source_Next.calls gb252 (l0.take 200) t259 4 t262 t263 w _ ?side1 ?side2 A13.out).mono ?_); (case side1 => repeat (first | (with_reducible first | exact HI252.out | apply IsS52.alloc | apply IsS52.drewN | apply IsS52.drew | apply IsS52.set_1 | refine IsS52.far ?_ NB252_261.out _) | exact HI252.out)); (case side2 => repeat (first | (with_reducible first | exact HB.out | apply below_alloc | apply pw_below_drewN | apply below_drew1 | refine below_set ?_ (IsS52.ge HI252.out) | refine below_set ?_ GE261.out) | exact HB.out)); rintro e w21 ⟨rfl, hi, hb, hk⟩; refine ⟨_, rfl, ?_⟩; have n0_ := Aside0.mk (Kd.R_mono (Kd.R_keep (IsS52.apart (show IsS52 w _ gb252 (l0.take 200) t259 from by repeat (first | (with_reducible first | exact HI252.out | apply IsS52.alloc | apply IsS52.drewN | apply IsS52.drew | apply IsS52.set_1 | refine IsS52.far ?_ NB252_261.out _) | exact HI252.out)) (by (with_reducible repeat (first | apply Kd.R_alloc | apply Kd.R_drewN | apply Kd.R_drew)); exact (Kd.R_mono (Kd.R_far (p := ⟨gb261, 1, none⟩) (Kd.R_far (p := ⟨gb261, 0, none⟩) (Kd.R_mono HO_4.out (fun k_ hk => (⟨hk, hk.2⟩ : _ ∧ k_ ≠ gb261))) (fun _ hk => hk.2) (.string (rdOf ByteArray.empty y255 t258))) (fun _ hk => hk.2) (.slice none 0 0)) (fun _ h_ => h_.1))) (by decide)) hk (fun _ h => h.2)) (fun _ h => h.1)); have n1_ := Aside0.mk (Kd.R_mono (Kd.R_keep (IsS52.apart (show IsS52 w _ gb252 (l0.take 200) t259 from by repeat (first | (with_reducible first | exact HI252.out | apply IsS52.alloc | apply IsS52.drewN | apply IsS52.drew | apply IsS52.set_1 | refine IsS52.far ?_ NB252_261.out _) | exact HI252.out)) (by (with_reducible repeat (first | apply Kd.R_alloc | apply Kd.R_drewN | apply Kd.R_drew)); exact (Kd.R_mono (Kd.R_far (p := ⟨gb261, 1, none⟩) (Kd.R_far (p := ⟨gb261, 0, none⟩) (Kd.R_types HO257.out BK261.out (by decide)) (fun _ hk => hk.2) (.string (rdOf ByteArray.empty y255 t258))) (fun _ hk => hk.2) (.slice none 0 0)) (fun _ h_ => h_.1))) (by decide)) hk (fun _ h => h.2)) (fun _ h => h.1)); have n2_ := Aside0.mk (KeepBut.blk hk (g' := gb261) (o := .cells #[.string (rdOf ByteArray.empty y255 t258), .slice none 0 0] 24 (0, 0)) (by (with_reducible repeat (first | refine blk_drewN ?_ _ | refine blk_drew ?_ | refine blk_alloc ?_ _)); refine blk_put (cs := #[.string (rdOf ByteArray.empty y255 t258), .slice none 0 0]) ?_ 1 _ rfl; (with_reducible repeat (first | refine blk_drewN ?_ _ | refine blk_drew ?_ | refine blk_alloc ?_ _)); refine blk_put (cs := #[.string (⟨#[]⟩ : ByteArray), .slice none 0 0]) ?_ 0 _ rfl; (with_reducible repeat (first | refine blk_drewN ?_ _ | refine blk_drew ?_ | refine blk_alloc ?_ _)); exact BK261.out) NB261_252.out (by simp)); have n3_ := Aside0.mk (hb); have n4_ := Aside0.mk (hi); clear HO_4; clear HO257; clear BK261; clear HB; clear HI252; have HO_4 := n0_; have HO257 := n1_; have BK261 := n2_; have HB := n3_; have HI252 := n4_; clear n0_ n1_ n2_ n3_ n4_; (try clear hb); (try clear hb2); (try clear hk); (try clear hi)))
                go_loopg [6] kj2 (fun kq v6 w' => ∃ (x6_3 : Int) (x253001_3 : Int) (x262001_3 : List (List ByteArray)) (u262001 : Value), v6 = .int .i64 x6_3 ∧ Aside0 (customsmade_Segments.l1 kq x4_1 x6_3 (l0.take 200) x253001_3 (rdOf ByteArray.empty y255 t258) x262001_3 = some r) ∧ Aside0 (kq ≤ kj2) ∧ Aside0 (Kd.R k24 24 w' w.heap.size (fun k_ => some k_ ≠ (u262001 : Value).ownBlock ∧ k_ ≠ gb261) u4 x4_1) ∧ Aside0 (Kd.S (Kd.slice 9 Kd.string) 48 w' w.heap.size (fun _ => True) u262001 x262001_3) ∧ Aside0 (w'.heap[gb261]? = some (.cells #[.string (rdOf ByteArray.empty y255 t258), u262001] 24 (0, 0))) ∧ Aside0 (IsS52 w w' gb252 (l0.take 200) x253001_3) ∧ Aside0 (Below w.heap.size w w'))
                case atStart => exact ⟨(t262), (t263), (([] : List (List ByteArray))), (.slice none 0 0), (by first | rfl | (simp; done) | (simp [*]; done)), H', ⟨Nat.le_refl _⟩, ⟨by (with_reducible repeat (first | apply Kd.R_alloc | apply Kd.R_drewN | apply Kd.R_drew)); exact Kd.R_mono HO_4.out (fun _ hk => ⟨(by simp [Value.ownBlock]), hk.2⟩)⟩, ⟨by first | exact Kd.S_nil _ _ _ _ _ | exact Kd.N_nil _ _ _ _ _ | exact Kd.V_nil _ _ _ _ _ | exact Kd.Q_nil _ _ _ _ _ | exact Kd.R_nil _ _ _ _ _⟩, ⟨by (with_reducible repeat (first | refine blk_drewN ?_ _ | refine blk_drew ?_ | refine blk_alloc ?_ _)); exact BK261.out⟩, ⟨by repeat (first | (with_reducible first | exact HI252.out | apply IsS52.alloc | apply IsS52.drewN | apply IsS52.drew | apply IsS52.set_1 | refine IsS52.far ?_ NB252_261.out _) | exact HI252.out)⟩, ⟨by repeat (first | (with_reducible first | exact HB.out | apply below_alloc | apply pw_below_drewN | apply below_drew1 | refine below_set ?_ (IsS52.ge HI252.out) | refine below_set ?_ GE261.out) | exact HB.out)⟩⟩
                case round =>
                  clear H'
                  try clear c1
                  try clear c2
                  try clear p2
                  try clear q2
                  try clear hx2
                  try clear c5
                  try clear c9
                  try clear c11
                  try clear c11b0
                  try clear c12
                  try clear c12b0
                  try clear c19
                  try clear hcz20_0
                  try clear hcz20_1
                  try clear hfz20_0
                  try clear hfz20_1
                  try clear hx260_0
                  try clear p2
                  try clear p260
                  try clear q260
                  obtain ⟨x6_3, x253001_3, x262001_3, u262001, rfl, HA, HK3, HO_4, HO_262001, BK261, HI252, HB⟩ := hrel
                  cases gk with
                  | zero => exact absurd HA.out (by simp [customsmade_Segments.l1])
                  | succ k3 =>
                    have H := HA.out
                    clear HA
                    simp only [customsmade_Segments.l1] at H
                    by_cases c22 : x6_3 > 0
                    · rw [if_pos c22] at H
                      have c22b0 : decide (0 < x6_3) = true := decide_eq_true c22
                      clear c22
                      replace H := Option.bind_eq_some_iff.mp H
                      obtain ⟨⟨t267, t268⟩, A230, H⟩ := H
                      replace H : (customsmade_Segments.l2 k3 x4_1 x6_3 ([] : List ByteArray) t267 (l0.take 200) t268 (rdOf ByteArray.empty y255 t258) x262001_3) = some r := H
                      have A23 := Aside0.mk A230
                      clear A230
                      have H' := Aside0.mk H
                      clear H
                      go_wp2_with (first | ((with_reducible refine gate_callee (f := 25) rfl ?_); refine goesL_ (some 34) rfl rfl Try.func25 (by kernel_rfl) rfl #[.pointer (some ⟨gb252, 0, none⟩), .int .i64 4] rfl (by (try simp only [List.map_toArray, List.map_cons, List.map_nil]); first | done | rfl | (simp only [List.length_drop, List.length_take]; rfl)) ?_; (with_reducible refine (customsmade_Source_Next.calls gb252 (l0.take 200) x253001_3 4 t267 t268 w _ ?side1 ?side2 A23.out).mono ?_); (case side1 => repeat (first | (with_reducible first | exact HI252.out | apply IsS52.alloc | apply IsS52.drewN | apply IsS52.drew | apply IsS52.set_1 | refine IsS52.far ?_ NB252_261.out _) | exact HI252.out)); (case side2 => repeat (first | (with_reducible first | exact HB.out | apply below_alloc | apply pw_below_drewN | apply below_drew1 | refine below_set ?_ (IsS52.ge HI252.out) | refine below_set ?_ GE261.out) | exact HB.out)); rintro e w24 ⟨rfl, hi, hb, hk⟩; refine ⟨_, rfl, ?_⟩; have n0_ := Aside0.mk (Kd.R_mono (Kd.R_keep (IsS52.apart (show IsS52 w _ gb252 (l0.take 200) x253001_3 from by repeat (first | (with_reducible first | exact HI252.out | apply IsS52.alloc | apply IsS52.drewN | apply IsS52.drew | apply IsS52.set_1 | refine IsS52.far ?_ NB252_261.out _) | exact HI252.out)) (by (with_reducible repeat (first | apply Kd.R_alloc | apply Kd.R_drewN | apply Kd.R_drew)); exact HO_4.out) (by decide)) hk (fun _ h => h.2)) (fun _ h => h.1)); have n1_ := Aside0.mk (Kd.S_mono (Kd.S_keep (IsS52.apartS (show IsS52 w _ gb252 (l0.take 200) x253001_3 from by repeat (first | (with_reducible first | exact HI252.out | apply IsS52.alloc | apply IsS52.drewN | apply IsS52.drew | apply IsS52.set_1 | refine IsS52.far ?_ NB252_261.out _) | exact HI252.out)) (by (with_reducible repeat (first | apply Kd.S_alloc | apply Kd.S_drewN | apply Kd.S_drew)); exact HO_262001.out) (by decide)) hk (fun _ h => h.2)) (fun _ h => h.1)); have n2_ := Aside0.mk (KeepBut.blk hk (g' := gb261) (o := .cells #[.string (rdOf ByteArray.empty y255 t258), u262001] 24 (0, 0)) (by (with_reducible repeat (first | refine blk_drewN ?_ _ | refine blk_drew ?_ | refine blk_alloc ?_ _)); exact BK261.out) NB261_252.out (by simp)); have n3_ := Aside0.mk (hb); have n4_ := Aside0.mk (hi); clear HO_4; clear HO_262001; clear BK261; clear HB; clear HI252; have HO_4 := n0_; have HO_262001 := n1_; have BK261 := n2_; have HB := n3_; have HI252 := n4_; clear n0_ n1_ n2_ n3_ n4_; (try clear hb); (try clear hb2); (try clear hk); (try clear hi)))
                      go_loopg [7, 8] k3 (fun kq v7 v8 w' => ∃ (x7_4 : List ByteArray) (x8_4 : Int) (x253001_4 : Int), v8 = .int .i64 x8_4 ∧ Aside0 (customsmade_Segments.l2 kq x4_1 x6_3 x7_4 x8_4 (l0.take 200) x253001_4 (rdOf ByteArray.empty y255 t258) x262001_3 = some r) ∧ Aside0 (kq ≤ k3) ∧ Aside0 (Kd.R k24 24 w' w.heap.size (fun k_ => some k_ ≠ (v7 : Value).ownBlock ∧ some k_ ≠ (u262001 : Value).ownBlock ∧ k_ ≠ gb261) u4 x4_1) ∧ Aside0 (Kd.R Kd.string 9 w' w.heap.size (fun _ => True) v7 x7_4) ∧ Aside0 (Kd.S (Kd.slice 9 Kd.string) 48 w' w.heap.size (fun k_ => some k_ ≠ (v7 : Value).ownBlock) u262001 x262001_3) ∧ Aside0 (w'.heap[gb261]? = some (.cells #[.string (rdOf ByteArray.empty y255 t258), u262001] 24 (0, 0))) ∧ Aside0 (IsS52 w w' gb252 (l0.take 200) x253001_4) ∧ Aside0 (Below w.heap.size w w'))
                      case atStart => exact ⟨(([] : List ByteArray)), (t267), (t268), (by first | rfl | (simp; done) | (simp [*]; done)), H', ⟨Nat.le_refl _⟩, ⟨by (with_reducible repeat (first | apply Kd.R_alloc | apply Kd.R_drewN | apply Kd.R_drew)); exact Kd.R_mono HO_4.out (fun _ hk => ⟨(by simp [Value.ownBlock]), ⟨hk.1, hk.2⟩⟩)⟩, ⟨by first | exact Kd.R_nil _ _ _ _ _ | exact Kd.N_nil _ _ _ _ _ | exact Kd.V_nil _ _ _ _ _ | exact Kd.Q_nil _ _ _ _ _ | exact Kd.S_nil _ _ _ _ _⟩, ⟨by (with_reducible repeat (first | apply Kd.S_alloc | apply Kd.S_drewN | apply Kd.S_drew)); exact Kd.S_mono HO_262001.out (fun _ hk => (by simp [Value.ownBlock]))⟩, ⟨by (with_reducible repeat (first | refine blk_drewN ?_ _ | refine blk_drew ?_ | refine blk_alloc ?_ _)); exact BK261.out⟩, ⟨by repeat (first | (with_reducible first | exact HI252.out | apply IsS52.alloc | apply IsS52.drewN | apply IsS52.drew | apply IsS52.set_1 | refine IsS52.far ?_ NB252_261.out _) | exact HI252.out)⟩, ⟨by repeat (first | (with_reducible first | exact HB.out | apply below_alloc | apply pw_below_drewN | apply below_drew1 | refine below_set ?_ (IsS52.ge HI252.out) | refine below_set ?_ GE261.out) | exact HB.out)⟩⟩
                      case round =>
                        clear H'
                        try clear c1
                        try clear c2
                        try clear p2
                        try clear q2
                        try clear hx2
                        try clear c5
                        try clear c9
                        try clear c11
                        try clear c11b0
                        try clear c12
                        try clear c12b0
                        try clear c19
                        try clear c22
                        try clear c22b0
                        try clear c23
                        try clear c24
                        try clear hcz20_0
                        try clear hcz20_1
                        try clear hfz20_0
                        try clear hfz20_1
                        try clear hx260_0
                        try clear p2
                        try clear p260
                        try clear q2
                        try clear q260
                        obtain ⟨x7_4, x8_4, x253001_4, rfl, HA, HK4, HO_4, HO_7, HO_262001, BK261, HI252, HB⟩ := hrel
                        cases gk with
                        | zero => exact absurd HA.out (by simp [customsmade_Segments.l2])
                        | succ k4 =>
                          have H := HA.out
                          clear HA
                          simp only [customsmade_Segments.l2] at H
                          by_cases c25 : x8_4 > 0
                          · rw [if_pos c25] at H
                            have c25b0 : decide (0 < x8_4) = true := decide_eq_true c25
                            clear c25
                            replace H := Option.bind_eq_some_iff.mp H
                            obtain ⟨⟨t269, t270⟩, A260, H⟩ := H
                            replace H : (if x7_4.length < 8796093022208 then (customsmade_Segments.l2 k4 x4_1 x6_3 (x7_4 ++ [t269]) (wrap64 (x8_4 - 1)) (l0.take 200) t270 (rdOf ByteArray.empty y255 t258) x262001_3) else (none)) = some r := H
                            have A26 := Aside0.mk A260
                            clear A260
                            by_cases c27 : x7_4.length < 8796093022208
                            · rw [if_pos c27] at H
                              have LMc27 := Aside0.mk c27
                              clear c27
                              obtain ⟨y271, hy271⟩ : ∃ y_ : List ByteArray, y_ = (x7_4 ++ [t269]) := ⟨_, rfl⟩
                              replace H : (customsmade_Segments.l2 k4 x4_1 x6_3 y271 (wrap64 (x8_4 - 1)) (l0.take 200) t270 (rdOf ByteArray.empty y255 t258) x262001_3) = some r := by first | (rw [hy271]; with_reducible exact H) | (have H2_ := (Option.bind_some _ _).symm.trans H; rw [hy271]; with_reducible exact H2_) | (have H2_ := (Option.bind_some _ _).symm.trans H; with_reducible exact H2_) | with_reducible exact H | (rw [hy271]; exact H) | exact H
                              have Ny271 := Aside0.mk hy271
                              clear hy271
                              have H' := Aside0.mk H
                              clear H
                              go_wp2_with (first | ((with_reducible refine gate_callee (f := 26) rfl ?_); refine goesL_ (some 41) rfl rfl Try.func26 (by kernel_rfl) rfl #[.pointer (some ⟨gb252, 0, none⟩)] rfl (by (try simp only [List.map_toArray, List.map_cons, List.map_nil]); first | done | rfl | (simp only [List.length_drop, List.length_take]; rfl)) ?_; (with_reducible refine (customsmade_Source_text.calls k4 gb252 (l0.take 200) x253001_4 t269 t270 w _ ?side1 ?side2 A26.out).mono ?_); (case side1 => repeat (first | (with_reducible first | exact HI252.out | apply IsS52.alloc | apply IsS52.drewN | apply IsS52.drew | apply IsS52.set_1 | refine IsS52.far ?_ NB252_261.out _) | exact HI252.out)); (case side2 => repeat (first | (with_reducible first | exact HB.out | apply below_alloc | apply pw_below_drewN | apply below_drew1 | refine below_set ?_ (IsS52.ge HI252.out) | refine below_set ?_ GE261.out) | exact HB.out)); rintro e w28 ⟨rfl, hi, hb, hk⟩; refine ⟨_, rfl, ?_⟩; have n0_ := Aside0.mk (Kd.R_mono (Kd.R_keep (IsS52.apart (show IsS52 w _ gb252 (l0.take 200) x253001_4 from by repeat (first | (with_reducible first | exact HI252.out | apply IsS52.alloc | apply IsS52.drewN | apply IsS52.drew | apply IsS52.set_1 | refine IsS52.far ?_ NB252_261.out _) | exact HI252.out)) (by (with_reducible repeat (first | apply Kd.R_alloc | apply Kd.R_drewN | apply Kd.R_drew)); exact HO_4.out) (by decide)) hk (fun _ h => h.2)) (fun _ h => h.1)); have n1_ := Aside0.mk (Kd.R_mono (Kd.R_keep (IsS52.apart (show IsS52 w _ gb252 (l0.take 200) x253001_4 from by repeat (first | (with_reducible first | exact HI252.out | apply IsS52.alloc | apply IsS52.drewN | apply IsS52.drew | apply IsS52.set_1 | refine IsS52.far ?_ NB252_261.out _) | exact HI252.out)) (by (with_reducible repeat (first | apply Kd.R_alloc | apply Kd.R_drewN | apply Kd.R_drew)); exact HO_7.out) (by decide)) hk (fun _ h => h.2)) (fun _ h => h.1)); have n2_ := Aside0.mk (Kd.S_mono (Kd.S_keep (IsS52.apartS (show IsS52 w _ gb252 (l0.take 200) x253001_4 from by repeat (first | (with_reducible first | exact HI252.out | apply IsS52.alloc | apply IsS52.drewN | apply IsS52.drew | apply IsS52.set_1 | refine IsS52.far ?_ NB252_261.out _) | exact HI252.out)) (by (with_reducible repeat (first | apply Kd.S_alloc | apply Kd.S_drewN | apply Kd.S_drew)); exact HO_262001.out) (by decide)) hk (fun _ h => h.2)) (fun _ h => h.1)); have n3_ := Aside0.mk (KeepBut.blk hk (g' := gb261) (o := .cells #[.string (rdOf ByteArray.empty y255 t258), u262001] 24 (0, 0)) (by (with_reducible repeat (first | refine blk_drewN ?_ _ | refine blk_drew ?_ | refine blk_alloc ?_ _)); exact BK261.out) NB261_252.out (by simp)); have n4_ := Aside0.mk (hb); have n5_ := Aside0.mk (hi); clear HO_4; clear HO_7; clear HO_262001; clear BK261; clear HB; clear HI252; have HO_4 := n0_; have HO_7 := n1_; have HO_262001 := n2_; have BK261 := n3_; have HB := n4_; have HI252 := n5_; clear n0_ n1_ n2_ n3_ n4_ n5_; (try clear hb); (try clear hb2); (try clear hk); (try clear hi)) | ((with_reducible refine gate_builtin (b := .append) (xs := #[.tmp 39, .tmp 42]) rfl ?_); (try (refine gate_guard (by rfl) ?_; dsimp only)); at_builtin; refine Kd.R_append Kd.string (w0 := w) w.heap.size rfl (.tmp 39) (.tmp 42) 48 9 (.string ⟨#[]⟩) 16 rfl Try.underlying48 info9 rfl (by decide) (by omega) u7 x7_4 t269 [.string t269] (fun _ => True) (fun _ => False) rfl rfl ?aP (fun _ hk => hk.elim) ?aF ?aO ?aB ?aS ?aL ?_; (case aP => exact rfl); (case aB => exact (by repeat (first | (with_reducible first | exact HB.out | apply below_alloc | apply pw_below_drewN | apply below_drew1 | refine below_set ?_ (IsS52.ge HI252.out) | refine below_set ?_ GE261.out) | exact HB.out))); (case aF => exact (fun _ _ => trivial)); (case aO => exact (by (with_reducible repeat (first | apply Kd.R_alloc | apply Kd.R_drewN | apply Kd.R_drew)); exact HO_7.out)); (case aS => exact (below_size (by repeat (first | (with_reducible first | exact HB.out | apply below_alloc | apply pw_below_drewN | apply below_drew1 | refine below_set ?_ (IsS52.ge HI252.out) | refine below_set ?_ GE261.out) | exact HB.out)))); (case aL => have := LMc27.out; omega); intro v272 w29 ho hb hg hat; rw [← Ny271.out] at ho; have n0_ := Aside0.mk (Kd.R_after (ok := (fun k_ => some k_ ≠ (u262001 : Value).ownBlock ∧ k_ ≠ gb261)) (by (with_reducible repeat (first | apply Kd.R_alloc | apply Kd.R_drewN | apply Kd.R_drew)); exact Kd.R_mono HO_4.out (fun _ hk => ⟨⟨hk.2.1, hk.2.2⟩, hk.1⟩)) hg hat); have n1_ := Aside0.mk (Kd.S_after (ok := (fun _ => True)) (by (with_reducible repeat (first | apply Kd.S_alloc | apply Kd.S_drewN | apply Kd.S_drew)); exact Kd.S_mono HO_262001.out (fun _ hk => ⟨trivial, hk⟩)) hg hat); have n2_ := Aside0.mk (blk_grown (g := gb261) (o := .cells #[.string (rdOf ByteArray.empty y255 t258), u262001] 24 (0, 0)) (by (with_reducible repeat (first | refine blk_drewN ?_ _ | refine blk_drew ?_ | refine blk_alloc ?_ _)); exact BK261.out) hg (Kd.R_ne HO_7.out BK261.out (by decide))); have n3_ := Aside0.mk (IsS52.grown (by repeat (first | (with_reducible first | exact HI252.out | apply IsS52.alloc | apply IsS52.drewN | apply IsS52.drew | apply IsS52.set_1 | refine IsS52.far ?_ NB252_261.out _) | exact HI252.out)) hg (IsS52.own_ne HI252.out HO_7.out (by decide))); have n4_ := Aside0.mk (hb); have n5_ := Aside0.mk (ho); clear HO_4; clear HO_262001; clear BK261; clear HI252; clear HB; clear HO_7; have HO_4 := n0_; have HO_262001 := n1_; have BK261 := n2_; have HI252 := n3_; have HB := n4_; have HO273 := n5_; clear n0_ n1_ n2_ n3_ n4_ n5_; clear ho hb hg hat))
                              go_roundg k4
                              case measure => have := HK1.out; have := HJ2.out; have := HK3.out; have := HK4.out; omega
                              case rel => exact ⟨(y271), (wrap64 (x8_4 - 1)), (t270), (by first | rfl | (simp; done) | (simp [*]; done)), H', ⟨by have := HK1.out; have := HJ2.out; have := HK3.out; have := HK4.out; omega⟩, ⟨by (with_reducible repeat (first | apply Kd.R_alloc | apply Kd.R_drewN | apply Kd.R_drew)); exact Kd.R_mono HO_4.out (fun _ hk => ⟨hk.2, ⟨hk.1.1, hk.1.2⟩⟩)⟩, ⟨by (with_reducible repeat (first | apply Kd.R_alloc | apply Kd.R_drewN | apply Kd.R_drew)); exact HO273.out⟩, ⟨by (with_reducible repeat (first | apply Kd.S_alloc | apply Kd.S_drewN | apply Kd.S_drew)); exact Kd.S_mono HO_262001.out (fun _ hk => hk.2)⟩, ⟨by (with_reducible repeat (first | refine blk_drewN ?_ _ | refine blk_drew ?_ | refine blk_alloc ?_ _)); exact BK261.out⟩, ⟨by repeat (first | (with_reducible first | exact HI252.out | apply IsS52.alloc | apply IsS52.drewN | apply IsS52.drew | apply IsS52.set_1 | refine IsS52.far ?_ NB252_261.out _) | exact HI252.out)⟩, ⟨by repeat (first | (with_reducible first | exact HB.out | apply below_alloc | apply pw_below_drewN | apply below_drew1 | refine below_set ?_ (IsS52.ge HI252.out) | refine below_set ?_ GE261.out) | exact HB.out)⟩⟩
                            · rw [if_neg c27] at H
                              exact absurd H (by simp)
                          · rw [if_neg c25] at H
                            have c25b0 : decide (0 < x8_4) = false := decide_eq_false c25
                            clear c25
                            have HC30 := Aside0.mk H
                            clear H
                            go_upto_region 13 with (fail)
                            go_cut [50] (fun v50 wc => ∃ (kq : Nat) (x50_29 : Bool), v50 = .bool x50_29 ∧ Aside0 (customsmade_Segments.j4 kq x4_1 x6_3 x7_4 x50_29 (l0.take 200) x253001_4 (rdOf ByteArray.empty y255 t258) x262001_3 = some r) ∧ Aside0 (kq ≤ k4) ∧ Aside0 (Kd.R k24 24 wc w.heap.size (fun k_ => some k_ ≠ (u7 : Value).ownBlock ∧ some k_ ≠ (u262001 : Value).ownBlock ∧ k_ ≠ gb261) u4 x4_1) ∧ Aside0 (Kd.R Kd.string 9 wc w.heap.size (fun _ => True) u7 x7_4) ∧ Aside0 (Kd.S (Kd.slice 9 Kd.string) 48 wc w.heap.size (fun k_ => some k_ ≠ (u7 : Value).ownBlock) u262001 x262001_3) ∧ Aside0 (wc.heap[gb261]? = some (.cells #[.string (rdOf ByteArray.empty y255 t258), u262001] 24 (0, 0))) ∧ Aside0 (IsS52 w wc gb252 (l0.take 200) x253001_4) ∧ Aside0 (Below w.heap.size w wc))
                            case first =>
                              have H := HC30.out
                              clear HC30
                              by_cases c31 : x6_3 = 1
                              · rw [if_pos c31] at H
                                have c31b0 : (x6_3 == 1) = true := beq_iff_eq.mpr c31
                                have c31b1 : (x6_3 != 1) = false := bne_eq_false_iff_eq.mpr c31
                                clear c31
                                (first | rw [c31b0] | (simp only [i64_w, i32_w]; rw [c31b0]) | skip)
                                have H' := Aside0.mk H
                                clear H
                                obtain ⟨Ao32, co32, eo32⟩ := Kd.R_slice HO_7.out
                                subst eo32
                                go_wp2
                                go_meet
                                case rel => exact ⟨_, (((x7_4.length : Int) == 0)), (by first | rfl | (simp; done) | (simp [*]; done)), H', ⟨by have := HK1.out; have := HJ2.out; have := HK3.out; have := HK4.out; first | omega | exact Nat.le_refl _⟩, ⟨by (with_reducible repeat (first | apply Kd.R_alloc | apply Kd.R_drewN | apply Kd.R_drew)); exact HO_4.out⟩, ⟨by (with_reducible repeat (first | apply Kd.R_alloc | apply Kd.R_drewN | apply Kd.R_drew)); exact HO_7.out⟩, ⟨by (with_reducible repeat (first | apply Kd.S_alloc | apply Kd.S_drewN | apply Kd.S_drew)); exact HO_262001.out⟩, ⟨by (with_reducible repeat (first | refine blk_drewN ?_ _ | refine blk_drew ?_ | refine blk_alloc ?_ _)); exact BK261.out⟩, ⟨by repeat (first | (with_reducible first | exact HI252.out | apply IsS52.alloc | apply IsS52.drewN | apply IsS52.drew | apply IsS52.set_1 | refine IsS52.far ?_ NB252_261.out _) | exact HI252.out)⟩, ⟨by repeat (first | (with_reducible first | exact HB.out | apply below_alloc | apply pw_below_drewN | apply below_drew1 | refine below_set ?_ (IsS52.ge HI252.out) | refine below_set ?_ GE261.out) | exact HB.out)⟩⟩
                              · rw [if_neg c31] at H
                                have c31b0 : (x6_3 == 1) = false := beq_eq_false_iff_ne.mpr c31
                                have c31b1 : (x6_3 != 1) = true := bne_iff_ne.mpr c31
                                (first | rw [c31b0] | (simp only [i64_w, i32_w]; rw [c31b0]) | skip)
                                have H' := Aside0.mk H
                                clear H
                                go_wp2
                                go_meet
                                case rel => exact ⟨_, (false), (by first | rfl | (simp; done) | (simp [*]; done)), H', ⟨by have := HK1.out; have := HJ2.out; have := HK3.out; have := HK4.out; first | omega | exact Nat.le_refl _⟩, ⟨by (with_reducible repeat (first | apply Kd.R_alloc | apply Kd.R_drewN | apply Kd.R_drew)); exact HO_4.out⟩, ⟨by (with_reducible repeat (first | apply Kd.R_alloc | apply Kd.R_drewN | apply Kd.R_drew)); exact HO_7.out⟩, ⟨by (with_reducible repeat (first | apply Kd.S_alloc | apply Kd.S_drewN | apply Kd.S_drew)); exact HO_262001.out⟩, ⟨by (with_reducible repeat (first | refine blk_drewN ?_ _ | refine blk_drew ?_ | refine blk_alloc ?_ _)); exact BK261.out⟩, ⟨by repeat (first | (with_reducible first | exact HI252.out | apply IsS52.alloc | apply IsS52.drewN | apply IsS52.drew | apply IsS52.set_1 | refine IsS52.far ?_ NB252_261.out _) | exact HI252.out)⟩, ⟨by repeat (first | (with_reducible first | exact HB.out | apply below_alloc | apply pw_below_drewN | apply below_drew1 | refine below_set ?_ (IsS52.ge HI252.out) | refine below_set ?_ GE261.out) | exact HB.out)⟩⟩
                            case rest =>
                              clear HC30
                              try clear c1
                              try clear c2
                              try clear p2
                              try clear q2
                              try clear hx2
                              try clear c3
                              try clear c5
                              try clear p6
                              try clear c9
                              try clear c11
                              try clear c11b0
                              try clear c12
                              try clear c12b0
                              try clear c19
                              try clear c22
                              try clear c22b0
                              try clear c23
                              try clear c24
                              try clear c25
                              try clear c25b0
                              try clear c26
                              try clear p26
                              try clear q26
                              try clear hx26
                              try clear c27
                              try clear c31
                              try clear c31b0
                              try clear c31b1
                              try clear hcz20_0
                              try clear hcz20_1
                              try clear hfz20_0
                              try clear hfz20_1
                              try clear hx260_0
                              try clear p2
                              try clear p260
                              try clear q2
                              try clear q260
                              obtain ⟨kq, x50_29, rfl, HA, HJ29, HO_4, HO_7, HO_262001, BK261, HI252, HB⟩ := hcut
                              cases kq with
                              | zero => exact absurd HA.out (by simp [customsmade_Segments.j4])
                              | succ kj29 =>
                                have H := HA.out
                                clear HA
                                simp only [customsmade_Segments.j4] at H
                                by_cases c33 : x50_29 = true
                                · subst c33
                                  have H1 : ((some (([(⟨#[120]⟩ : ByteArray)] : List ByteArray) : List ByteArray)).bind fun y274 => (if (y274.length : Int) > 0 then (if 0 ≤ (wrap64 ((y274.length : Int) - 1)) then (if (wrap64 ((y274.length : Int) - 1)) < (y274.length : Int) then (if (rdOf ByteArray.empty y274 (wrap64 ((y274.length : Int) - 1))).toList = ([] : List UInt8) then (if x262001_3.length < 5864062014805 then (customsmade_Segments.l1 kj29 x4_1 (wrap64 (x6_3 - 1)) (l0.take 200) x253001_4 (rdOf ByteArray.empty y255 t258) (x262001_3 ++ [(y274.set ((wrap64 ((y274.length : Int) - 1)) : Int).toNat (⟨#[121]⟩ : ByteArray))])) else (none)) else (if x262001_3.length < 5864062014805 then (customsmade_Segments.l1 kj29 x4_1 (wrap64 (x6_3 - 1)) (l0.take 200) x253001_4 (rdOf ByteArray.empty y255 t258) (x262001_3 ++ [y274])) else (none))) else (none)) else (none)) else (if x262001_3.length < 5864062014805 then (customsmade_Segments.l1 kj29 x4_1 (wrap64 (x6_3 - 1)) (l0.take 200) x253001_4 (rdOf ByteArray.empty y255 t258) (x262001_3 ++ [y274])) else (none)))) = some r := by rw [if_pos rfl] at H; exact H
                                  clear H
                                  have H := H1
                                  clear H1
                                  obtain ⟨y274, hy274⟩ : ∃ y_ : List ByteArray, y_ = (([(⟨#[120]⟩ : ByteArray)] : List ByteArray)) := ⟨_, rfl⟩
                                  replace H : (if (y274.length : Int) > 0 then (if 0 ≤ (wrap64 ((y274.length : Int) - 1)) then (if (wrap64 ((y274.length : Int) - 1)) < (y274.length : Int) then (if (rdOf ByteArray.empty y274 (wrap64 ((y274.length : Int) - 1))).toList = ([] : List UInt8) then (if x262001_3.length < 5864062014805 then (customsmade_Segments.l1 kj29 x4_1 (wrap64 (x6_3 - 1)) (l0.take 200) x253001_4 (rdOf ByteArray.empty y255 t258) (x262001_3 ++ [(y274.set ((wrap64 ((y274.length : Int) - 1)) : Int).toNat (⟨#[121]⟩ : ByteArray))])) else (none)) else (if x262001_3.length < 5864062014805 then (customsmade_Segments.l1 kj29 x4_1 (wrap64 (x6_3 - 1)) (l0.take 200) x253001_4 (rdOf ByteArray.empty y255 t258) (x262001_3 ++ [y274])) else (none))) else (none)) else (none)) else (if x262001_3.length < 5864062014805 then (customsmade_Segments.l1 kj29 x4_1 (wrap64 (x6_3 - 1)) (l0.take 200) x253001_4 (rdOf ByteArray.empty y255 t258) (x262001_3 ++ [y274])) else (none))) = some r := by first | (rw [hy274]; with_reducible exact H) | (have H2_ := (Option.bind_some _ _).symm.trans H; rw [hy274]; with_reducible exact H2_) | (have H2_ := (Option.bind_some _ _).symm.trans H; with_reducible exact H2_) | with_reducible exact H | (rw [hy274]; exact H) | exact H
                                  have Ny274 := Aside0.mk hy274
                                  clear hy274
                                  by_cases c34 : (y274.length : Int) > 0
                                  · rw [if_pos c34] at H
                                    have c34b0 : decide (0 < (y274.length : Int)) = true := decide_eq_true c34
                                    have c34b1 : decide (0 < y274.length) = true := decide_eq_true (by omega)
                                    clear c34
                                    obtain ⟨ji35, hji35⟩ : ∃ j_ : Int, (wrap64 ((y274.length : Int) - 1)) = j_ := ⟨_, rfl⟩
                                    replace H : (if 0 ≤ (ji35) then (if (ji35) < (y274.length : Int) then (if (rdOf ByteArray.empty y274 (ji35)).toList = ([] : List UInt8) then (if x262001_3.length < 5864062014805 then (customsmade_Segments.l1 kj29 x4_1 (wrap64 (x6_3 - 1)) (l0.take 200) x253001_4 (rdOf ByteArray.empty y255 t258) (x262001_3 ++ [(y274.set ((ji35) : Int).toNat (⟨#[121]⟩ : ByteArray))])) else (none)) else (if x262001_3.length < 5864062014805 then (customsmade_Segments.l1 kj29 x4_1 (wrap64 (x6_3 - 1)) (l0.take 200) x253001_4 (rdOf ByteArray.empty y255 t258) (x262001_3 ++ [y274])) else (none))) else (none)) else (none)) = some r := by first | (rw [hji35] at H; exact H) | (simp only [hji35] at H ⊢; exact H)
                                    have hji35w : (IntKind.i64.wrap ((y274.length : Int) - 1)) = ji35 := (i64_w _).trans hji35
                                    by_cases c36 : 0 ≤ (ji35)
                                    · rw [if_pos c36] at H
                                      have c36b0 : decide (0 ≤ (ji35)) = true := decide_eq_true c36
                                      clear c36
                                      by_cases c37 : (ji35) < (y274.length : Int)
                                      · rw [if_pos c37] at H
                                        have c37b0 : decide ((ji35) < (y274.length : Int)) = true := decide_eq_true c37
                                        clear c37
                                        by_cases c38 : (rdOf ByteArray.empty y274 (ji35)).toList = ([] : List UInt8)
                                        · rw [if_pos c38] at H
                                          have c38b0 : ((rdOf ByteArray.empty y274 (ji35)).toList == ([] : List UInt8)) = true := beq_iff_eq.mpr c38
                                          have c38b1 : ((rdOf ByteArray.empty y274 (ji35)).toList != ([] : List UInt8)) = false := bne_eq_false_iff_eq.mpr c38
                                          clear c38
                                          obtain ⟨y278, hy278⟩ : ∃ y_ : List ByteArray, y_ = (y274.set ((ji35) : Int).toNat (⟨#[121]⟩ : ByteArray)) := ⟨_, rfl⟩
                                          replace H : (if x262001_3.length < 5864062014805 then (customsmade_Segments.l1 kj29 x4_1 (wrap64 (x6_3 - 1)) (l0.take 200) x253001_4 (rdOf ByteArray.empty y255 t258) (x262001_3 ++ [y278])) else (none)) = some r := by first | (rw [hy278]; with_reducible exact H) | (have H2_ := (Option.bind_some _ _).symm.trans H; rw [hy278]; with_reducible exact H2_) | (have H2_ := (Option.bind_some _ _).symm.trans H; with_reducible exact H2_) | with_reducible exact H | (rw [hy278]; exact H) | exact H
                                          have Ny278 := Aside0.mk hy278
                                          clear hy278
                                          by_cases c40 : x262001_3.length < 5864062014805
                                          · rw [if_pos c40] at H
                                            have LMc40 := Aside0.mk c40
                                            clear c40
                                            obtain ⟨y279, hy279⟩ : ∃ y_ : List (List ByteArray), y_ = (x262001_3 ++ [y278]) := ⟨_, rfl⟩
                                            replace H : (customsmade_Segments.l1 kj29 x4_1 (wrap64 (x6_3 - 1)) (l0.take 200) x253001_4 (rdOf ByteArray.empty y255 t258) y279) = some r := by first | (rw [hy279]; with_reducible exact H) | (have H2_ := (Option.bind_some _ _).symm.trans H; rw [hy279]; with_reducible exact H2_) | (have H2_ := (Option.bind_some _ _).symm.trans H; with_reducible exact H2_) | with_reducible exact H | (rw [hy279]; exact H) | exact H
                                            have Ny279 := Aside0.mk hy279
                                            clear hy279
                                            have H' := Aside0.mk H
                                            clear H
                                            go_wp2_with (first | ((with_reducible refine gate_dst (N := 51) rfl ?_); (try (refine gate_guard (by rfl) ?_; dsimp only)); refine Kd.R_lit Kd.string _ 9 ?hg (N := 51) ?hd (xs := ([(⟨#[120]⟩ : ByteArray)] : List ByteArray)) (inner := [.string (⟨#[120]⟩ : ByteArray)]) (ok := fun _ => True) (okp := fun _ => True) ?hr ?hp (fun _ hk => hk) trivial (Below.refl _ _) (Nat.le_refl _) (by simp) ?_; (case hd => rfl); (case hg => rfl); (case hr => first | (go_simp; done) | (go_simp; rfl)); (case hp => exact (Reps.one (show Kd.M Kd.string _ _ _ (⟨#[120]⟩ : ByteArray) [.string (⟨#[120]⟩ : ByteArray)] from rfl) (Reps.none _ _))); intro v275 w41 ho42 hb hg_ hnew_; clear hg_ hnew_; (first | rw [← Ny274.out] at ho42 | (simp only [Int.reduceToNat] at ho42; rw [← Ny274.out] at ho42)); have n0_ := Aside0.mk (Kd.R_elder' (by (with_reducible repeat (first | apply Kd.R_alloc | apply Kd.R_drewN | apply Kd.R_drew)); exact HO_4.out) (Kd.R_base ho42) hb); have n1_ := Aside0.mk (Kd.R_elder' (by (with_reducible repeat (first | apply Kd.R_alloc | apply Kd.R_drewN | apply Kd.R_drew)); exact HO_7.out) (Kd.R_base ho42) hb); have n2_ := Aside0.mk (Kd.S_elder' (by (with_reducible repeat (first | apply Kd.S_alloc | apply Kd.S_drewN | apply Kd.S_drew)); exact HO_262001.out) (Kd.R_base ho42) hb); have n3_ := Aside0.mk (Kd.R_lower (Kd.R_new' ho42 (Kd.R_lt (by (with_reducible repeat (first | apply Kd.R_alloc | apply Kd.R_drewN | apply Kd.R_drew)); exact HO_7.out))) (below_size (by repeat (first | (with_reducible first | exact HB.out | apply below_alloc | apply pw_below_drewN | apply below_drew1 | refine below_set ?_ (IsS52.ge HI252.out) | refine below_set ?_ GE261.out) | exact HB.out)))); have n4_ := Aside0.mk (blk_below (g := gb261) (o := .cells #[.string (rdOf ByteArray.empty y255 t258), u262001] 24 (0, 0)) (by (with_reducible repeat (first | refine blk_drewN ?_ _ | refine blk_drew ?_ | refine blk_alloc ?_ _)); exact BK261.out) hb); have n5_ := Aside0.mk (IsS52.below (by repeat (first | (with_reducible first | exact HI252.out | apply IsS52.alloc | apply IsS52.drewN | apply IsS52.drew | apply IsS52.set_1 | refine IsS52.far ?_ NB252_261.out _) | exact HI252.out)) hb); have n6_ := Aside0.mk (below_step (by repeat (first | (with_reducible first | exact HB.out | apply below_alloc | apply pw_below_drewN | apply below_drew1 | refine below_set ?_ (IsS52.ge HI252.out) | refine below_set ?_ GE261.out) | exact HB.out)) hb); clear HO_4; clear HO_7; clear HO_262001; clear BK261; clear HI252; clear HB; have HO_4 := n0_; have HO_7 := n1_; have HO_262001 := n2_; have HO276 := n3_; have BK261 := n4_; have HI252 := n5_; have HB := n6_; clear n0_ n1_ n2_ n3_ n4_ n5_ n6_; clear hb ho42; obtain ⟨Ao43, co43, eo43⟩ := Kd.R_slice HO276.out; subst eo43; have p277 : 0 ≤ ((ji35) : Int) := of_decide_eq_true (by first | (with_reducible assumption) | assumption); have q277 : (ji35) < (y274.length : Int) := of_decide_eq_true (by first | (with_reducible assumption) | assumption); obtain ⟨ad277, e277, hx277_0⟩ := Kd.at_string (Kd.R_reads' HO276.out).2.2 (ji35) p277 q277; cases e277; replace p277 := eq_true p277; replace q277 := eq_true q277; have p39 : 0 ≤ ((ji35) : Int) := of_decide_eq_true (by first | (with_reducible assumption) | assumption); have q39 : ((ji35) : Int) < ((y274.length : Int) : Int) := of_decide_eq_true (by first | (with_reducible assumption) | assumption); obtain ⟨go39, co39, eo39, gb39, gl39, cl39, HG39⟩ := Kd.R_form HO276.out (by omega); (first | cases eo39 | (injection eo39 with ea_ en_ ec_; (first | subst ea_ | (injection ea_ with ea_; subst ea_)); subst ec_; clear en_)); have GB39 := Aside0.mk gb39; have GG39 := Aside0.mk HG39; clear gb39 gl39 HG39; (first | simp only [add_plain] at hx277_0 | skip); obtain ⟨hx39_0, hf39_0⟩ := Kd.R_celln (⟨#[]⟩ : ByteArray) HO276.out ((ji35) : Int) p39 q39; replace p39 := eq_true p39; replace q39 := eq_true q39; have n_ := Aside0.mk (Kd.R_mono (ok' := (fun k_ => some k_ ≠ (u7 : Value).ownBlock)) HO276.out (fun k_ hk => hk.2)); clear HO276; have HO276 := n_; clear n_; obtain ⟨hy44_, hz44_⟩ := Kd.R_celln (⟨#[]⟩ : ByteArray) HO276.out ((ji35) : Int) (of_decide_eq_true (by first | (with_reducible assumption) | assumption)) (of_decide_eq_true (by first | (with_reducible assumption) | assumption)); have HP44 := Kd.R_putg HO276.out ((ji35) : Int) (⟨#[121]⟩ : ByteArray)) | ((with_reducible refine gate_store (t := 9) (p := 67) rfl ?_); refine store_event (t := 9) (p := 67) (v := ?vo_w45) (w1 := (w41.setCell ⟨go39, ((ji35) : Int).toNat, none⟩ (.string (⟨#[121]⟩ : ByteArray)))) ?hg ?ho ?hn ?hr ?_; (case ho => rfl); (case hg => rfl); (case hn => rfl); (case hr => first | (go_simp; done) | (go_simp; rfl)); intro w45 hw; have hg : w41.grownBy w45 (some go39) := (by rw [hw]; exact HP44.2); have hp_ : Kd.R Kd.string 9 w45 w.heap.size (fun k_ => some k_ ≠ (u7 : Value).ownBlock) (.slice (some ⟨go39, 0, none⟩) y274.length co43) y278 := (by rw [hw, Ny278.out]; exact HP44.1); clear HP44; have n0_ := Aside0.mk (Kd.R_after (v := (.slice (some ⟨go39, 0, none⟩) y274.length co43)) (v1 := (.slice (some ⟨go39, 0, none⟩) y274.length co43)) (ok := (fun k_ => some k_ ≠ (u7 : Value).ownBlock ∧ some k_ ≠ (u262001 : Value).ownBlock ∧ k_ ≠ gb261)) (by (with_reducible repeat (first | apply Kd.R_alloc | apply Kd.R_drewN | apply Kd.R_drew)); exact HO_4.out) hg (.inl rfl)); have n1_ := Aside0.mk (Kd.R_after (v := (.slice (some ⟨go39, 0, none⟩) y274.length co43)) (v1 := (.slice (some ⟨go39, 0, none⟩) y274.length co43)) (ok := (fun _ => True)) (by (with_reducible repeat (first | apply Kd.R_alloc | apply Kd.R_drewN | apply Kd.R_drew)); exact HO_7.out) hg (.inl rfl)); have n2_ := Aside0.mk (Kd.S_after (v := (.slice (some ⟨go39, 0, none⟩) y274.length co43)) (v1 := (.slice (some ⟨go39, 0, none⟩) y274.length co43)) (ok := (fun k_ => some k_ ≠ (u7 : Value).ownBlock)) (by (with_reducible repeat (first | apply Kd.S_alloc | apply Kd.S_drewN | apply Kd.S_drew)); exact HO_262001.out) hg (.inl rfl)); have n3_ := Aside0.mk (blk_grown (g := gb261) (o := .cells #[.string (rdOf ByteArray.empty y255 t258), u262001] 24 (0, 0)) (by (with_reducible repeat (first | refine blk_drewN ?_ _ | refine blk_drew ?_ | refine blk_alloc ?_ _)); exact BK261.out) hg (Kd.R_ne HO276.out BK261.out (by decide))); have n4_ := Aside0.mk (IsS52.grown (by repeat (first | (with_reducible first | exact HI252.out | apply IsS52.alloc | apply IsS52.drewN | apply IsS52.drew | apply IsS52.set_1 | refine IsS52.far ?_ NB252_261.out _) | exact HI252.out)) hg (IsS52.own_ne HI252.out HO276.out (by decide))); have n5_ := Aside0.mk (hp_); have n6_ := Aside0.mk ((by rw [hw]; exact below_set (HB.out) GB39.out : Below w.heap.size w w45)); clear HO_4; clear HO_7; clear HO_262001; clear BK261; clear HI252; clear HO276; clear HB; have HO_4 := n0_; have HO_7 := n1_; have HO_262001 := n2_; have BK261 := n3_; have HI252 := n4_; have HO276 := n5_; have HB := n6_; clear n0_ n1_ n2_ n3_ n4_ n5_ n6_; clear hg hw hp_; have hnb46 := NB261_252.out; have hnc46 := NB252_261.out; have hcz47_0 : w45.cell? ⟨gb261, 0, none⟩ = some (.string (rdOf ByteArray.empty y255 t258)) := (blk_cell BK261.out 0).trans rfl; have hcz47_1 : w45.cell? ⟨gb261, 1, none⟩ = some (u262001) := (blk_cell BK261.out 1).trans rfl; have hfz47_0 := blk_frozen BK261.out 0; have hfz47_1 := blk_frozen BK261.out 1) | ((with_reducible refine gate_builtin (b := .append) (xs := #[.tmp 69, .tmp 71]) rfl ?_); (try (refine gate_guard (by rfl) ?_; dsimp only)); at_builtin; refine Kd.S_append (Kd.slice 9 Kd.string) (w0 := w) w.heap.size rfl (.tmp 69) (.tmp 71) 22 48 (.slice none 0 0) 24 rfl Try.underlying22 info48 rfl (by decide) (by omega) u262001 x262001_3 y278 [.slice (some ⟨go39, 0, none⟩) y274.length co43] (fun k_ => some k_ ≠ (u7 : Value).ownBlock) (fun k_ => some k_ = (.slice (some ⟨go39, 0, none⟩) y274.length co43 : Value).ownBlock) rfl rfl ?aP (fun k_ hk_ => ((Kd.R_mono (ok' := fun k_ => ((fun k_ => some k_ ≠ (u7 : Value).ownBlock)) k_ ∧ some k_ ≠ (u262001 : Value).ownBlock) (Kd.R_apart' (HO276.out) (Kd.S_typed HO_262001.out) (by decide)) (fun k_ hk => ⟨hk.1, hk.2⟩))).1 k_ hk_.symm) ?aF ?aO ?aB ?aS ?aL ?_; (case aP => exact Kd.M_row (Kd.R_mono (Kd.R_tight rfl (Kd.R_mono (ok' := fun k_ => ((fun k_ => some k_ ≠ (u7 : Value).ownBlock)) k_ ∧ some k_ ≠ (u262001 : Value).ownBlock) (Kd.R_apart' (HO276.out) (Kd.S_typed HO_262001.out) (by decide)) (fun k_ hk => ⟨hk.1, hk.2⟩))) (fun _ h_ => h_))); (case aB => exact (by repeat (first | (with_reducible first | exact HB.out | apply below_alloc | apply pw_below_drewN | apply below_drew1 | refine below_set ?_ (IsS52.ge HI252.out) | refine below_set ?_ GE261.out) | exact HB.out))); (case aF => exact (fun k_ hk => Kd.fresh' (Kd.R_lt (by (with_reducible repeat (first | apply Kd.R_alloc | apply Kd.R_drewN | apply Kd.R_drew)); exact HO_7.out)) k_ hk)); (case aO => exact (by (with_reducible repeat (first | apply Kd.S_alloc | apply Kd.S_drewN | apply Kd.S_drew)); exact Kd.S_mono HO_262001.out (fun k_ hk => ⟨hk.1, fun e_ => hk.2 e_⟩))); (case aS => exact (below_size (by repeat (first | (with_reducible first | exact HB.out | apply below_alloc | apply pw_below_drewN | apply below_drew1 | refine below_set ?_ (IsS52.ge HI252.out) | refine below_set ?_ GE261.out) | exact HB.out)))); (case aL => have := LMc40.out; omega); intro v280 w48 ho hb hg hat; rw [← Ny279.out] at ho; have n0_ := Aside0.mk (Kd.R_after (ok := (fun k_ => some k_ ≠ (u7 : Value).ownBlock ∧ some k_ ≠ (.slice (some ⟨go39, 0, none⟩) y274.length co43 : Value).ownBlock ∧ k_ ≠ gb261)) (by (with_reducible repeat (first | apply Kd.R_alloc | apply Kd.R_drewN | apply Kd.R_drew)); exact Kd.R_mono HO_4.out (fun _ hk => ⟨⟨hk.1.1, ⟨hk.2, hk.1.2.2⟩⟩, hk.1.2.1⟩)) hg hat); have n1_ := Aside0.mk (Kd.R_over' (by (with_reducible repeat (first | apply Kd.R_alloc | apply Kd.R_drewN | apply Kd.R_drew)); exact HO_7.out) (Kd.S_typed (by (with_reducible repeat (first | apply Kd.S_alloc | apply Kd.S_drewN | apply Kd.S_drew)); exact HO_262001.out)) (by decide) hg); have n2_ := Aside0.mk (blk_grown (g := gb261) (o := .cells #[.string (rdOf ByteArray.empty y255 t258), u262001] 24 (0, 0)) (by (with_reducible repeat (first | refine blk_drewN ?_ _ | refine blk_drew ?_ | refine blk_alloc ?_ _)); exact BK261.out) hg (Kd.S_ne HO_262001.out BK261.out (by decide))); have n3_ := Aside0.mk (IsS52.grown (by repeat (first | (with_reducible first | exact HI252.out | apply IsS52.alloc | apply IsS52.drewN | apply IsS52.drew | apply IsS52.set_1 | refine IsS52.far ?_ NB252_261.out _) | exact HI252.out)) hg (IsS52.own_neS HI252.out HO_262001.out (by decide))); have n4_ := Aside0.mk (hb); have n5_ := Aside0.mk (ho); clear HO_4; clear HO_7; clear BK261; clear HI252; clear HB; clear HO_262001; clear HO276; have HO_4 := n0_; have HO_7 := n1_; have BK261 := n2_; have HI252 := n3_; have HB := n4_; have HO281 := n5_; clear n0_ n1_ n2_ n3_ n4_ n5_; clear ho hb hg hat; obtain ⟨Ao49, co49, eo49⟩ := Kd.S_slice HO281.out; subst eo49; have hcz50_0 : w48.cell? ⟨gb261, 0, none⟩ = some (.string (rdOf ByteArray.empty y255 t258)) := (blk_cell BK261.out 0).trans rfl; have hcz50_1 : w48.cell? ⟨gb261, 1, none⟩ = some (u262001) := (blk_cell BK261.out 1).trans rfl; have hfz50_0 := blk_frozen BK261.out 0; have hfz50_1 := blk_frozen BK261.out 1))
                                            go_roundg kj29
                                            case measure => have := HK1.out; have := HJ2.out; have := HK3.out; have := HK4.out; have := HJ29.out; omega
                                            case rel => exact ⟨(wrap64 (x6_3 - 1)), (x253001_4), (y279), (.slice Ao49 y279.length co49), (by first | rfl | (simp; done) | (simp [*]; done)), H', ⟨by have := HK1.out; have := HJ2.out; have := HK3.out; have := HK4.out; have := HJ29.out; omega⟩, ⟨by (with_reducible repeat (first | apply Kd.R_alloc | apply Kd.R_drewN | apply Kd.R_drew)); exact Kd.R_mono (Kd.R_far (p := ⟨gb261, 1, none⟩) (Kd.R_mono HO_4.out (fun k_ hk => (⟨hk, hk.1.2.2⟩ : _ ∧ k_ ≠ gb261))) (fun _ hk => hk.2) (.slice Ao49 y279.length co49)) (fun _ hk => ⟨hk.1.2, hk.1.1.2.2⟩)⟩, ⟨by (with_reducible repeat (first | apply Kd.S_alloc | apply Kd.S_drewN | apply Kd.S_drew)); exact Kd.S_mono (Kd.S_far (p := ⟨gb261, 1, none⟩) (Kd.S_types HO281.out BK261.out (by decide)) (fun _ hk => hk.2) (.slice Ao49 y279.length co49)) (fun _ hk => trivial)⟩, ⟨by (with_reducible repeat (first | refine blk_drewN ?_ _ | refine blk_drew ?_ | refine blk_alloc ?_ _)); refine blk_put (cs := #[.string (rdOf ByteArray.empty y255 t258), u262001]) ?_ 1 _ rfl; (with_reducible repeat (first | refine blk_drewN ?_ _ | refine blk_drew ?_ | refine blk_alloc ?_ _)); exact BK261.out⟩, ⟨by repeat (first | (with_reducible first | exact HI252.out | apply IsS52.alloc | apply IsS52.drewN | apply IsS52.drew | apply IsS52.set_1 | refine IsS52.far ?_ NB252_261.out _) | exact HI252.out)⟩, ⟨by repeat (first | (with_reducible first | exact HB.out | apply below_alloc | apply pw_below_drewN | apply below_drew1 | refine below_set ?_ (IsS52.ge HI252.out) | refine below_set ?_ GE261.out) | exact HB.out)⟩⟩
                                          · rw [if_neg c40] at H
                                            exact absurd H (by simp)
                                        · rw [if_neg c38] at H
                                          have c38b0 : ((rdOf ByteArray.empty y274 (ji35)).toList == ([] : List UInt8)) = false := beq_eq_false_iff_ne.mpr c38
                                          have c38b1 : ((rdOf ByteArray.empty y274 (ji35)).toList != ([] : List UInt8)) = true := bne_iff_ne.mpr c38
                                          by_cases c51 : x262001_3.length < 5864062014805
                                          · rw [if_pos c51] at H
                                            have LMc51 := Aside0.mk c51
                                            clear c51
                                            obtain ⟨y282, hy282⟩ : ∃ y_ : List (List ByteArray), y_ = (x262001_3 ++ [y274]) := ⟨_, rfl⟩
                                            replace H : (customsmade_Segments.l1 kj29 x4_1 (wrap64 (x6_3 - 1)) (l0.take 200) x253001_4 (rdOf ByteArray.empty y255 t258) y282) = some r := by first | (rw [hy282]; with_reducible exact H) | (have H2_ := (Option.bind_some _ _).symm.trans H; rw [hy282]; with_reducible exact H2_) | (have H2_ := (Option.bind_some _ _).symm.trans H; with_reducible exact H2_) | with_reducible exact H | (rw [hy282]; exact H) | exact H
                                            have Ny282 := Aside0.mk hy282
                                            clear hy282
                                            have H' := Aside0.mk H
                                            clear H
                                            go_wp2_with (first | ((with_reducible refine gate_dst (N := 51) rfl ?_); (try (refine gate_guard (by rfl) ?_; dsimp only)); refine Kd.R_lit Kd.string _ 9 ?hg (N := 51) ?hd (xs := ([(⟨#[120]⟩ : ByteArray)] : List ByteArray)) (inner := [.string (⟨#[120]⟩ : ByteArray)]) (ok := fun _ => True) (okp := fun _ => True) ?hr ?hp (fun _ hk => hk) trivial (Below.refl _ _) (Nat.le_refl _) (by simp) ?_; (case hd => rfl); (case hg => rfl); (case hr => first | (go_simp; done) | (go_simp; rfl)); (case hp => exact (Reps.one (show Kd.M Kd.string _ _ _ (⟨#[120]⟩ : ByteArray) [.string (⟨#[120]⟩ : ByteArray)] from rfl) (Reps.none _ _))); intro v275 w52 ho53 hb hg_ hnew_; clear hg_ hnew_; (first | rw [← Ny274.out] at ho53 | (simp only [Int.reduceToNat] at ho53; rw [← Ny274.out] at ho53)); have n0_ := Aside0.mk (Kd.R_elder' (by (with_reducible repeat (first | apply Kd.R_alloc | apply Kd.R_drewN | apply Kd.R_drew)); exact HO_4.out) (Kd.R_base ho53) hb); have n1_ := Aside0.mk (Kd.R_elder' (by (with_reducible repeat (first | apply Kd.R_alloc | apply Kd.R_drewN | apply Kd.R_drew)); exact HO_7.out) (Kd.R_base ho53) hb); have n2_ := Aside0.mk (Kd.S_elder' (by (with_reducible repeat (first | apply Kd.S_alloc | apply Kd.S_drewN | apply Kd.S_drew)); exact HO_262001.out) (Kd.R_base ho53) hb); have n3_ := Aside0.mk (Kd.R_lower (Kd.R_new' ho53 (Kd.R_lt (by (with_reducible repeat (first | apply Kd.R_alloc | apply Kd.R_drewN | apply Kd.R_drew)); exact HO_7.out))) (below_size (by repeat (first | (with_reducible first | exact HB.out | apply below_alloc | apply pw_below_drewN | apply below_drew1 | refine below_set ?_ (IsS52.ge HI252.out) | refine below_set ?_ GE261.out) | exact HB.out)))); have n4_ := Aside0.mk (blk_below (g := gb261) (o := .cells #[.string (rdOf ByteArray.empty y255 t258), u262001] 24 (0, 0)) (by (with_reducible repeat (first | refine blk_drewN ?_ _ | refine blk_drew ?_ | refine blk_alloc ?_ _)); exact BK261.out) hb); have n5_ := Aside0.mk (IsS52.below (by repeat (first | (with_reducible first | exact HI252.out | apply IsS52.alloc | apply IsS52.drewN | apply IsS52.drew | apply IsS52.set_1 | refine IsS52.far ?_ NB252_261.out _) | exact HI252.out)) hb); have n6_ := Aside0.mk (below_step (by repeat (first | (with_reducible first | exact HB.out | apply below_alloc | apply pw_below_drewN | apply below_drew1 | refine below_set ?_ (IsS52.ge HI252.out) | refine below_set ?_ GE261.out) | exact HB.out)) hb); clear HO_4; clear HO_7; clear HO_262001; clear BK261; clear HI252; clear HB; have HO_4 := n0_; have HO_7 := n1_; have HO_262001 := n2_; have HO276 := n3_; have BK261 := n4_; have HI252 := n5_; have HB := n6_; clear n0_ n1_ n2_ n3_ n4_ n5_ n6_; clear hb ho53; obtain ⟨Ao54, co54, eo54⟩ := Kd.R_slice HO276.out; subst eo54; have p277 : 0 ≤ ((ji35) : Int) := of_decide_eq_true (by first | (with_reducible assumption) | assumption); have q277 : (ji35) < (y274.length : Int) := of_decide_eq_true (by first | (with_reducible assumption) | assumption); obtain ⟨ad277, e277, hx277_0⟩ := Kd.at_string (Kd.R_reads' HO276.out).2.2 (ji35) p277 q277; cases e277; replace p277 := eq_true p277; replace q277 := eq_true q277; have hnb55 := NB261_252.out; have hnc55 := NB252_261.out; have hcz56_0 : w52.cell? ⟨gb261, 0, none⟩ = some (.string (rdOf ByteArray.empty y255 t258)) := (blk_cell BK261.out 0).trans rfl; have hcz56_1 : w52.cell? ⟨gb261, 1, none⟩ = some (u262001) := (blk_cell BK261.out 1).trans rfl; have hfz56_0 := blk_frozen BK261.out 0; have hfz56_1 := blk_frozen BK261.out 1) | ((with_reducible refine gate_builtin (b := .append) (xs := #[.tmp 69, .tmp 71]) rfl ?_); (try (refine gate_guard (by rfl) ?_; dsimp only)); at_builtin; refine Kd.S_append (Kd.slice 9 Kd.string) (w0 := w) w.heap.size rfl (.tmp 69) (.tmp 71) 22 48 (.slice none 0 0) 24 rfl Try.underlying22 info48 rfl (by decide) (by omega) u262001 x262001_3 y274 [.slice (some ad277) y274.length co54] (fun k_ => some k_ ≠ (u7 : Value).ownBlock) (fun k_ => some k_ = (.slice (some ad277) y274.length co54 : Value).ownBlock) rfl rfl ?aP (fun k_ hk_ => ((Kd.R_mono (ok' := fun k_ => ((fun k_ => some k_ ≠ (u7 : Value).ownBlock)) k_ ∧ some k_ ≠ (u262001 : Value).ownBlock) (Kd.R_apart' (HO276.out) (Kd.S_typed HO_262001.out) (by decide)) (fun k_ hk => ⟨hk.1.2, hk.2⟩))).1 k_ hk_.symm) ?aF ?aO ?aB ?aS ?aL ?_; (case aP => exact Kd.M_row (Kd.R_mono (Kd.R_tight rfl (Kd.R_mono (ok' := fun k_ => ((fun k_ => some k_ ≠ (u7 : Value).ownBlock)) k_ ∧ some k_ ≠ (u262001 : Value).ownBlock) (Kd.R_apart' (HO276.out) (Kd.S_typed HO_262001.out) (by decide)) (fun k_ hk => ⟨hk.1.2, hk.2⟩))) (fun _ h_ => h_))); (case aB => exact (by repeat (first | (with_reducible first | exact HB.out | apply below_alloc | apply pw_below_drewN | apply below_drew1 | refine below_set ?_ (IsS52.ge HI252.out) | refine below_set ?_ GE261.out) | exact HB.out))); (case aF => exact (fun k_ hk => Kd.fresh' (Kd.R_lt (by (with_reducible repeat (first | apply Kd.R_alloc | apply Kd.R_drewN | apply Kd.R_drew)); exact HO_7.out)) k_ hk)); (case aO => exact (by (with_reducible repeat (first | apply Kd.S_alloc | apply Kd.S_drewN | apply Kd.S_drew)); exact Kd.S_mono HO_262001.out (fun k_ hk => ⟨hk.1, fun e_ => hk.2 e_⟩))); (case aS => exact (below_size (by repeat (first | (with_reducible first | exact HB.out | apply below_alloc | apply pw_below_drewN | apply below_drew1 | refine below_set ?_ (IsS52.ge HI252.out) | refine below_set ?_ GE261.out) | exact HB.out)))); (case aL => have := LMc51.out; omega); intro v283 w57 ho hb hg hat; rw [← Ny282.out] at ho; have n0_ := Aside0.mk (Kd.R_after (ok := (fun k_ => some k_ ≠ (u7 : Value).ownBlock ∧ some k_ ≠ (.slice (some ad277) y274.length co54 : Value).ownBlock ∧ k_ ≠ gb261)) (by (with_reducible repeat (first | apply Kd.R_alloc | apply Kd.R_drewN | apply Kd.R_drew)); exact Kd.R_mono HO_4.out (fun _ hk => ⟨⟨hk.1.1, ⟨hk.2, hk.1.2.2⟩⟩, hk.1.2.1⟩)) hg hat); have n1_ := Aside0.mk (Kd.R_over' (by (with_reducible repeat (first | apply Kd.R_alloc | apply Kd.R_drewN | apply Kd.R_drew)); exact HO_7.out) (Kd.S_typed (by (with_reducible repeat (first | apply Kd.S_alloc | apply Kd.S_drewN | apply Kd.S_drew)); exact HO_262001.out)) (by decide) hg); have n2_ := Aside0.mk (blk_grown (g := gb261) (o := .cells #[.string (rdOf ByteArray.empty y255 t258), u262001] 24 (0, 0)) (by (with_reducible repeat (first | refine blk_drewN ?_ _ | refine blk_drew ?_ | refine blk_alloc ?_ _)); exact BK261.out) hg (Kd.S_ne HO_262001.out BK261.out (by decide))); have n3_ := Aside0.mk (IsS52.grown (by repeat (first | (with_reducible first | exact HI252.out | apply IsS52.alloc | apply IsS52.drewN | apply IsS52.drew | apply IsS52.set_1 | refine IsS52.far ?_ NB252_261.out _) | exact HI252.out)) hg (IsS52.own_neS HI252.out HO_262001.out (by decide))); have n4_ := Aside0.mk (hb); have n5_ := Aside0.mk (ho); clear HO_4; clear HO_7; clear BK261; clear HI252; clear HB; clear HO_262001; clear HO276; have HO_4 := n0_; have HO_7 := n1_; have BK261 := n2_; have HI252 := n3_; have HB := n4_; have HO284 := n5_; clear n0_ n1_ n2_ n3_ n4_ n5_; clear ho hb hg hat; obtain ⟨Ao58, co58, eo58⟩ := Kd.S_slice HO284.out; subst eo58; have hcz59_0 : w57.cell? ⟨gb261, 0, none⟩ = some (.string (rdOf ByteArray.empty y255 t258)) := (blk_cell BK261.out 0).trans rfl; have hcz59_1 : w57.cell? ⟨gb261, 1, none⟩ = some (u262001) := (blk_cell BK261.out 1).trans rfl; have hfz59_0 := blk_frozen BK261.out 0; have hfz59_1 := blk_frozen BK261.out 1))
                                            go_roundg kj29
                                            case measure => have := HK1.out; have := HJ2.out; have := HK3.out; have := HK4.out; have := HJ29.out; omega
                                            case rel => exact ⟨(wrap64 (x6_3 - 1)), (x253001_4), (y282), (.slice Ao58 y282.length co58), (by first | rfl | (simp; done) | (simp [*]; done)), H', ⟨by have := HK1.out; have := HJ2.out; have := HK3.out; have := HK4.out; have := HJ29.out; omega⟩, ⟨by (with_reducible repeat (first | apply Kd.R_alloc | apply Kd.R_drewN | apply Kd.R_drew)); exact Kd.R_mono (Kd.R_far (p := ⟨gb261, 1, none⟩) (Kd.R_mono HO_4.out (fun k_ hk => (⟨hk, hk.1.2.2⟩ : _ ∧ k_ ≠ gb261))) (fun _ hk => hk.2) (.slice Ao58 y282.length co58)) (fun _ hk => ⟨hk.1.2, hk.1.1.2.2⟩)⟩, ⟨by (with_reducible repeat (first | apply Kd.S_alloc | apply Kd.S_drewN | apply Kd.S_drew)); exact Kd.S_mono (Kd.S_far (p := ⟨gb261, 1, none⟩) (Kd.S_types HO284.out BK261.out (by decide)) (fun _ hk => hk.2) (.slice Ao58 y282.length co58)) (fun _ hk => trivial)⟩, ⟨by (with_reducible repeat (first | refine blk_drewN ?_ _ | refine blk_drew ?_ | refine blk_alloc ?_ _)); refine blk_put (cs := #[.string (rdOf ByteArray.empty y255 t258), u262001]) ?_ 1 _ rfl; (with_reducible repeat (first | refine blk_drewN ?_ _ | refine blk_drew ?_ | refine blk_alloc ?_ _)); exact BK261.out⟩, ⟨by repeat (first | (with_reducible first | exact HI252.out | apply IsS52.alloc | apply IsS52.drewN | apply IsS52.drew | apply IsS52.set_1 | refine IsS52.far ?_ NB252_261.out _) | exact HI252.out)⟩, ⟨by repeat (first | (with_reducible first | exact HB.out | apply below_alloc | apply pw_below_drewN | apply below_drew1 | refine below_set ?_ (IsS52.ge HI252.out) | refine below_set ?_ GE261.out) | exact HB.out)⟩⟩
                                          · rw [if_neg c51] at H
                                            exact absurd H (by simp)
                                      · rw [if_neg c37] at H
                                        exact absurd H (by simp)
                                    · rw [if_neg c36] at H
                                      exact absurd H (by simp)
                                  · rw [if_neg c34] at H
                                    have c34b0 : decide (0 < (y274.length : Int)) = false := decide_eq_false c34
                                    have c34b1 : decide (0 < y274.length) = false := decide_eq_false (by omega)
                                    clear c34
                                    by_cases c60 : x262001_3.length < 5864062014805
                                    · rw [if_pos c60] at H
                                      have LMc60 := Aside0.mk c60
                                      clear c60
                                      obtain ⟨y285, hy285⟩ : ∃ y_ : List (List ByteArray), y_ = (x262001_3 ++ [y274]) := ⟨_, rfl⟩
                                      replace H : (customsmade_Segments.l1 kj29 x4_1 (wrap64 (x6_3 - 1)) (l0.take 200) x253001_4 (rdOf ByteArray.empty y255 t258) y285) = some r := by first | (rw [hy285]; with_reducible exact H) | (have H2_ := (Option.bind_some _ _).symm.trans H; rw [hy285]; with_reducible exact H2_) | (have H2_ := (Option.bind_some _ _).symm.trans H; with_reducible exact H2_) | with_reducible exact H | (rw [hy285]; exact H) | exact H
                                      have Ny285 := Aside0.mk hy285
                                      clear hy285
                                      have H' := Aside0.mk H
                                      clear H
                                      go_wp2_with (first | ((with_reducible refine gate_dst (N := 51) rfl ?_); (try (refine gate_guard (by rfl) ?_; dsimp only)); refine Kd.R_lit Kd.string _ 9 ?hg (N := 51) ?hd (xs := ([(⟨#[120]⟩ : ByteArray)] : List ByteArray)) (inner := [.string (⟨#[120]⟩ : ByteArray)]) (ok := fun _ => True) (okp := fun _ => True) ?hr ?hp (fun _ hk => hk) trivial (Below.refl _ _) (Nat.le_refl _) (by simp) ?_; (case hd => rfl); (case hg => rfl); (case hr => first | (go_simp; done) | (go_simp; rfl)); (case hp => exact (Reps.one (show Kd.M Kd.string _ _ _ (⟨#[120]⟩ : ByteArray) [.string (⟨#[120]⟩ : ByteArray)] from rfl) (Reps.none _ _))); intro v275 w61 ho62 hb hg_ hnew_; clear hg_ hnew_; (first | rw [← Ny274.out] at ho62 | (simp only [Int.reduceToNat] at ho62; rw [← Ny274.out] at ho62)); have n0_ := Aside0.mk (Kd.R_elder' (by (with_reducible repeat (first | apply Kd.R_alloc | apply Kd.R_drewN | apply Kd.R_drew)); exact HO_4.out) (Kd.R_base ho62) hb); have n1_ := Aside0.mk (Kd.R_elder' (by (with_reducible repeat (first | apply Kd.R_alloc | apply Kd.R_drewN | apply Kd.R_drew)); exact HO_7.out) (Kd.R_base ho62) hb); have n2_ := Aside0.mk (Kd.S_elder' (by (with_reducible repeat (first | apply Kd.S_alloc | apply Kd.S_drewN | apply Kd.S_drew)); exact HO_262001.out) (Kd.R_base ho62) hb); have n3_ := Aside0.mk (Kd.R_lower (Kd.R_new' ho62 (Kd.R_lt (by (with_reducible repeat (first | apply Kd.R_alloc | apply Kd.R_drewN | apply Kd.R_drew)); exact HO_7.out))) (below_size (by repeat (first | (with_reducible first | exact HB.out | apply below_alloc | apply pw_below_drewN | apply below_drew1 | refine below_set ?_ (IsS52.ge HI252.out) | refine below_set ?_ GE261.out) | exact HB.out)))); have n4_ := Aside0.mk (blk_below (g := gb261) (o := .cells #[.string (rdOf ByteArray.empty y255 t258), u262001] 24 (0, 0)) (by (with_reducible repeat (first | refine blk_drewN ?_ _ | refine blk_drew ?_ | refine blk_alloc ?_ _)); exact BK261.out) hb); have n5_ := Aside0.mk (IsS52.below (by repeat (first | (with_reducible first | exact HI252.out | apply IsS52.alloc | apply IsS52.drewN | apply IsS52.drew | apply IsS52.set_1 | refine IsS52.far ?_ NB252_261.out _) | exact HI252.out)) hb); have n6_ := Aside0.mk (below_step (by repeat (first | (with_reducible first | exact HB.out | apply below_alloc | apply pw_below_drewN | apply below_drew1 | refine below_set ?_ (IsS52.ge HI252.out) | refine below_set ?_ GE261.out) | exact HB.out)) hb); clear HO_4; clear HO_7; clear HO_262001; clear BK261; clear HI252; clear HB; have HO_4 := n0_; have HO_7 := n1_; have HO_262001 := n2_; have HO276 := n3_; have BK261 := n4_; have HI252 := n5_; have HB := n6_; clear n0_ n1_ n2_ n3_ n4_ n5_ n6_; clear hb ho62; obtain ⟨Ao63, co63, eo63⟩ := Kd.R_slice HO276.out; subst eo63; have hnb64 := NB261_252.out; have hnc64 := NB252_261.out; have hcz65_0 : w61.cell? ⟨gb261, 0, none⟩ = some (.string (rdOf ByteArray.empty y255 t258)) := (blk_cell BK261.out 0).trans rfl; have hcz65_1 : w61.cell? ⟨gb261, 1, none⟩ = some (u262001) := (blk_cell BK261.out 1).trans rfl; have hfz65_0 := blk_frozen BK261.out 0; have hfz65_1 := blk_frozen BK261.out 1) | ((with_reducible refine gate_builtin (b := .append) (xs := #[.tmp 69, .tmp 71]) rfl ?_); (try (refine gate_guard (by rfl) ?_; dsimp only)); at_builtin; refine Kd.S_append (Kd.slice 9 Kd.string) (w0 := w) w.heap.size rfl (.tmp 69) (.tmp 71) 22 48 (.slice none 0 0) 24 rfl Try.underlying22 info48 rfl (by decide) (by omega) u262001 x262001_3 y274 [.slice Ao63 y274.length co63] (fun k_ => some k_ ≠ (u7 : Value).ownBlock) (fun k_ => some k_ = (.slice Ao63 y274.length co63 : Value).ownBlock) rfl rfl ?aP (fun k_ hk_ => ((Kd.R_mono (ok' := fun k_ => ((fun k_ => some k_ ≠ (u7 : Value).ownBlock)) k_ ∧ some k_ ≠ (u262001 : Value).ownBlock) (Kd.R_apart' (HO276.out) (Kd.S_typed HO_262001.out) (by decide)) (fun k_ hk => ⟨hk.1.2, hk.2⟩))).1 k_ hk_.symm) ?aF ?aO ?aB ?aS ?aL ?_; (case aP => exact Kd.M_row (Kd.R_mono (Kd.R_tight rfl (Kd.R_mono (ok' := fun k_ => ((fun k_ => some k_ ≠ (u7 : Value).ownBlock)) k_ ∧ some k_ ≠ (u262001 : Value).ownBlock) (Kd.R_apart' (HO276.out) (Kd.S_typed HO_262001.out) (by decide)) (fun k_ hk => ⟨hk.1.2, hk.2⟩))) (fun _ h_ => h_))); (case aB => exact (by repeat (first | (with_reducible first | exact HB.out | apply below_alloc | apply pw_below_drewN | apply below_drew1 | refine below_set ?_ (IsS52.ge HI252.out) | refine below_set ?_ GE261.out) | exact HB.out))); (case aF => exact (fun k_ hk => Kd.fresh' (Kd.R_lt (by (with_reducible repeat (first | apply Kd.R_alloc | apply Kd.R_drewN | apply Kd.R_drew)); exact HO_7.out)) k_ hk)); (case aO => exact (by (with_reducible repeat (first | apply Kd.S_alloc | apply Kd.S_drewN | apply Kd.S_drew)); exact Kd.S_mono HO_262001.out (fun k_ hk => ⟨hk.1, fun e_ => hk.2 e_⟩))); (case aS => exact (below_size (by repeat (first | (with_reducible first | exact HB.out | apply below_alloc | apply pw_below_drewN | apply below_drew1 | refine below_set ?_ (IsS52.ge HI252.out) | refine below_set ?_ GE261.out) | exact HB.out)))); (case aL => have := LMc60.out; omega); intro v286 w66 ho hb hg hat; rw [← Ny285.out] at ho; have n0_ := Aside0.mk (Kd.R_after (ok := (fun k_ => some k_ ≠ (u7 : Value).ownBlock ∧ some k_ ≠ (.slice Ao63 y274.length co63 : Value).ownBlock ∧ k_ ≠ gb261)) (by (with_reducible repeat (first | apply Kd.R_alloc | apply Kd.R_drewN | apply Kd.R_drew)); exact Kd.R_mono HO_4.out (fun _ hk => ⟨⟨hk.1.1, ⟨hk.2, hk.1.2.2⟩⟩, hk.1.2.1⟩)) hg hat); have n1_ := Aside0.mk (Kd.R_over' (by (with_reducible repeat (first | apply Kd.R_alloc | apply Kd.R_drewN | apply Kd.R_drew)); exact HO_7.out) (Kd.S_typed (by (with_reducible repeat (first | apply Kd.S_alloc | apply Kd.S_drewN | apply Kd.S_drew)); exact HO_262001.out)) (by decide) hg); have n2_ := Aside0.mk (blk_grown (g := gb261) (o := .cells #[.string (rdOf ByteArray.empty y255 t258), u262001] 24 (0, 0)) (by (with_reducible repeat (first | refine blk_drewN ?_ _ | refine blk_drew ?_ | refine blk_alloc ?_ _)); exact BK261.out) hg (Kd.S_ne HO_262001.out BK261.out (by decide))); have n3_ := Aside0.mk (IsS52.grown (by repeat (first | (with_reducible first | exact HI252.out | apply IsS52.alloc | apply IsS52.drewN | apply IsS52.drew | apply IsS52.set_1 | refine IsS52.far ?_ NB252_261.out _) | exact HI252.out)) hg (IsS52.own_neS HI252.out HO_262001.out (by decide))); have n4_ := Aside0.mk (hb); have n5_ := Aside0.mk (ho); clear HO_4; clear HO_7; clear BK261; clear HI252; clear HB; clear HO_262001; clear HO276; have HO_4 := n0_; have HO_7 := n1_; have BK261 := n2_; have HI252 := n3_; have HB := n4_; have HO287 := n5_; clear n0_ n1_ n2_ n3_ n4_ n5_; clear ho hb hg hat; obtain ⟨Ao67, co67, eo67⟩ := Kd.S_slice HO287.out; subst eo67; have hcz68_0 : w66.cell? ⟨gb261, 0, none⟩ = some (.string (rdOf ByteArray.empty y255 t258)) := (blk_cell BK261.out 0).trans rfl; have hcz68_1 : w66.cell? ⟨gb261, 1, none⟩ = some (u262001) := (blk_cell BK261.out 1).trans rfl; have hfz68_0 := blk_frozen BK261.out 0; have hfz68_1 := blk_frozen BK261.out 1))
                                      go_roundg kj29
                                      case measure => have := HK1.out; have := HJ2.out; have := HK3.out; have := HK4.out; have := HJ29.out; omega
                                      case rel => exact ⟨(wrap64 (x6_3 - 1)), (x253001_4), (y285), (.slice Ao67 y285.length co67), (by first | rfl | (simp; done) | (simp [*]; done)), H', ⟨by have := HK1.out; have := HJ2.out; have := HK3.out; have := HK4.out; have := HJ29.out; omega⟩, ⟨by (with_reducible repeat (first | apply Kd.R_alloc | apply Kd.R_drewN | apply Kd.R_drew)); exact Kd.R_mono (Kd.R_far (p := ⟨gb261, 1, none⟩) (Kd.R_mono HO_4.out (fun k_ hk => (⟨hk, hk.1.2.2⟩ : _ ∧ k_ ≠ gb261))) (fun _ hk => hk.2) (.slice Ao67 y285.length co67)) (fun _ hk => ⟨hk.1.2, hk.1.1.2.2⟩)⟩, ⟨by (with_reducible repeat (first | apply Kd.S_alloc | apply Kd.S_drewN | apply Kd.S_drew)); exact Kd.S_mono (Kd.S_far (p := ⟨gb261, 1, none⟩) (Kd.S_types HO287.out BK261.out (by decide)) (fun _ hk => hk.2) (.slice Ao67 y285.length co67)) (fun _ hk => trivial)⟩, ⟨by (with_reducible repeat (first | refine blk_drewN ?_ _ | refine blk_drew ?_ | refine blk_alloc ?_ _)); refine blk_put (cs := #[.string (rdOf ByteArray.empty y255 t258), u262001]) ?_ 1 _ rfl; (with_reducible repeat (first | refine blk_drewN ?_ _ | refine blk_drew ?_ | refine blk_alloc ?_ _)); exact BK261.out⟩, ⟨by repeat (first | (with_reducible first | exact HI252.out | apply IsS52.alloc | apply IsS52.drewN | apply IsS52.drew | apply IsS52.set_1 | refine IsS52.far ?_ NB252_261.out _) | exact HI252.out)⟩, ⟨by repeat (first | (with_reducible first | exact HB.out | apply below_alloc | apply pw_below_drewN | apply below_drew1 | refine below_set ?_ (IsS52.ge HI252.out) | refine below_set ?_ GE261.out) | exact HB.out)⟩⟩
                                    · rw [if_neg c60] at H
                                      exact absurd H (by simp)
                                · replace c33 := Bool.eq_false_iff.mpr c33
                                  subst c33
                                  have H1 : (if (x7_4.length : Int) > 0 then (if 0 ≤ (wrap64 ((x7_4.length : Int) - 1)) then (if (wrap64 ((x7_4.length : Int) - 1)) < (x7_4.length : Int) then (if (rdOf ByteArray.empty x7_4 (wrap64 ((x7_4.length : Int) - 1))).toList = ([] : List UInt8) then (if x262001_3.length < 5864062014805 then (customsmade_Segments.l1 kj29 x4_1 (wrap64 (x6_3 - 1)) (l0.take 200) x253001_4 (rdOf ByteArray.empty y255 t258) (x262001_3 ++ [(x7_4.set ((wrap64 ((x7_4.length : Int) - 1)) : Int).toNat (⟨#[121]⟩ : ByteArray))])) else (none)) else (if x262001_3.length < 5864062014805 then (customsmade_Segments.l1 kj29 x4_1 (wrap64 (x6_3 - 1)) (l0.take 200) x253001_4 (rdOf ByteArray.empty y255 t258) (x262001_3 ++ [x7_4])) else (none))) else (none)) else (none)) else (if x262001_3.length < 5864062014805 then (customsmade_Segments.l1 kj29 x4_1 (wrap64 (x6_3 - 1)) (l0.take 200) x253001_4 (rdOf ByteArray.empty y255 t258) (x262001_3 ++ [x7_4])) else (none))) = some r := by rw [if_neg (show ¬ (false = true) by decide)] at H; exact H
                                  clear H
                                  have H := H1
                                  clear H1
                                  by_cases c69 : (x7_4.length : Int) > 0
                                  · rw [if_pos c69] at H
                                    have c69b0 : decide (0 < (x7_4.length : Int)) = true := decide_eq_true c69
                                    have c69b1 : decide (0 < x7_4.length) = true := decide_eq_true (by omega)
                                    clear c69
                                    obtain ⟨ji70, hji70⟩ : ∃ j_ : Int, (wrap64 ((x7_4.length : Int) - 1)) = j_ := ⟨_, rfl⟩
                                    replace H : (if 0 ≤ (ji70) then (if (ji70) < (x7_4.length : Int) then (if (rdOf ByteArray.empty x7_4 (ji70)).toList = ([] : List UInt8) then (if x262001_3.length < 5864062014805 then (customsmade_Segments.l1 kj29 x4_1 (wrap64 (x6_3 - 1)) (l0.take 200) x253001_4 (rdOf ByteArray.empty y255 t258) (x262001_3 ++ [(x7_4.set ((ji70) : Int).toNat (⟨#[121]⟩ : ByteArray))])) else (none)) else (if x262001_3.length < 5864062014805 then (customsmade_Segments.l1 kj29 x4_1 (wrap64 (x6_3 - 1)) (l0.take 200) x253001_4 (rdOf ByteArray.empty y255 t258) (x262001_3 ++ [x7_4])) else (none))) else (none)) else (none)) = some r := by first | (rw [hji70] at H; exact H) | (simp only [hji70] at H ⊢; exact H)
                                    have hji70w : (IntKind.i64.wrap ((x7_4.length : Int) - 1)) = ji70 := (i64_w _).trans hji70
                                    by_cases c71 : 0 ≤ (ji70)
                                    · rw [if_pos c71] at H
                                      have c71b0 : decide (0 ≤ (ji70)) = true := decide_eq_true c71
                                      clear c71
                                      by_cases c72 : (ji70) < (x7_4.length : Int)
                                      · rw [if_pos c72] at H
                                        have c72b0 : decide ((ji70) < (x7_4.length : Int)) = true := decide_eq_true c72
                                        clear c72
                                        by_cases c73 : (rdOf ByteArray.empty x7_4 (ji70)).toList = ([] : List UInt8)
                                        · rw [if_pos c73] at H
                                          have c73b0 : ((rdOf ByteArray.empty x7_4 (ji70)).toList == ([] : List UInt8)) = true := beq_iff_eq.mpr c73
                                          have c73b1 : ((rdOf ByteArray.empty x7_4 (ji70)).toList != ([] : List UInt8)) = false := bne_eq_false_iff_eq.mpr c73
                                          clear c73
                                          obtain ⟨y289, hy289⟩ : ∃ y_ : List ByteArray, y_ = (x7_4.set ((ji70) : Int).toNat (⟨#[121]⟩ : ByteArray)) := ⟨_, rfl⟩
                                          replace H : (if x262001_3.length < 5864062014805 then (customsmade_Segments.l1 kj29 x4_1 (wrap64 (x6_3 - 1)) (l0.take 200) x253001_4 (rdOf ByteArray.empty y255 t258) (x262001_3 ++ [y289])) else (none)) = some r := by first | (rw [hy289]; with_reducible exact H) | (have H2_ := (Option.bind_some _ _).symm.trans H; rw [hy289]; with_reducible exact H2_) | (have H2_ := (Option.bind_some _ _).symm.trans H; with_reducible exact H2_) | with_reducible exact H | (rw [hy289]; exact H) | exact H
                                          have Ny289 := Aside0.mk hy289
                                          clear hy289
                                          by_cases c75 : x262001_3.length < 5864062014805
                                          · rw [if_pos c75] at H
                                            have LMc75 := Aside0.mk c75
                                            clear c75
                                            obtain ⟨y290, hy290⟩ : ∃ y_ : List (List ByteArray), y_ = (x262001_3 ++ [y289]) := ⟨_, rfl⟩
                                            replace H : (customsmade_Segments.l1 kj29 x4_1 (wrap64 (x6_3 - 1)) (l0.take 200) x253001_4 (rdOf ByteArray.empty y255 t258) y290) = some r := by first | (rw [hy290]; with_reducible exact H) | (have H2_ := (Option.bind_some _ _).symm.trans H; rw [hy290]; with_reducible exact H2_) | (have H2_ := (Option.bind_some _ _).symm.trans H; with_reducible exact H2_) | with_reducible exact H | (rw [hy290]; exact H) | exact H
                                            have Ny290 := Aside0.mk hy290
                                            clear hy290
                                            have H' := Aside0.mk H
                                            clear H
                                            obtain ⟨Ao76, co76, eo76⟩ := Kd.R_slice HO_7.out
                                            subst eo76
                                            have p288 : 0 ≤ ((ji70) : Int) := of_decide_eq_true (by first | (with_reducible assumption) | assumption)
                                            have q288 : (ji70) < (x7_4.length : Int) := of_decide_eq_true (by first | (with_reducible assumption) | assumption)
                                            obtain ⟨ad288, e288, hx288_0⟩ := Kd.at_string (Kd.R_reads' HO_7.out).2.2 (ji70) p288 q288
                                            cases e288
                                            replace p288 := eq_true p288
                                            replace q288 := eq_true q288
                                            have p74 : 0 ≤ ((ji70) : Int) := of_decide_eq_true (by first | (with_reducible assumption) | assumption)
                                            have q74 : ((ji70) : Int) < ((x7_4.length : Int) : Int) := of_decide_eq_true (by first | (with_reducible assumption) | assumption)
                                            obtain ⟨go74, co74, eo74, gb74, gl74, cl74, HG74⟩ := Kd.R_form HO_7.out (by omega)
                                            (first | cases eo74 | (injection eo74 with ea_ en_ ec_; (first | subst ea_ | (injection ea_ with ea_; subst ea_)); subst ec_; clear en_))
                                            have GB74 := Aside0.mk gb74
                                            have GG74 := Aside0.mk HG74
                                            clear gb74 gl74 HG74
                                            (first | simp only [add_plain] at hx288_0 | skip)
                                            obtain ⟨hx74_0, hf74_0⟩ := Kd.R_celln (⟨#[]⟩ : ByteArray) HO_7.out ((ji70) : Int) p74 q74
                                            replace p74 := eq_true p74
                                            replace q74 := eq_true q74
                                            have HP77 := Kd.R_putg HO_7.out ((ji70) : Int) (⟨#[121]⟩ : ByteArray)
                                            go_wp2_with (first | ((with_reducible refine gate_store (t := 9) (p := 67) rfl ?_); refine store_event (t := 9) (p := 67) (v := ?vo_w78) (w1 := (wc.setCell ⟨go74, ((ji70) : Int).toNat, none⟩ (.string (⟨#[121]⟩ : ByteArray)))) ?hg ?ho ?hn ?hr ?_; (case ho => rfl); (case hg => rfl); (case hn => rfl); (case hr => first | (go_simp; done) | (go_simp; rfl)); intro w78 hw; have hg : wc.grownBy w78 (some go74) := (by rw [hw]; exact HP77.2); have hp_ : Kd.R Kd.string 9 w78 w.heap.size (fun _ => True) (.slice (some ⟨go74, 0, none⟩) x7_4.length co76) y289 := (by rw [hw, Ny289.out]; exact HP77.1); clear HP77; have n0_ := Aside0.mk (Kd.R_after (v := (.slice (some ⟨go74, 0, none⟩) x7_4.length co76)) (v1 := (.slice (some ⟨go74, 0, none⟩) x7_4.length co76)) (ok := (fun k_ => some k_ ≠ (u262001 : Value).ownBlock ∧ k_ ≠ gb261)) (by (with_reducible repeat (first | apply Kd.R_alloc | apply Kd.R_drewN | apply Kd.R_drew)); exact Kd.R_mono HO_4.out (fun _ hk => ⟨⟨hk.2.1, hk.2.2⟩, hk.1⟩)) hg (.inl rfl)); have n1_ := Aside0.mk (hp_); have n2_ := Aside0.mk (Kd.S_after (v := (.slice (some ⟨go74, 0, none⟩) x7_4.length co76)) (v1 := (.slice (some ⟨go74, 0, none⟩) x7_4.length co76)) (ok := (fun _ => True)) (by (with_reducible repeat (first | apply Kd.S_alloc | apply Kd.S_drewN | apply Kd.S_drew)); exact Kd.S_mono HO_262001.out (fun _ hk => ⟨trivial, hk⟩)) hg (.inl rfl)); have n3_ := Aside0.mk (blk_grown (g := gb261) (o := .cells #[.string (rdOf ByteArray.empty y255 t258), u262001] 24 (0, 0)) (by (with_reducible repeat (first | refine blk_drewN ?_ _ | refine blk_drew ?_ | refine blk_alloc ?_ _)); exact BK261.out) hg (Kd.R_ne HO_7.out BK261.out (by decide))); have n4_ := Aside0.mk (IsS52.grown (by repeat (first | (with_reducible first | exact HI252.out | apply IsS52.alloc | apply IsS52.drewN | apply IsS52.drew | apply IsS52.set_1 | refine IsS52.far ?_ NB252_261.out _) | exact HI252.out)) hg (IsS52.own_ne HI252.out HO_7.out (by decide))); have n5_ := Aside0.mk ((by rw [hw]; exact below_set (HB.out) GB74.out : Below w.heap.size w w78)); clear HO_4; clear HO_7; clear HO_262001; clear BK261; clear HI252; clear HB; have HO_4 := n0_; have HO_7 := n1_; have HO_262001 := n2_; have BK261 := n3_; have HI252 := n4_; have HB := n5_; clear n0_ n1_ n2_ n3_ n4_ n5_; clear hg hw hp_; have hnb79 := NB261_252.out; have hnc79 := NB252_261.out; have hcz80_0 : w78.cell? ⟨gb261, 0, none⟩ = some (.string (rdOf ByteArray.empty y255 t258)) := (blk_cell BK261.out 0).trans rfl; have hcz80_1 : w78.cell? ⟨gb261, 1, none⟩ = some (u262001) := (blk_cell BK261.out 1).trans rfl; have hfz80_0 := blk_frozen BK261.out 0; have hfz80_1 := blk_frozen BK261.out 1) | ((with_reducible refine gate_builtin (b := .append) (xs := #[.tmp 69, .tmp 71]) rfl ?_); (try (refine gate_guard (by rfl) ?_; dsimp only)); at_builtin; refine Kd.S_append (Kd.slice 9 Kd.string) (w0 := w) w.heap.size rfl (.tmp 69) (.tmp 71) 22 48 (.slice none 0 0) 24 rfl Try.underlying22 info48 rfl (by decide) (by omega) u262001 x262001_3 y289 [.slice (some ⟨go74, 0, none⟩) x7_4.length co76] (fun _ => True) (fun k_ => some k_ = (.slice (some ⟨go74, 0, none⟩) x7_4.length co76 : Value).ownBlock) rfl rfl ?aP (fun k_ hk_ => ((Kd.R_mono (ok' := fun k_ => ((fun _ => True)) k_ ∧ some k_ ≠ (u262001 : Value).ownBlock) (Kd.R_apart' (HO_7.out) (Kd.S_typed HO_262001.out) (by decide)) (fun k_ hk => ⟨trivial, hk.2⟩))).1 k_ hk_.symm) ?aF ?aO ?aB ?aS ?aL ?_; (case aP => exact Kd.M_row (Kd.R_mono (Kd.R_tight rfl (Kd.R_mono (ok' := fun k_ => ((fun _ => True)) k_ ∧ some k_ ≠ (u262001 : Value).ownBlock) (Kd.R_apart' (HO_7.out) (Kd.S_typed HO_262001.out) (by decide)) (fun k_ hk => ⟨trivial, hk.2⟩))) (fun _ h_ => h_))); (case aB => exact (by repeat (first | (with_reducible first | exact HB.out | apply below_alloc | apply pw_below_drewN | apply below_drew1 | refine below_set ?_ (IsS52.ge HI252.out) | refine below_set ?_ GE261.out) | exact HB.out))); (case aF => exact (fun _ _ => trivial)); (case aO => exact (by (with_reducible repeat (first | apply Kd.S_alloc | apply Kd.S_drewN | apply Kd.S_drew)); exact Kd.S_mono HO_262001.out (fun k_ hk => ⟨trivial, fun e_ => hk.2 e_⟩))); (case aS => exact (below_size (by repeat (first | (with_reducible first | exact HB.out | apply below_alloc | apply pw_below_drewN | apply below_drew1 | refine below_set ?_ (IsS52.ge HI252.out) | refine below_set ?_ GE261.out) | exact HB.out)))); (case aL => have := LMc75.out; omega); intro v291 w81 ho hb hg hat; rw [← Ny290.out] at ho; have n0_ := Aside0.mk (Kd.R_after (ok := (fun k_ => some k_ ≠ (.slice (some ⟨go74, 0, none⟩) x7_4.length co76 : Value).ownBlock ∧ k_ ≠ gb261)) (by (with_reducible repeat (first | apply Kd.R_alloc | apply Kd.R_drewN | apply Kd.R_drew)); exact Kd.R_mono HO_4.out (fun _ hk => ⟨⟨hk.2, hk.1.2⟩, hk.1.1⟩)) hg hat); have n1_ := Aside0.mk (blk_grown (g := gb261) (o := .cells #[.string (rdOf ByteArray.empty y255 t258), u262001] 24 (0, 0)) (by (with_reducible repeat (first | refine blk_drewN ?_ _ | refine blk_drew ?_ | refine blk_alloc ?_ _)); exact BK261.out) hg (Kd.S_ne HO_262001.out BK261.out (by decide))); have n2_ := Aside0.mk (IsS52.grown (by repeat (first | (with_reducible first | exact HI252.out | apply IsS52.alloc | apply IsS52.drewN | apply IsS52.drew | apply IsS52.set_1 | refine IsS52.far ?_ NB252_261.out _) | exact HI252.out)) hg (IsS52.own_neS HI252.out HO_262001.out (by decide))); have n3_ := Aside0.mk (hb); have n4_ := Aside0.mk (ho); clear HO_4; clear BK261; clear HI252; clear HB; clear HO_262001; clear HO_7; have HO_4 := n0_; have BK261 := n1_; have HI252 := n2_; have HB := n3_; have HO292 := n4_; clear n0_ n1_ n2_ n3_ n4_; clear ho hb hg hat; obtain ⟨Ao82, co82, eo82⟩ := Kd.S_slice HO292.out; subst eo82; have hcz83_0 : w81.cell? ⟨gb261, 0, none⟩ = some (.string (rdOf ByteArray.empty y255 t258)) := (blk_cell BK261.out 0).trans rfl; have hcz83_1 : w81.cell? ⟨gb261, 1, none⟩ = some (u262001) := (blk_cell BK261.out 1).trans rfl; have hfz83_0 := blk_frozen BK261.out 0; have hfz83_1 := blk_frozen BK261.out 1))
                                            go_roundg kj29
                                            case measure => have := HK1.out; have := HJ2.out; have := HK3.out; have := HK4.out; have := HJ29.out; omega
                                            case rel => exact ⟨(wrap64 (x6_3 - 1)), (x253001_4), (y290), (.slice Ao82 y290.length co82), (by first | rfl | (simp; done) | (simp [*]; done)), H', ⟨by have := HK1.out; have := HJ2.out; have := HK3.out; have := HK4.out; have := HJ29.out; omega⟩, ⟨by (with_reducible repeat (first | apply Kd.R_alloc | apply Kd.R_drewN | apply Kd.R_drew)); exact Kd.R_mono (Kd.R_far (p := ⟨gb261, 1, none⟩) (Kd.R_mono HO_4.out (fun k_ hk => (⟨hk, hk.1.2⟩ : _ ∧ k_ ≠ gb261))) (fun _ hk => hk.2) (.slice Ao82 y290.length co82)) (fun _ hk => ⟨hk.1.2, hk.1.1.2⟩)⟩, ⟨by (with_reducible repeat (first | apply Kd.S_alloc | apply Kd.S_drewN | apply Kd.S_drew)); exact Kd.S_mono (Kd.S_far (p := ⟨gb261, 1, none⟩) (Kd.S_types HO292.out BK261.out (by decide)) (fun _ hk => hk.2) (.slice Ao82 y290.length co82)) (fun _ hk => trivial)⟩, ⟨by (with_reducible repeat (first | refine blk_drewN ?_ _ | refine blk_drew ?_ | refine blk_alloc ?_ _)); refine blk_put (cs := #[.string (rdOf ByteArray.empty y255 t258), u262001]) ?_ 1 _ rfl; (with_reducible repeat (first | refine blk_drewN ?_ _ | refine blk_drew ?_ | refine blk_alloc ?_ _)); exact BK261.out⟩, ⟨by repeat (first | (with_reducible first | exact HI252.out | apply IsS52.alloc | apply IsS52.drewN | apply IsS52.drew | apply IsS52.set_1 | refine IsS52.far ?_ NB252_261.out _) | exact HI252.out)⟩, ⟨by repeat (first | (with_reducible first | exact HB.out | apply below_alloc | apply pw_below_drewN | apply below_drew1 | refine below_set ?_ (IsS52.ge HI252.out) | refine below_set ?_ GE261.out) | exact HB.out)⟩⟩
                                          · rw [if_neg c75] at H
                                            exact absurd H (by simp)
                                        · rw [if_neg c73] at H
                                          have c73b0 : ((rdOf ByteArray.empty x7_4 (ji70)).toList == ([] : List UInt8)) = false := beq_eq_false_iff_ne.mpr c73
                                          have c73b1 : ((rdOf ByteArray.empty x7_4 (ji70)).toList != ([] : List UInt8)) = true := bne_iff_ne.mpr c73
                                          by_cases c84 : x262001_3.length < 5864062014805
                                          · rw [if_pos c84] at H
                                            have LMc84 := Aside0.mk c84
                                            clear c84
                                            obtain ⟨y293, hy293⟩ : ∃ y_ : List (List ByteArray), y_ = (x262001_3 ++ [x7_4]) := ⟨_, rfl⟩
                                            replace H : (customsmade_Segments.l1 kj29 x4_1 (wrap64 (x6_3 - 1)) (l0.take 200) x253001_4 (rdOf ByteArray.empty y255 t258) y293) = some r := by first | (rw [hy293]; with_reducible exact H) | (have H2_ := (Option.bind_some _ _).symm.trans H; rw [hy293]; with_reducible exact H2_) | (have H2_ := (Option.bind_some _ _).symm.trans H; with_reducible exact H2_) | with_reducible exact H | (rw [hy293]; exact H) | exact H
                                            have Ny293 := Aside0.mk hy293
                                            clear hy293
                                            have H' := Aside0.mk H
                                            clear H
                                            obtain ⟨Ao85, co85, eo85⟩ := Kd.R_slice HO_7.out
                                            subst eo85
                                            have p288 : 0 ≤ ((ji70) : Int) := of_decide_eq_true (by first | (with_reducible assumption) | assumption)
                                            have q288 : (ji70) < (x7_4.length : Int) := of_decide_eq_true (by first | (with_reducible assumption) | assumption)
                                            obtain ⟨ad288, e288, hx288_0⟩ := Kd.at_string (Kd.R_reads' HO_7.out).2.2 (ji70) p288 q288
                                            cases e288
                                            replace p288 := eq_true p288
                                            replace q288 := eq_true q288
                                            have hnb86 := NB261_252.out
                                            have hnc86 := NB252_261.out
                                            have hcz87_0 : wc.cell? ⟨gb261, 0, none⟩ = some (.string (rdOf ByteArray.empty y255 t258)) := (blk_cell BK261.out 0).trans rfl
                                            have hcz87_1 : wc.cell? ⟨gb261, 1, none⟩ = some (u262001) := (blk_cell BK261.out 1).trans rfl
                                            have hfz87_0 := blk_frozen BK261.out 0
                                            have hfz87_1 := blk_frozen BK261.out 1
                                            go_wp2_with (first | ((with_reducible refine gate_builtin (b := .append) (xs := #[.tmp 69, .tmp 71]) rfl ?_); (try (refine gate_guard (by rfl) ?_; dsimp only)); at_builtin; refine Kd.S_append (Kd.slice 9 Kd.string) (w0 := w) w.heap.size rfl (.tmp 69) (.tmp 71) 22 48 (.slice none 0 0) 24 rfl Try.underlying22 info48 rfl (by decide) (by omega) u262001 x262001_3 x7_4 [.slice (some ad288) x7_4.length co85] (fun _ => True) (fun k_ => some k_ = (.slice (some ad288) x7_4.length co85 : Value).ownBlock) rfl rfl ?aP (fun k_ hk_ => ((Kd.R_mono (ok' := fun k_ => ((fun _ => True)) k_ ∧ some k_ ≠ (u262001 : Value).ownBlock) (Kd.R_apart' (HO_7.out) (Kd.S_typed HO_262001.out) (by decide)) (fun k_ hk => ⟨trivial, hk.2⟩))).1 k_ hk_.symm) ?aF ?aO ?aB ?aS ?aL ?_; (case aP => exact Kd.M_row (Kd.R_mono (Kd.R_tight rfl (Kd.R_mono (ok' := fun k_ => ((fun _ => True)) k_ ∧ some k_ ≠ (u262001 : Value).ownBlock) (Kd.R_apart' (HO_7.out) (Kd.S_typed HO_262001.out) (by decide)) (fun k_ hk => ⟨trivial, hk.2⟩))) (fun _ h_ => h_))); (case aB => exact (by repeat (first | (with_reducible first | exact HB.out | apply below_alloc | apply pw_below_drewN | apply below_drew1 | refine below_set ?_ (IsS52.ge HI252.out) | refine below_set ?_ GE261.out) | exact HB.out))); (case aF => exact (fun _ _ => trivial)); (case aO => exact (by (with_reducible repeat (first | apply Kd.S_alloc | apply Kd.S_drewN | apply Kd.S_drew)); exact Kd.S_mono HO_262001.out (fun k_ hk => ⟨trivial, fun e_ => hk e_⟩))); (case aS => exact (below_size (by repeat (first | (with_reducible first | exact HB.out | apply below_alloc | apply pw_below_drewN | apply below_drew1 | refine below_set ?_ (IsS52.ge HI252.out) | refine below_set ?_ GE261.out) | exact HB.out)))); (case aL => have := LMc84.out; omega); intro v294 w88 ho hb hg hat; rw [← Ny293.out] at ho; have n0_ := Aside0.mk (Kd.R_after (ok := (fun k_ => some k_ ≠ (.slice (some ad288) x7_4.length co85 : Value).ownBlock ∧ k_ ≠ gb261)) (by (with_reducible repeat (first | apply Kd.R_alloc | apply Kd.R_drewN | apply Kd.R_drew)); exact Kd.R_mono HO_4.out (fun _ hk => ⟨⟨hk.1, hk.2.2⟩, hk.2.1⟩)) hg hat); have n1_ := Aside0.mk (blk_grown (g := gb261) (o := .cells #[.string (rdOf ByteArray.empty y255 t258), u262001] 24 (0, 0)) (by (with_reducible repeat (first | refine blk_drewN ?_ _ | refine blk_drew ?_ | refine blk_alloc ?_ _)); exact BK261.out) hg (Kd.S_ne HO_262001.out BK261.out (by decide))); have n2_ := Aside0.mk (IsS52.grown (by repeat (first | (with_reducible first | exact HI252.out | apply IsS52.alloc | apply IsS52.drewN | apply IsS52.drew | apply IsS52.set_1 | refine IsS52.far ?_ NB252_261.out _) | exact HI252.out)) hg (IsS52.own_neS HI252.out HO_262001.out (by decide))); have n3_ := Aside0.mk (hb); have n4_ := Aside0.mk (ho); clear HO_4; clear BK261; clear HI252; clear HB; clear HO_262001; clear HO_7; have HO_4 := n0_; have BK261 := n1_; have HI252 := n2_; have HB := n3_; have HO295 := n4_; clear n0_ n1_ n2_ n3_ n4_; clear ho hb hg hat; obtain ⟨Ao89, co89, eo89⟩ := Kd.S_slice HO295.out; subst eo89; have hcz90_0 : w88.cell? ⟨gb261, 0, none⟩ = some (.string (rdOf ByteArray.empty y255 t258)) := (blk_cell BK261.out 0).trans rfl; have hcz90_1 : w88.cell? ⟨gb261, 1, none⟩ = some (u262001) := (blk_cell BK261.out 1).trans rfl; have hfz90_0 := blk_frozen BK261.out 0; have hfz90_1 := blk_frozen BK261.out 1))
                                            go_roundg kj29
                                            case measure => have := HK1.out; have := HJ2.out; have := HK3.out; have := HK4.out; have := HJ29.out; omega
                                            case rel => exact ⟨(wrap64 (x6_3 - 1)), (x253001_4), (y293), (.slice Ao89 y293.length co89), (by first | rfl | (simp; done) | (simp [*]; done)), H', ⟨by have := HK1.out; have := HJ2.out; have := HK3.out; have := HK4.out; have := HJ29.out; omega⟩, ⟨by (with_reducible repeat (first | apply Kd.R_alloc | apply Kd.R_drewN | apply Kd.R_drew)); exact Kd.R_mono (Kd.R_far (p := ⟨gb261, 1, none⟩) (Kd.R_mono HO_4.out (fun k_ hk => (⟨hk, hk.1.2⟩ : _ ∧ k_ ≠ gb261))) (fun _ hk => hk.2) (.slice Ao89 y293.length co89)) (fun _ hk => ⟨hk.1.2, hk.1.1.2⟩)⟩, ⟨by (with_reducible repeat (first | apply Kd.S_alloc | apply Kd.S_drewN | apply Kd.S_drew)); exact Kd.S_mono (Kd.S_far (p := ⟨gb261, 1, none⟩) (Kd.S_types HO295.out BK261.out (by decide)) (fun _ hk => hk.2) (.slice Ao89 y293.length co89)) (fun _ hk => trivial)⟩, ⟨by (with_reducible repeat (first | refine blk_drewN ?_ _ | refine blk_drew ?_ | refine blk_alloc ?_ _)); refine blk_put (cs := #[.string (rdOf ByteArray.empty y255 t258), u262001]) ?_ 1 _ rfl; (with_reducible repeat (first | refine blk_drewN ?_ _ | refine blk_drew ?_ | refine blk_alloc ?_ _)); exact BK261.out⟩, ⟨by repeat (first | (with_reducible first | exact HI252.out | apply IsS52.alloc | apply IsS52.drewN | apply IsS52.drew | apply IsS52.set_1 | refine IsS52.far ?_ NB252_261.out _) | exact HI252.out)⟩, ⟨by repeat (first | (with_reducible first | exact HB.out | apply below_alloc | apply pw_below_drewN | apply below_drew1 | refine below_set ?_ (IsS52.ge HI252.out) | refine below_set ?_ GE261.out) | exact HB.out)⟩⟩
                                          · rw [if_neg c84] at H
                                            exact absurd H (by simp)
                                      · rw [if_neg c72] at H
                                        exact absurd H (by simp)
                                    · rw [if_neg c71] at H
                                      exact absurd H (by simp)
                                  · rw [if_neg c69] at H
                                    have c69b0 : decide (0 < (x7_4.length : Int)) = false := decide_eq_false c69
                                    have c69b1 : decide (0 < x7_4.length) = false := decide_eq_false (by omega)
                                    clear c69
                                    by_cases c91 : x262001_3.length < 5864062014805
                                    · rw [if_pos c91] at H
                                      have LMc91 := Aside0.mk c91
                                      clear c91
                                      obtain ⟨y296, hy296⟩ : ∃ y_ : List (List ByteArray), y_ = (x262001_3 ++ [x7_4]) := ⟨_, rfl⟩
                                      replace H : (customsmade_Segments.l1 kj29 x4_1 (wrap64 (x6_3 - 1)) (l0.take 200) x253001_4 (rdOf ByteArray.empty y255 t258) y296) = some r := by first | (rw [hy296]; with_reducible exact H) | (have H2_ := (Option.bind_some _ _).symm.trans H; rw [hy296]; with_reducible exact H2_) | (have H2_ := (Option.bind_some _ _).symm.trans H; with_reducible exact H2_) | with_reducible exact H | (rw [hy296]; exact H) | exact H
                                      have Ny296 := Aside0.mk hy296
                                      clear hy296
                                      have H' := Aside0.mk H
                                      clear H
                                      obtain ⟨Ao92, co92, eo92⟩ := Kd.R_slice HO_7.out
                                      subst eo92
                                      have hnb93 := NB261_252.out
                                      have hnc93 := NB252_261.out
                                      have hcz94_0 : wc.cell? ⟨gb261, 0, none⟩ = some (.string (rdOf ByteArray.empty y255 t258)) := (blk_cell BK261.out 0).trans rfl
                                      have hcz94_1 : wc.cell? ⟨gb261, 1, none⟩ = some (u262001) := (blk_cell BK261.out 1).trans rfl
                                      have hfz94_0 := blk_frozen BK261.out 0
                                      have hfz94_1 := blk_frozen BK261.out 1
                                      go_wp2_with (first | ((with_reducible refine gate_builtin (b := .append) (xs := #[.tmp 69, .tmp 71]) rfl ?_); (try (refine gate_guard (by rfl) ?_; dsimp only)); at_builtin; refine Kd.S_append (Kd.slice 9 Kd.string) (w0 := w) w.heap.size rfl (.tmp 69) (.tmp 71) 22 48 (.slice none 0 0) 24 rfl Try.underlying22 info48 rfl (by decide) (by omega) u262001 x262001_3 x7_4 [.slice Ao92 x7_4.length co92] (fun _ => True) (fun k_ => some k_ = (.slice Ao92 x7_4.length co92 : Value).ownBlock) rfl rfl ?aP (fun k_ hk_ => ((Kd.R_mono (ok' := fun k_ => ((fun _ => True)) k_ ∧ some k_ ≠ (u262001 : Value).ownBlock) (Kd.R_apart' (HO_7.out) (Kd.S_typed HO_262001.out) (by decide)) (fun k_ hk => ⟨trivial, hk.2⟩))).1 k_ hk_.symm) ?aF ?aO ?aB ?aS ?aL ?_; (case aP => exact Kd.M_row (Kd.R_mono (Kd.R_tight rfl (Kd.R_mono (ok' := fun k_ => ((fun _ => True)) k_ ∧ some k_ ≠ (u262001 : Value).ownBlock) (Kd.R_apart' (HO_7.out) (Kd.S_typed HO_262001.out) (by decide)) (fun k_ hk => ⟨trivial, hk.2⟩))) (fun _ h_ => h_))); (case aB => exact (by repeat (first | (with_reducible first | exact HB.out | apply below_alloc | apply pw_below_drewN | apply below_drew1 | refine below_set ?_ (IsS52.ge HI252.out) | refine below_set ?_ GE261.out) | exact HB.out))); (case aF => exact (fun _ _ => trivial)); (case aO => exact (by (with_reducible repeat (first | apply Kd.S_alloc | apply Kd.S_drewN | apply Kd.S_drew)); exact Kd.S_mono HO_262001.out (fun k_ hk => ⟨trivial, fun e_ => hk e_⟩))); (case aS => exact (below_size (by repeat (first | (with_reducible first | exact HB.out | apply below_alloc | apply pw_below_drewN | apply below_drew1 | refine below_set ?_ (IsS52.ge HI252.out) | refine below_set ?_ GE261.out) | exact HB.out)))); (case aL => have := LMc91.out; omega); intro v297 w95 ho hb hg hat; rw [← Ny296.out] at ho; have n0_ := Aside0.mk (Kd.R_after (ok := (fun k_ => some k_ ≠ (.slice Ao92 x7_4.length co92 : Value).ownBlock ∧ k_ ≠ gb261)) (by (with_reducible repeat (first | apply Kd.R_alloc | apply Kd.R_drewN | apply Kd.R_drew)); exact Kd.R_mono HO_4.out (fun _ hk => ⟨⟨hk.1, hk.2.2⟩, hk.2.1⟩)) hg hat); have n1_ := Aside0.mk (blk_grown (g := gb261) (o := .cells #[.string (rdOf ByteArray.empty y255 t258), u262001] 24 (0, 0)) (by (with_reducible repeat (first | refine blk_drewN ?_ _ | refine blk_drew ?_ | refine blk_alloc ?_ _)); exact BK261.out) hg (Kd.S_ne HO_262001.out BK261.out (by decide))); have n2_ := Aside0.mk (IsS52.grown (by repeat (first | (with_reducible first | exact HI252.out | apply IsS52.alloc | apply IsS52.drewN | apply IsS52.drew | apply IsS52.set_1 | refine IsS52.far ?_ NB252_261.out _) | exact HI252.out)) hg (IsS52.own_neS HI252.out HO_262001.out (by decide))); have n3_ := Aside0.mk (hb); have n4_ := Aside0.mk (ho); clear HO_4; clear BK261; clear HI252; clear HB; clear HO_262001; clear HO_7; have HO_4 := n0_; have BK261 := n1_; have HI252 := n2_; have HB := n3_; have HO298 := n4_; clear n0_ n1_ n2_ n3_ n4_; clear ho hb hg hat; obtain ⟨Ao96, co96, eo96⟩ := Kd.S_slice HO298.out; subst eo96; have hcz97_0 : w95.cell? ⟨gb261, 0, none⟩ = some (.string (rdOf ByteArray.empty y255 t258)) := (blk_cell BK261.out 0).trans rfl; have hcz97_1 : w95.cell? ⟨gb261, 1, none⟩ = some (u262001) := (blk_cell BK261.out 1).trans rfl; have hfz97_0 := blk_frozen BK261.out 0; have hfz97_1 := blk_frozen BK261.out 1))
                                      go_roundg kj29
                                      case measure => have := HK1.out; have := HJ2.out; have := HK3.out; have := HK4.out; have := HJ29.out; omega
                                      case rel => exact ⟨(wrap64 (x6_3 - 1)), (x253001_4), (y296), (.slice Ao96 y296.length co96), (by first | rfl | (simp; done) | (simp [*]; done)), H', ⟨by have := HK1.out; have := HJ2.out; have := HK3.out; have := HK4.out; have := HJ29.out; omega⟩, ⟨by (with_reducible repeat (first | apply Kd.R_alloc | apply Kd.R_drewN | apply Kd.R_drew)); exact Kd.R_mono (Kd.R_far (p := ⟨gb261, 1, none⟩) (Kd.R_mono HO_4.out (fun k_ hk => (⟨hk, hk.1.2⟩ : _ ∧ k_ ≠ gb261))) (fun _ hk => hk.2) (.slice Ao96 y296.length co96)) (fun _ hk => ⟨hk.1.2, hk.1.1.2⟩)⟩, ⟨by (with_reducible repeat (first | apply Kd.S_alloc | apply Kd.S_drewN | apply Kd.S_drew)); exact Kd.S_mono (Kd.S_far (p := ⟨gb261, 1, none⟩) (Kd.S_types HO298.out BK261.out (by decide)) (fun _ hk => hk.2) (.slice Ao96 y296.length co96)) (fun _ hk => trivial)⟩, ⟨by (with_reducible repeat (first | refine blk_drewN ?_ _ | refine blk_drew ?_ | refine blk_alloc ?_ _)); refine blk_put (cs := #[.string (rdOf ByteArray.empty y255 t258), u262001]) ?_ 1 _ rfl; (with_reducible repeat (first | refine blk_drewN ?_ _ | refine blk_drew ?_ | refine blk_alloc ?_ _)); exact BK261.out⟩, ⟨by repeat (first | (with_reducible first | exact HI252.out | apply IsS52.alloc | apply IsS52.drewN | apply IsS52.drew | apply IsS52.set_1 | refine IsS52.far ?_ NB252_261.out _) | exact HI252.out)⟩, ⟨by repeat (first | (with_reducible first | exact HB.out | apply below_alloc | apply pw_below_drewN | apply below_drew1 | refine below_set ?_ (IsS52.ge HI252.out) | refine below_set ?_ GE261.out) | exact HB.out)⟩⟩
                                    · rw [if_neg c91] at H
                                      exact absurd H (by simp)
                    · rw [if_neg c22] at H
                      have c22b0 : decide (0 < x6_3) = false := decide_eq_false c22
                      clear c22
                      by_cases c98 : x4_1.length < 3518437208883
                      · rw [if_pos c98] at H
                        have LMc98 := Aside0.mk c98
                        clear c98
                        obtain ⟨y264, hy264⟩ : ∃ y_ : List (S24), y_ = (x4_1 ++ [(⟨(rdOf ByteArray.empty y255 t258), x262001_3⟩ : S24)]) := ⟨_, rfl⟩
                        replace H : (customsmade_Segments.l0 k3 y264 (l0.take 200) x253001_3) = some r := by first | (rw [hy264]; with_reducible exact H) | (have H2_ := (Option.bind_some _ _).symm.trans H; rw [hy264]; with_reducible exact H2_) | (have H2_ := (Option.bind_some _ _).symm.trans H; with_reducible exact H2_) | with_reducible exact H | (rw [hy264]; exact H) | exact H
                        have Ny264 := Aside0.mk hy264
                        clear hy264
                        have H' := Aside0.mk H
                        clear H
                        have hnb99 := NB261_252.out
                        have hnc99 := NB252_261.out
                        have hcz100_0 : wr.cell? ⟨gb261, 0, none⟩ = some (.string (rdOf ByteArray.empty y255 t258)) := (blk_cell BK261.out 0).trans rfl
                        have hcz100_1 : wr.cell? ⟨gb261, 1, none⟩ = some (u262001) := (blk_cell BK261.out 1).trans rfl
                        have hfz100_0 := blk_frozen BK261.out 0
                        have hfz100_1 := blk_frozen BK261.out 1
                        obtain ⟨Ao102, co102, eo102⟩ := Kd.S_slice HO_262001.out
                        subst eo102
                        go_wp2_with (first | ((with_reducible refine gate_builtin (b := .append) (xs := #[.tmp 74, .tmp 76]) rfl ?_); (try (refine gate_guard (by rfl) ?_; dsimp only)); at_builtin; refine Kd.R_append k24 (w0 := w) w.heap.size rfl (.tmp 74) (.tmp 76) 30 24 (.agg #[(.string ⟨#[]⟩), (.slice none 0 0)]) 40 rfl Try.underlying30 info24 rfl (by decide) (by omega) u4 x4_1 (⟨(rdOf ByteArray.empty y255 t258), x262001_3⟩ : S24) [.string (rdOf ByteArray.empty y255 t258), .slice Ao102 x262001_3.length co102] (fun k_ => k_ ≠ gb261) (fun k_ => ((fun k_ => k_ ≠ gb261)) k_ ∧ some k_ ≠ (u4 : Value).ownBlock) rfl rfl ?aP (fun _ hk => hk) ?aF ?aO ?aB ?aS ?aL ?_; (case aP => exact k24_mkM _ _ _ (⟨(rdOf ByteArray.empty y255 t258), x262001_3⟩ : S24) (Kd.R_mono (Kd.R_types (Kd.R_apart' ((Kd.S_R HO_262001.out)) (Kd.R_typed HO_4.out) (by decide)) BK261.out (by decide)) (fun k_ hk => ⟨hk.2, hk.1.2⟩))); (case aB => exact (by repeat (first | (with_reducible first | exact HB.out | apply below_alloc | apply pw_below_drewN | apply below_drew1 | refine below_set ?_ (IsS52.ge HI252.out) | refine below_set ?_ GE261.out) | exact HB.out))); (case aF => exact (fun k_ hk => Kd.freshB (g := gb261) (o := .cells #[.string (rdOf ByteArray.empty y255 t258), .slice Ao102 x262001_3.length co102] 24 (0, 0)) (by (with_reducible repeat (first | refine blk_drewN ?_ _ | refine blk_drew ?_ | refine blk_alloc ?_ _)); exact BK261.out) k_ hk)); (case aO => exact (by (with_reducible repeat (first | apply Kd.R_alloc | apply Kd.R_drewN | apply Kd.R_drew)); exact Kd.R_mono HO_4.out (fun _ hk => hk.2))); (case aS => exact (below_size (by repeat (first | (with_reducible first | exact HB.out | apply below_alloc | apply pw_below_drewN | apply below_drew1 | refine below_set ?_ (IsS52.ge HI252.out) | refine below_set ?_ GE261.out) | exact HB.out)))); (case aL => have := LMc98.out; omega); intro v265 w101 ho hb hg hat; rw [← Ny264.out] at ho; have n0_ := Aside0.mk (blk_grown (g := gb261) (o := .cells #[.string (rdOf ByteArray.empty y255 t258), .slice Ao102 x262001_3.length co102] 24 (0, 0)) (by (with_reducible repeat (first | refine blk_drewN ?_ _ | refine blk_drew ?_ | refine blk_alloc ?_ _)); exact BK261.out) hg (Kd.R_away HO_4.out (fun _ hk => hk.2))); have n1_ := Aside0.mk (IsS52.grown (by repeat (first | (with_reducible first | exact HI252.out | apply IsS52.alloc | apply IsS52.drewN | apply IsS52.drew | apply IsS52.set_1 | refine IsS52.far ?_ NB252_261.out _) | exact HI252.out)) hg (IsS52.own_ne HI252.out HO_4.out (by decide))); have n2_ := Aside0.mk (hb); have n3_ := Aside0.mk (ho); clear BK261; clear HI252; clear HB; clear HO_4; clear HO_262001; have BK261 := n0_; have HI252 := n1_; have HB := n2_; have HO266 := n3_; clear n0_ n1_ n2_ n3_; clear ho hb hg hat))
                        go_roundg k3
                        case measure => have := HK1.out; have := HJ2.out; have := HK3.out; omega
                        case rel => exact ⟨(y264), (x253001_3), H', ⟨by have := HK1.out; have := HJ2.out; have := HK3.out; omega⟩, ⟨by (with_reducible repeat (first | apply Kd.R_alloc | apply Kd.R_drewN | apply Kd.R_drew)); exact Kd.R_mono HO266.out (fun _ hk => trivial)⟩, ⟨by repeat (first | (with_reducible first | exact HI252.out | apply IsS52.alloc | apply IsS52.drewN | apply IsS52.drew | apply IsS52.set_1 | refine IsS52.far ?_ NB252_261.out _) | exact HI252.out)⟩, ⟨by repeat (first | (with_reducible first | exact HB.out | apply below_alloc | apply pw_below_drewN | apply below_drew1 | refine below_set ?_ (IsS52.ge HI252.out) | refine below_set ?_ GE261.out) | exact HB.out)⟩⟩
                      · rw [if_neg c98] at H
                        exact absurd H (by simp)
              · rw [if_neg c12] at H
                exact absurd H (by simp)
            · rw [if_neg c11] at H
              exact absurd H (by simp)
          · replace c9 := Bool.eq_false_iff.mpr c9
            subst c9
            have H1 : (some x4_1) = some r := by rw [if_neg (show ¬ (false = true) by decide)] at H; exact H
            clear H
            have H := H1
            clear H1
            obtain rfl := Option.some.inj H
            go_wp2
            go_ret
            exact ⟨_, by first | rfl | (simp [errW_none, errW_some] <;> rfl) | (simp [*, errW_none, errW_some] <;> rfl), by (with_reducible repeat (first | apply Kd.R_alloc | apply Kd.R_drewN | apply Kd.R_drew)); exact HO_4.out, by repeat (first | (with_reducible first | exact HB.out | apply below_alloc | apply pw_below_drewN | apply below_drew1 | refine below_set ?_ (IsS52.ge HI252.out)) | exact HB.out)⟩

end Go.Proofs.Ythdahpnjiighfaa.F
