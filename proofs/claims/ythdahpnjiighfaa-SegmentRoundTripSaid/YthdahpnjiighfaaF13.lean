-- printed by this session's own copy of a printing program, out of the translation
import Derived.Test.YthdahpnjiighfaaF0
import Derived.Test.YthdahpnjiighfaaF12
namespace Go.Proofs.Ythdahpnjiighfaa.F
open Go.RowKit Go.Proofs.YthdahpnjiighfaaW.PrintWords Go.Proofs.YthdahpnjiighfaaW.PrintLast Go.Proofs.YthdahpnjiighfaaW.PrintMore
attribute [local go_sem] max2_int min2_int max_two min_two max_three min_three max_four min_four   -- for this text's walks alone
set_option linter.unusedVariables false
set_option linter.unusedSimpArgs false

/-! ### customsmade_Within: function 15 -/
def customsmade_Within.f (a0 : Int) (a1 : Int) : Option (Int) := if a1 = 0 then (none) else (some (Int.tmod (wrap64 ((Int.tmod a0 a1) + a1)) a1))
set_option maxHeartbeats 8000000 in
set_option maxRecDepth 100000 in
theorem customsmade_Within.calls (a0 : Int) (a1 : Int) (r : Int) (w : World) (h : customsmade_Within.f a0 a1 = some r) :
    Calls Try.prog 15 #[.int .i64 a0, .int .i64 a1] w fun e w' => e = .returned (.int .i64 r) ∧ Drawn0 w w' := by
  have H : (if a1 = 0 then (none) else (some (Int.tmod (wrap64 ((Int.tmod a0 a1) + a1)) a1))) = some r := h
  clear h
  by_cases c3 : a1 = 0
  · rw [if_pos c3] at H
    exact absurd H (by simp)
  · rw [if_neg c3] at H
    have c3b0 : (a1 == 0) = false := beq_eq_false_iff_ne.mpr c3
    have c3b1 : (a1 != 0) = true := bne_iff_ne.mpr c3
    obtain rfl := Option.some.inj H
    go_enter Try.func15, Try.ntmps15
    go_wp2
    go_ret
    exact ⟨by first | rfl | (simp; done) | (simp [*]; done), by repeat (first | exact Drawn0.refl _ | apply Drawn0.step)⟩

/-! ### customsmade_Source_Next: function 25 -/
def customsmade_Source_Next.f (s0_0 : List Int) (s0_1 : Int) (a1 : Int) : Option (Int × Int) := if s0_1 ≥ (s0_0.length : Int) then (some (0, s0_1)) else (if 0 ≤ (wrap64 ((wrap64 (s0_1 + 1)) - 1)) then (if (wrap64 ((wrap64 (s0_1 + 1)) - 1)) < (s0_0.length : Int) then ((customsmade_Within.f (rd s0_0 (wrap64 ((wrap64 (s0_1 + 1)) - 1))) a1).bind fun t239 => (some (t239, wrap64 (s0_1 + 1)))) else (none)) else (none))
set_option maxHeartbeats 8000000 in
set_option maxRecDepth 100000 in
theorem customsmade_Source_Next.calls (g : Nat) (s0_0 : List Int) (s0_1 : Int) (a1 : Int) (r1 : Int) (r2 : Int) (w0 w : World) (hI : IsS52 w0 w g s0_0 s0_1) (hB : Below w0.heap.size w0 w) (h : customsmade_Source_Next.f s0_0 s0_1 a1 = some (r1, r2)) :
    Calls Try.prog 25 #[.pointer (some ⟨g, 0, none⟩), .int .i64 a1] w fun e w' => e = .returned (.int .i64 r1) ∧ IsS52 w0 w' g s0_0 r2 ∧ Below w0.heap.size w0 w' ∧ KeepBut w w' g none := by
  have HI0 := Aside0.mk hI
  have HK := Aside0.mk (KeepBut.refl w g none)
  have HL := Aside0.mk hB.size
  clear hI
  have HW0 := Aside0.mk hB.size
  have HB := Aside0.mk hB
  clear hB
  have H : (if s0_1 ≥ (s0_0.length : Int) then (some (0, s0_1)) else (if 0 ≤ (wrap64 ((wrap64 (s0_1 + 1)) - 1)) then (if (wrap64 ((wrap64 (s0_1 + 1)) - 1)) < (s0_0.length : Int) then ((customsmade_Within.f (rd s0_0 (wrap64 ((wrap64 (s0_1 + 1)) - 1))) a1).bind fun t239 => (some (t239, wrap64 (s0_1 + 1)))) else (none)) else (none))) = some (r1, r2) := h
  clear h
  by_cases c3 : s0_1 ≥ (s0_0.length : Int)
  · rw [if_pos c3] at H
    have c3b0 : decide ((s0_0.length : Int) ≤ s0_1) = true := decide_eq_true c3
    clear c3
    simp only [Option.some.injEq, Prod.mk.injEq] at H
    obtain ⟨rfl, rfl⟩ := H
    obtain ⟨ASz4_0, cSz4_0, HGz4, hgz4, HSz4_0⟩ := HI0.out
    have hcz4_0 := cellS52_0 HGz4
    have hcz4_1 := cellS52_1 HGz4
    have hfz4_1 := blk_frozen HGz4 1
    clear HGz4 hgz4
    go_enter Try.func25, Try.ntmps25
    go_wp2
    repeat (go_quiet (fail); try go_wp2)
    go_ret
    exact ⟨by first | rfl | (simp [errW_none, errW_some] <;> rfl) | (simp [*, errW_none, errW_some] <;> rfl), by repeat (first | (with_reducible first | exact HI0.out | apply IsS52.alloc | apply IsS52.drewN | apply IsS52.drew | apply IsS52.set_1) | exact HI0.out), by repeat (first | (with_reducible first | exact HB.out | apply below_alloc | apply pw_below_drewN | apply below_drew1 | refine below_set ?_ (IsS52.ge HI0.out)) | exact HB.out), by repeat (first | (with_reducible first | exact HK.out | apply KeepBut.set_ | apply keep_drewN | apply keep_drew | apply keep_alloc) | exact HK.out)⟩
  · rw [if_neg c3] at H
    have c3b0 : decide ((s0_0.length : Int) ≤ s0_1) = false := decide_eq_false c3
    clear c3
    obtain ⟨ji5, hji5⟩ : ∃ j_ : Int, (wrap64 ((wrap64 (s0_1 + 1)) - 1)) = j_ := ⟨_, rfl⟩
    replace H : (if 0 ≤ (ji5) then (if (ji5) < (s0_0.length : Int) then ((customsmade_Within.f (rd s0_0 (ji5)) a1).bind fun t239 => (some (t239, wrap64 (s0_1 + 1)))) else (none)) else (none)) = some (r1, r2) := by first | (rw [hji5] at H; exact H) | (simp only [hji5] at H ⊢; exact H)
    have hji5w : (IntKind.i64.wrap ((wrap64 (s0_1 + 1)) - 1)) = ji5 := (i64_w _).trans hji5
    by_cases c6 : 0 ≤ (ji5)
    · rw [if_pos c6] at H
      have c6b0 : decide (0 ≤ (ji5)) = true := decide_eq_true c6
      clear c6
      by_cases c7 : (ji5) < (s0_0.length : Int)
      · rw [if_pos c7] at H
        have c7b0 : decide ((ji5) < (s0_0.length : Int)) = true := decide_eq_true c7
        clear c7
        replace H := Option.bind_eq_some_iff.mp H
        obtain ⟨t239, A80, H⟩ := H
        replace H : (some (t239, wrap64 (s0_1 + 1))) = some (r1, r2) := H
        have A8 := Aside0.mk A80
        clear A80
        simp only [Option.some.injEq, Prod.mk.injEq] at H
        obtain ⟨rfl, rfl⟩ := H
        obtain ⟨ASz9_0, cSz9_0, HGz9, hgz9, HSz9_0⟩ := HI0.out
        have hcz9_0 := cellS52_0 HGz9
        have hcz9_1 := cellS52_1 HGz9
        have hfz9_1 := blk_frozen HGz9 1
        clear HGz9 hgz9
        have p238 : 0 ≤ ((ji5) : Int) := of_decide_eq_true (by first | (with_reducible assumption) | assumption)
        have q238 : (ji5) < (s0_0.length : Int) := of_decide_eq_true (by first | (with_reducible assumption) | assumption)
        obtain ⟨ad238, e238, hx238_0⟩ := Kd.at_int HSz9_0 (ji5) p238 q238
        cases e238
        have hn238_0 : ad238.block ≠ g := Nat.ne_of_lt (Nat.lt_of_lt_of_le (by have := World.block_lt_of_cell? _ _ hx238_0; first | rwa [add_block] at this | exact this) (IsS52.ge HI0.out))
        replace hx238_0 := pw_cell_below HB.out hx238_0
        replace hx238_0 := (cell_far (p := ⟨g, 1, none⟩) (by first | (rw [add_block]; exact hn238_0) | (show (Addr.add _ _).block ≠ _; rw [add_block]; exact hn238_0) | exact hn238_0) (.int .i64 (wrap64 (s0_1 + 1)))).trans hx238_0
        (try have hy238_0 := fun (n_ : Nat) => (show (((w.drewN n_).setCell ⟨g, 1, none⟩ (.int .i64 (wrap64 (s0_1 + 1))))).cell? _ = some _ from hx238_0))
        clear hn238_0
        replace p238 := eq_true p238
        replace q238 := eq_true q238
        go_enter Try.func25, Try.ntmps25
        go_wp2_with (fail)
        repeat (go_quiet (first | (go_at_call 15; (with_reducible refine (customsmade_Within.calls (rd s0_0 (ji5)) a1 t239 _ A8.out).mono ?_); rintro e w' ⟨rfl, ⟨nd, rfl⟩⟩; (try first | exact ⟨rfl, _, World.drewN_drewN _ _ _⟩ | exact ⟨rfl, _, Eq.trans (World.drewN_drewN _ _ _) (congrArg (World.drewN _) (Nat.add_assoc _ _ _))⟩))); try go_wp2_with (fail))
        go_ret
        exact ⟨by first | rfl | (simp [errW_none, errW_some] <;> rfl) | (simp only [← hji5]; first | rfl | (simp [errW_none, errW_some] <;> rfl)) | (simp [*, errW_none, errW_some] <;> rfl), by repeat (first | (with_reducible first | exact HI0.out | apply IsS52.alloc | apply IsS52.drewN | apply IsS52.drew | apply IsS52.set_1) | exact HI0.out), by repeat (first | (with_reducible first | exact HB.out | apply below_alloc | apply pw_below_drewN | apply below_drew1 | refine below_set ?_ (IsS52.ge HI0.out)) | exact HB.out), by repeat (first | (with_reducible first | exact HK.out | apply KeepBut.set_ | apply keep_drewN | apply keep_drew | apply keep_alloc) | exact HK.out)⟩
      · rw [if_neg c7] at H
        exact absurd H (by simp)
    · rw [if_neg c6] at H
      exact absurd H (by simp)

/-! ### customsmade_Source_text: function 26 -/
def customsmade_Source_text.l0 : Nat → List Int → Int → List Int → Int → Option (ByteArray × Int)
  | 0, _, _, _, _ => none
  | k + 1, x3, x4, x1000, x1001 => if x4 < (x3.length : Int) then ((customsmade_Source_Next.f x1000 x1001 8).bind fun bt245 => (if 0 ≤ bt245.1 then (if bt245.1 < 8 then (if 0 ≤ x4 then ((some (x3.set (x4 : Int).toNat (bt (⟨#[43, 58, 63, 39, 43, 58, 63, 39]⟩ : ByteArray) bt245.1) : List Int)).bind fun y247 => ((customsmade_Source_Next.f x1000 bt245.2 512).bind fun bt248 => (if bt248.1 < 256 then (customsmade_Source_text.l0 k (y247.set (x4 : Int).toNat ((bt248.1) % 256)) (wrap64 (x4 + 1)) x1000 bt248.2) else (customsmade_Source_text.l0 k y247 (wrap64 (x4 + 1)) x1000 bt248.2)))) else (none)) else (none)) else (none))) else (some (strOfNums x3, x1001))
def customsmade_Source_text.f (k : Nat) (s0_0 : List Int) (s0_1 : Int) : Option (ByteArray × Int) := (customsmade_Source_Next.f s0_0 s0_1 5).bind fun bt240 => (if 0 ≤ bt240.1 then (if (bt240.1 : Int).toNat ≤ 281474976710656 then (customsmade_Source_text.l0 k (List.replicate (bt240.1 : Int).toNat 0) 0 s0_0 bt240.2) else (none)) else (none))
theorem customsmade_Source_text.mono_l : ∀ k, (∀ y0 y1 y2 y3, LeO (customsmade_Source_text.l0 k y0 y1 y2 y3) (customsmade_Source_text.l0 (k + 1) y0 y1 y2 y3))
  | 0 => fun _ _ _ _ r h => by simp [customsmade_Source_text.l0] at h
  | k + 1 => by
    have ih0 := customsmade_Source_text.mono_l k
    · intro y0 y1 y2 y3
      unfold customsmade_Source_text.l0
      repeat' first
      | (with_reducible exact ih0 _ _ _ _)
      | (with_reducible exact LeO.refl _)
      | (with_reducible exact LeO.none _)
      | (with_reducible refine LeO.ite ?_ ?_)
      | (with_reducible refine LeO.bind ?_ (fun _ => ?_))
      | exact ih0 _ _ _ _
      | exact LeO.none _
      | refine LeO.ite ?_ ?_
      | refine LeO.bind ?_ (fun _ => ?_)
theorem customsmade_Source_text.mono : ∀ a0 a1 k, LeO (customsmade_Source_text.f k a0 a1) (customsmade_Source_text.f (k + 1) a0 a1) := by
  intro a0 a1 k
  have ih0 := customsmade_Source_text.mono_l k
  unfold customsmade_Source_text.f
  repeat' first
      | (with_reducible exact ih0 _ _ _ _)
      | (with_reducible exact LeO.refl _)
      | (with_reducible exact LeO.none _)
      | (with_reducible refine LeO.ite ?_ ?_)
      | (with_reducible refine LeO.bind ?_ (fun _ => ?_))
      | exact ih0 _ _ _ _
      | exact LeO.none _
      | refine LeO.ite ?_ ?_
      | refine LeO.bind ?_ (fun _ => ?_)
set_option maxHeartbeats 8000000 in
set_option maxRecDepth 100000 in
theorem customsmade_Source_text.calls (k : Nat) (g : Nat) (s0_0 : List Int) (s0_1 : Int) (r1 : ByteArray) (r2 : Int) (w0 w : World) (hI : IsS52 w0 w g s0_0 s0_1) (hB : Below w0.heap.size w0 w) (h : customsmade_Source_text.f k s0_0 s0_1 = some (r1, r2)) :
    Calls Try.prog 26 #[.pointer (some ⟨g, 0, none⟩)] w fun e w' => e = .returned (.string r1) ∧ IsS52 w0 w' g s0_0 r2 ∧ Below w0.heap.size w0 w' ∧ KeepBut w w' g none := by
  have HI0 := Aside0.mk hI
  have HK := Aside0.mk (KeepBut.refl w g none)
  have HL := Aside0.mk hB.size
  clear hI
  have HW0 := Aside0.mk hB.size
  have HB := Aside0.mk hB
  clear hB
  have H : ((customsmade_Source_Next.f s0_0 s0_1 5).bind fun bt240 => (if 0 ≤ bt240.1 then (if (bt240.1 : Int).toNat ≤ 281474976710656 then (customsmade_Source_text.l0 k (List.replicate (bt240.1 : Int).toNat 0) 0 s0_0 bt240.2) else (none)) else (none))) = some (r1, r2) := h
  clear h
  replace H := Option.bind_eq_some_iff.mp H
  obtain ⟨⟨t240, t241⟩, A20, H⟩ := H
  replace H : (if 0 ≤ t240 then (if (t240 : Int).toNat ≤ 281474976710656 then (customsmade_Source_text.l0 k (List.replicate (t240 : Int).toNat 0) 0 s0_0 t241) else (none)) else (none)) = some (r1, r2) := H
  have A2 := Aside0.mk A20
  clear A20
  by_cases c3 : 0 ≤ t240
  · rw [if_pos c3] at H
    have c3b0 := eq_true c3
    have c3b1 : decide (0 ≤ t240) = true := decide_eq_true c3
    clear c3
    by_cases c4 : (t240 : Int).toNat ≤ 281474976710656
    · rw [if_pos c4] at H
      have c4b0 := eq_true c4
      have c4b1 : decide ((t240 : Int).toNat ≤ 281474976710656) = true := decide_eq_true c4
      clear c4
      obtain ⟨y242, hy242⟩ : ∃ y_ : List Int, y_ = (List.replicate (t240 : Int).toNat 0) := ⟨_, rfl⟩
      replace H : (customsmade_Source_text.l0 k y242 0 s0_0 t241) = some (r1, r2) := by first | (rw [hy242]; with_reducible exact H) | (have H2_ := (Option.bind_some _ _).symm.trans H; rw [hy242]; with_reducible exact H2_) | (have H2_ := (Option.bind_some _ _).symm.trans H; with_reducible exact H2_) | with_reducible exact H | (rw [hy242]; exact H) | exact H
      have Ny242 := Aside0.mk hy242
      clear hy242
      have H' := Aside0.mk H
      clear H
      go_enter Try.func26, Try.ntmps26
      go_wp2_with (first | ((with_reducible refine gate_callee (f := 25) rfl ?_); refine goesL_ (some 7) rfl rfl Try.func25 (by kernel_rfl) rfl #[.pointer (some ⟨g, 0, none⟩), .int .i64 5] rfl (by (try simp only [List.map_toArray, List.map_cons, List.map_nil]); first | done | rfl | (simp only [List.length_drop, List.length_take]; rfl)) ?_; (with_reducible refine (customsmade_Source_Next.calls g s0_0 s0_1 5 t240 t241 w0 _ ?side1 ?side2 A2.out).mono ?_); (case side1 => repeat (first | (with_reducible first | exact HI0.out | apply IsS52.alloc | apply IsS52.drewN | apply IsS52.drew | apply IsS52.set_1) | exact HI0.out)); (case side2 => repeat (first | (with_reducible first | exact HB.out | apply below_alloc | apply pw_below_drewN | apply below_drew1 | refine below_set ?_ (IsS52.ge HI0.out)) | exact HB.out)); rintro e w5 ⟨rfl, hi, hb, hk⟩; refine ⟨_, rfl, ?_⟩; have n0_ := Aside0.mk (KeepBut.trans (by repeat (first | (with_reducible first | exact HK.out | apply KeepBut.set_ | apply keep_drewN | apply keep_drew | apply keep_alloc) | exact HK.out)) hk (.inl rfl)); have n1_ := Aside0.mk (hb); have n2_ := Aside0.mk (hi); clear HK; clear HB; clear HI0; have HK := n0_; have HB := n1_; have HI0 := n2_; clear n0_ n1_ n2_; (try clear hb); (try clear hb2); (try clear hk); (try clear hi)) | ((with_reducible refine gate_dst (N := 8) rfl ?_); refine Kd.R_make (Kd.int .u8) _ 5 rfl (N := 8) rfl 32 _ _ rfl t240 rfl rfl Try.underlying32 (.int .u8 0) 1 info5 rfl (by decide) (by omega) 0 (ok := fun _ => True) (okp := fun _ => True) rfl (fun _ hk => hk) trivial (of_decide_eq_true (by first | (with_reducible assumption) | assumption)) (Nat.le_trans (Nat.mul_le_mul_right _ (of_decide_eq_true (by first | (with_reducible assumption) | assumption) : t240.toNat ≤ 281474976710656)) (by omega)) (Below.refl _ _) (Nat.le_refl _) ?_; intro v243 w6 ho7 hb hg_ hnew_; clear hg_ hnew_; (first | rw [← Ny242.out] at ho7 | (simp only [Int.reduceToNat] at ho7; rw [← Ny242.out] at ho7)); have n0_ := Aside0.mk (Kd.R_lower ho7 (keep_size (w := w) (g := g) (row := none) (by repeat (first | (with_reducible first | exact HK.out | apply KeepBut.set_ | apply keep_drewN | apply keep_drew | apply keep_alloc) | exact HK.out)))); have n1_ := Aside0.mk (IsS52.below (by repeat (first | (with_reducible first | exact HI0.out | apply IsS52.alloc | apply IsS52.drewN | apply IsS52.drew | apply IsS52.set_1) | exact HI0.out)) hb); have n2_ := Aside0.mk (KeepBut.trans (by repeat (first | (with_reducible first | exact HK.out | apply KeepBut.set_ | apply keep_drewN | apply keep_drew | apply keep_alloc) | exact HK.out)) (KeepBut.of_below hb g none) (.inl rfl)); have n3_ := Aside0.mk (below_step (by repeat (first | (with_reducible first | exact HB.out | apply below_alloc | apply pw_below_drewN | apply below_drew1 | refine below_set ?_ (IsS52.ge HI0.out)) | exact HB.out)) hb); clear HI0; clear HK; clear HB; have HO244 := n0_; have HI0 := n1_; have HK := n2_; have HB := n3_; clear n0_ n1_ n2_ n3_; clear hb ho7))
      go_loopg [4] k (fun kq v4 w' => ∃ (x3_1 : List Int) (x4_1 : Int) (x1001_1 : Int), v4 = .int .i64 x4_1 ∧ Aside0 (customsmade_Source_text.l0 kq x3_1 x4_1 s0_0 x1001_1 = some (r1, r2)) ∧ Aside0 (kq ≤ k) ∧ Aside0 (Kd.R (Kd.int .u8) 5 w' w.heap.size (fun _ => True) v243 x3_1) ∧ Aside0 (IsS52 w0 w' g s0_0 x1001_1) ∧ Aside0 (KeepBut w w' g none) ∧ Aside0 (Below w0.heap.size w0 w'))
      case atStart => exact ⟨(y242), (0), (t241), (by first | rfl | (simp; done) | (simp [*]; done)), H', ⟨Nat.le_refl _⟩, ⟨by (with_reducible repeat (first | apply Kd.R_alloc | apply Kd.R_drewN | apply Kd.R_drew)); exact HO244.out⟩, ⟨by repeat (first | (with_reducible first | exact HI0.out | apply IsS52.alloc | apply IsS52.drewN | apply IsS52.drew | apply IsS52.set_1) | exact HI0.out)⟩, ⟨by repeat (first | (with_reducible first | exact HK.out | apply KeepBut.set_ | apply keep_drewN | apply keep_drew | apply keep_alloc) | exact HK.out)⟩, ⟨by repeat (first | (with_reducible first | exact HB.out | apply below_alloc | apply pw_below_drewN | apply below_drew1 | refine below_set ?_ (IsS52.ge HI0.out)) | exact HB.out)⟩⟩
      case round =>
        clear H'
        try clear c2
        try clear p2
        try clear c3
        try clear c3b0
        try clear c3b1
        try clear c4
        try clear c4b0
        try clear c4b1
        obtain ⟨x3_1, x4_1, x1001_1, rfl, HA, HK1, HO_3, HI0, HK, HB⟩ := hrel
        cases gk with
        | zero => exact absurd HA.out (by simp [customsmade_Source_text.l0])
        | succ k1 =>
          have H := HA.out
          clear HA
          simp only [customsmade_Source_text.l0] at H
          by_cases c8 : x4_1 < (x3_1.length : Int)
          · rw [if_pos c8] at H
            have c8b0 : decide (x4_1 < (x3_1.length : Int)) = true := decide_eq_true c8
            clear c8
            replace H := Option.bind_eq_some_iff.mp H
            obtain ⟨⟨t245, t246⟩, A90, H⟩ := H
            replace H : (if 0 ≤ t245 then (if t245 < 8 then (if 0 ≤ x4_1 then ((some (x3_1.set (x4_1 : Int).toNat (bt (⟨#[43, 58, 63, 39, 43, 58, 63, 39]⟩ : ByteArray) t245) : List Int)).bind fun y247 => ((customsmade_Source_Next.f s0_0 t246 512).bind fun bt248 => (if bt248.1 < 256 then (customsmade_Source_text.l0 k1 (y247.set (x4_1 : Int).toNat ((bt248.1) % 256)) (wrap64 (x4_1 + 1)) s0_0 bt248.2) else (customsmade_Source_text.l0 k1 y247 (wrap64 (x4_1 + 1)) s0_0 bt248.2)))) else (none)) else (none)) else (none)) = some (r1, r2) := H
            have A9 := Aside0.mk A90
            clear A90
            by_cases c10 : 0 ≤ t245
            · rw [if_pos c10] at H
              have c10b0 : decide (0 ≤ t245) = true := decide_eq_true c10
              clear c10
              by_cases c11 : t245 < 8
              · rw [if_pos c11] at H
                have c11b0 : decide (t245 < 8) = true := decide_eq_true c11
                clear c11
                by_cases c13 : 0 ≤ x4_1
                · rw [if_pos c13] at H
                  have c13b0 : decide (0 ≤ x4_1) = true := decide_eq_true c13
                  clear c13
                  obtain ⟨y247, hy247⟩ : ∃ y_ : List Int, y_ = (x3_1.set (x4_1 : Int).toNat (bt (⟨#[43, 58, 63, 39, 43, 58, 63, 39]⟩ : ByteArray) t245)) := ⟨_, rfl⟩
                  replace H : ((customsmade_Source_Next.f s0_0 t246 512).bind fun bt248 => (if bt248.1 < 256 then (customsmade_Source_text.l0 k1 (y247.set (x4_1 : Int).toNat ((bt248.1) % 256)) (wrap64 (x4_1 + 1)) s0_0 bt248.2) else (customsmade_Source_text.l0 k1 y247 (wrap64 (x4_1 + 1)) s0_0 bt248.2))) = some (r1, r2) := by first | (rw [hy247]; with_reducible exact H) | (have H2_ := (Option.bind_some _ _).symm.trans H; rw [hy247]; with_reducible exact H2_) | (have H2_ := (Option.bind_some _ _).symm.trans H; with_reducible exact H2_) | with_reducible exact H | (rw [hy247]; exact H) | exact H
                  have Ny247 := Aside0.mk hy247
                  clear hy247
                  replace H := Option.bind_eq_some_iff.mp H
                  obtain ⟨⟨t248, t249⟩, A150, H⟩ := H
                  replace H : (if t248 < 256 then (customsmade_Source_text.l0 k1 (y247.set (x4_1 : Int).toNat ((t248) % 256)) (wrap64 (x4_1 + 1)) s0_0 t249) else (customsmade_Source_text.l0 k1 y247 (wrap64 (x4_1 + 1)) s0_0 t249)) = some (r1, r2) := H
                  have A15 := Aside0.mk A150
                  clear A150
                  by_cases c16 : t248 < 256
                  · rw [if_pos c16] at H
                    have c16b0 : decide (t248 < 256) = true := decide_eq_true c16
                    clear c16
                    obtain ⟨y250, hy250⟩ : ∃ y_ : List Int, y_ = (y247.set (x4_1 : Int).toNat ((t248) % 256)) := ⟨_, rfl⟩
                    replace H : (customsmade_Source_text.l0 k1 y250 (wrap64 (x4_1 + 1)) s0_0 t249) = some (r1, r2) := by first | (rw [hy250]; with_reducible exact H) | (have H2_ := (Option.bind_some _ _).symm.trans H; rw [hy250]; with_reducible exact H2_) | (have H2_ := (Option.bind_some _ _).symm.trans H; with_reducible exact H2_) | with_reducible exact H | (rw [hy250]; exact H) | exact H
                    have Ny250 := Aside0.mk hy250
                    clear hy250
                    have H' := Aside0.mk H
                    clear H
                    obtain ⟨Ao18, co18, eo18⟩ := Kd.R_slice HO_3.out
                    subst eo18
                    go_wp2_with (first | ((with_reducible refine gate_callee (f := 25) rfl ?_); refine goesL_ (some 18) rfl rfl Try.func25 (by kernel_rfl) rfl #[.pointer (some ⟨g, 0, none⟩), .int .i64 8] rfl (by (try simp only [List.map_toArray, List.map_cons, List.map_nil]); first | done | rfl | (simp only [List.length_drop, List.length_take]; rfl)) ?_; (with_reducible refine (customsmade_Source_Next.calls g s0_0 x1001_1 8 t245 t246 w0 _ ?side1 ?side2 A9.out).mono ?_); (case side1 => repeat (first | (with_reducible first | exact HI0.out | apply IsS52.alloc | apply IsS52.drewN | apply IsS52.drew | apply IsS52.set_1) | exact HI0.out)); (case side2 => repeat (first | (with_reducible first | exact HB.out | apply below_alloc | apply pw_below_drewN | apply below_drew1 | refine below_set ?_ (IsS52.ge HI0.out)) | exact HB.out)); rintro e w19 ⟨rfl, hi, hb, hk⟩; refine ⟨_, rfl, ?_⟩; have n0_ := Aside0.mk (Kd.R_mono (Kd.R_keep (IsS52.apart (show IsS52 w0 _ g s0_0 x1001_1 from by repeat (first | (with_reducible first | exact HI0.out | apply IsS52.alloc | apply IsS52.drewN | apply IsS52.drew | apply IsS52.set_1) | exact HI0.out)) (by (with_reducible repeat (first | apply Kd.R_alloc | apply Kd.R_drewN | apply Kd.R_drew)); exact HO_3.out) (by decide)) hk (fun _ h => h.2)) (fun _ h => h.1)); have n1_ := Aside0.mk (KeepBut.trans (by repeat (first | (with_reducible first | exact HK.out | apply KeepBut.set_ | apply keep_drewN | apply keep_drew | apply keep_alloc) | exact HK.out)) hk (.inl rfl)); have n2_ := Aside0.mk (hb); have n3_ := Aside0.mk (hi); clear HO_3; clear HK; clear HB; clear HI0; have HO_3 := n0_; have HK := n1_; have HB := n2_; have HI0 := n3_; clear n0_ n1_ n2_ n3_; (try clear hb); (try clear hb2); (try clear hk); (try clear hi); have p12 : 0 ≤ (t245 : Int) := of_decide_eq_true (by first | (with_reducible assumption) | assumption); have q12 : t245 < (8 : Int) := of_decide_eq_true (by first | (with_reducible assumption) | assumption); have hx12 := bt_at (⟨#[43, 58, 63, 39, 43, 58, 63, 39]⟩ : ByteArray) t245; replace p12 := eq_true p12; replace q12 := eq_true q12; have p14 : 0 ≤ (x4_1 : Int) := of_decide_eq_true (by first | (with_reducible assumption) | assumption); have q14 : (x4_1 : Int) < ((x3_1.length : Int) : Int) := of_decide_eq_true (by first | (with_reducible assumption) | assumption); obtain ⟨go14, co14, eo14, gb14, gl14, cl14, HG14⟩ := Kd.R_form HO_3.out (by omega); (first | cases eo14 | (injection eo14 with ea_ en_ ec_; (first | subst ea_ | (injection ea_ with ea_; subst ea_)); subst ec_; clear en_)); have GB14 := Aside0.mk gb14; have GG14 := Aside0.mk HG14; clear gb14 gl14 HG14; obtain ⟨hx14_0, hf14_0⟩ := Kd.R_celln 0 HO_3.out (x4_1 : Int) p14 q14; replace p14 := eq_true p14; replace q14 := eq_true q14; obtain ⟨hy20_, hz20_⟩ := Kd.R_celln 0 HO_3.out (x4_1 : Int) (of_decide_eq_true (by first | (with_reducible assumption) | assumption)) (of_decide_eq_true (by first | (with_reducible assumption) | assumption)); have HP20 := Kd.R_putg HO_3.out (x4_1 : Int) (bt (⟨#[43, 58, 63, 39, 43, 58, 63, 39]⟩ : ByteArray) t245)) | ((with_reducible refine gate_store (t := 5) (p := 20) rfl ?_); refine store_event (t := 5) (p := 20) (v := ?vo_w21) (w1 := (w19.setCell ⟨go14, (x4_1 : Int).toNat, none⟩ (.int .u8 (bt (⟨#[43, 58, 63, 39, 43, 58, 63, 39]⟩ : ByteArray) t245)))) ?hg ?ho ?hn ?hr ?_; (case ho => rfl); (case hg => rfl); (case hn => rfl); (case hr => first | (go_simp; done) | (go_simp; rfl)); intro w21 hw; have hg : w19.grownBy w21 (some go14) := (by rw [hw]; exact HP20.2); have hp_ : Kd.R (Kd.int .u8) 5 w21 w.heap.size (fun _ => True) (.slice (some ⟨go14, 0, none⟩) x3_1.length co18) y247 := (by rw [hw, Ny247.out]; exact HP20.1); clear HP20; have n0_ := Aside0.mk (hp_); have n1_ := Aside0.mk (IsS52.grown (by repeat (first | (with_reducible first | exact HI0.out | apply IsS52.alloc | apply IsS52.drewN | apply IsS52.drew | apply IsS52.set_1) | exact HI0.out)) hg (IsS52.own_ne HI0.out HO_3.out (by decide))); have n2_ := Aside0.mk ((by rw [hw]; exact below_set (HB.out) (Nat.le_trans HL.out GB14.out) : Below w0.heap.size w0 w21)); have n3_ := Aside0.mk (KeepBut.trans (by repeat (first | (with_reducible first | exact HK.out | apply KeepBut.set_ | apply keep_drewN | apply keep_drew | apply keep_alloc) | exact HK.out)) (KeepBut.of_grown hg g) (Kd.R_base2 HO_3.out)); clear HO_3; clear HI0; clear HB; clear HK; have HO_3 := n0_; have HI0 := n1_; have HB := n2_; have HK := n3_; clear n0_ n1_ n2_ n3_; clear hg hw hp_) | ((with_reducible refine gate_callee (f := 25) rfl ?_); refine goesL_ (some 22) rfl rfl Try.func25 (by kernel_rfl) rfl #[.pointer (some ⟨g, 0, none⟩), .int .i64 512] rfl (by (try simp only [List.map_toArray, List.map_cons, List.map_nil]); first | done | rfl | (simp only [List.length_drop, List.length_take]; rfl)) ?_; (with_reducible refine (customsmade_Source_Next.calls g s0_0 t246 512 t248 t249 w0 _ ?side1 ?side2 A15.out).mono ?_); (case side1 => repeat (first | (with_reducible first | exact HI0.out | apply IsS52.alloc | apply IsS52.drewN | apply IsS52.drew | apply IsS52.set_1) | exact HI0.out)); (case side2 => repeat (first | (with_reducible first | exact HB.out | apply below_alloc | apply pw_below_drewN | apply below_drew1 | refine below_set ?_ (IsS52.ge HI0.out)) | exact HB.out)); rintro e w22 ⟨rfl, hi, hb, hk⟩; refine ⟨_, rfl, ?_⟩; have n0_ := Aside0.mk (Kd.R_mono (Kd.R_keep (IsS52.apart (show IsS52 w0 _ g s0_0 t246 from by repeat (first | (with_reducible first | exact HI0.out | apply IsS52.alloc | apply IsS52.drewN | apply IsS52.drew | apply IsS52.set_1) | exact HI0.out)) (by (with_reducible repeat (first | apply Kd.R_alloc | apply Kd.R_drewN | apply Kd.R_drew)); exact HO_3.out) (by decide)) hk (fun _ h => h.2)) (fun _ h => h.1)); have n1_ := Aside0.mk (KeepBut.trans (by repeat (first | (with_reducible first | exact HK.out | apply KeepBut.set_ | apply keep_drewN | apply keep_drew | apply keep_alloc) | exact HK.out)) hk (.inl rfl)); have n2_ := Aside0.mk (hb); have n3_ := Aside0.mk (hi); clear HO_3; clear HK; clear HB; clear HI0; have HO_3 := n0_; have HK := n1_; have HB := n2_; have HI0 := n3_; clear n0_ n1_ n2_ n3_; (try clear hb); (try clear hb2); (try clear hk); (try clear hi); have p17 : 0 ≤ (x4_1 : Int) := of_decide_eq_true (by first | (with_reducible assumption) | assumption); have q17 : (x4_1 : Int) < ((x3_1.length : Int) : Int) := of_decide_eq_true (by first | (with_reducible assumption) | assumption); obtain ⟨hx17_0, hf17_0⟩ := Kd.R_celln 0 HO_3.out (x4_1 : Int) p17 q17; replace p17 := eq_true p17; replace q17 := eq_true q17; obtain ⟨hy23_, hz23_⟩ := Kd.R_celln 0 HO_3.out (x4_1 : Int) (of_decide_eq_true (by first | (with_reducible assumption) | assumption)) (of_decide_eq_true (by first | (with_reducible assumption) | assumption)); have HP23 := Kd.R_putg HO_3.out (x4_1 : Int) ((t248) % 256)) | ((with_reducible refine gate_store (t := 5) (p := 29) rfl ?_); refine store_event (t := 5) (p := 29) (v := ?vo_w24) (w1 := (w22.setCell ⟨go14, (x4_1 : Int).toNat, none⟩ (.int .u8 ((t248) % 256)))) ?hg ?ho ?hn ?hr ?_; (case ho => rfl); (case hg => rfl); (case hn => rfl); (case hr => first | (go_simp; done) | (go_simp; rfl)); intro w24 hw; have hg : w22.grownBy w24 (some go14) := (by rw [hw]; exact HP23.2); have hp_ : Kd.R (Kd.int .u8) 5 w24 w.heap.size (fun _ => True) (.slice (some ⟨go14, 0, none⟩) x3_1.length co18) y250 := (by rw [hw, Ny250.out]; exact HP23.1); clear HP23; have n0_ := Aside0.mk (hp_); have n1_ := Aside0.mk (IsS52.grown (by repeat (first | (with_reducible first | exact HI0.out | apply IsS52.alloc | apply IsS52.drewN | apply IsS52.drew | apply IsS52.set_1) | exact HI0.out)) hg (IsS52.own_ne HI0.out HO_3.out (by decide))); have n2_ := Aside0.mk ((by rw [hw]; exact below_set (HB.out) (Nat.le_trans HL.out GB14.out) : Below w0.heap.size w0 w24)); have n3_ := Aside0.mk (KeepBut.trans (by repeat (first | (with_reducible first | exact HK.out | apply KeepBut.set_ | apply keep_drewN | apply keep_drew | apply keep_alloc) | exact HK.out)) (KeepBut.of_grown hg g) (Kd.R_base2 HO_3.out)); clear HO_3; clear HI0; clear HB; clear HK; have HO_3 := n0_; have HI0 := n1_; have HB := n2_; have HK := n3_; clear n0_ n1_ n2_ n3_; clear hg hw hp_))
                    go_roundg k1
                    case measure => have := HK1.out; omega
                    case rel => exact ⟨(y250), (wrap64 (x4_1 + 1)), (t249), (by first | rfl | (simp; done) | (simp [*]; done)), H', ⟨by have := HK1.out; omega⟩, ⟨by (with_reducible repeat (first | apply Kd.R_alloc | apply Kd.R_drewN | apply Kd.R_drew)); exact HO_3.out⟩, ⟨by repeat (first | (with_reducible first | exact HI0.out | apply IsS52.alloc | apply IsS52.drewN | apply IsS52.drew | apply IsS52.set_1) | exact HI0.out)⟩, ⟨by repeat (first | (with_reducible first | exact HK.out | apply KeepBut.set_ | apply keep_drewN | apply keep_drew | apply keep_alloc) | exact HK.out)⟩, ⟨by repeat (first | (with_reducible first | exact HB.out | apply below_alloc | apply pw_below_drewN | apply below_drew1 | refine below_set ?_ (IsS52.ge HI0.out)) | exact HB.out)⟩⟩
                  · rw [if_neg c16] at H
                    have c16b0 : decide (t248 < 256) = false := decide_eq_false c16
                    clear c16
                    have H' := Aside0.mk H
                    clear H
                    obtain ⟨Ao25, co25, eo25⟩ := Kd.R_slice HO_3.out
                    subst eo25
                    go_wp2_with (first | ((with_reducible refine gate_callee (f := 25) rfl ?_); refine goesL_ (some 18) rfl rfl Try.func25 (by kernel_rfl) rfl #[.pointer (some ⟨g, 0, none⟩), .int .i64 8] rfl (by (try simp only [List.map_toArray, List.map_cons, List.map_nil]); first | done | rfl | (simp only [List.length_drop, List.length_take]; rfl)) ?_; (with_reducible refine (customsmade_Source_Next.calls g s0_0 x1001_1 8 t245 t246 w0 _ ?side1 ?side2 A9.out).mono ?_); (case side1 => repeat (first | (with_reducible first | exact HI0.out | apply IsS52.alloc | apply IsS52.drewN | apply IsS52.drew | apply IsS52.set_1) | exact HI0.out)); (case side2 => repeat (first | (with_reducible first | exact HB.out | apply below_alloc | apply pw_below_drewN | apply below_drew1 | refine below_set ?_ (IsS52.ge HI0.out)) | exact HB.out)); rintro e w26 ⟨rfl, hi, hb, hk⟩; refine ⟨_, rfl, ?_⟩; have n0_ := Aside0.mk (Kd.R_mono (Kd.R_keep (IsS52.apart (show IsS52 w0 _ g s0_0 x1001_1 from by repeat (first | (with_reducible first | exact HI0.out | apply IsS52.alloc | apply IsS52.drewN | apply IsS52.drew | apply IsS52.set_1) | exact HI0.out)) (by (with_reducible repeat (first | apply Kd.R_alloc | apply Kd.R_drewN | apply Kd.R_drew)); exact HO_3.out) (by decide)) hk (fun _ h => h.2)) (fun _ h => h.1)); have n1_ := Aside0.mk (KeepBut.trans (by repeat (first | (with_reducible first | exact HK.out | apply KeepBut.set_ | apply keep_drewN | apply keep_drew | apply keep_alloc) | exact HK.out)) hk (.inl rfl)); have n2_ := Aside0.mk (hb); have n3_ := Aside0.mk (hi); clear HO_3; clear HK; clear HB; clear HI0; have HO_3 := n0_; have HK := n1_; have HB := n2_; have HI0 := n3_; clear n0_ n1_ n2_ n3_; (try clear hb); (try clear hb2); (try clear hk); (try clear hi); have p12 : 0 ≤ (t245 : Int) := of_decide_eq_true (by first | (with_reducible assumption) | assumption); have q12 : t245 < (8 : Int) := of_decide_eq_true (by first | (with_reducible assumption) | assumption); have hx12 := bt_at (⟨#[43, 58, 63, 39, 43, 58, 63, 39]⟩ : ByteArray) t245; replace p12 := eq_true p12; replace q12 := eq_true q12; have p14 : 0 ≤ (x4_1 : Int) := of_decide_eq_true (by first | (with_reducible assumption) | assumption); have q14 : (x4_1 : Int) < ((x3_1.length : Int) : Int) := of_decide_eq_true (by first | (with_reducible assumption) | assumption); obtain ⟨go14, co14, eo14, gb14, gl14, cl14, HG14⟩ := Kd.R_form HO_3.out (by omega); (first | cases eo14 | (injection eo14 with ea_ en_ ec_; (first | subst ea_ | (injection ea_ with ea_; subst ea_)); subst ec_; clear en_)); have GB14 := Aside0.mk gb14; have GG14 := Aside0.mk HG14; clear gb14 gl14 HG14; obtain ⟨hx14_0, hf14_0⟩ := Kd.R_celln 0 HO_3.out (x4_1 : Int) p14 q14; replace p14 := eq_true p14; replace q14 := eq_true q14; obtain ⟨hy27_, hz27_⟩ := Kd.R_celln 0 HO_3.out (x4_1 : Int) (of_decide_eq_true (by first | (with_reducible assumption) | assumption)) (of_decide_eq_true (by first | (with_reducible assumption) | assumption)); have HP27 := Kd.R_putg HO_3.out (x4_1 : Int) (bt (⟨#[43, 58, 63, 39, 43, 58, 63, 39]⟩ : ByteArray) t245)) | ((with_reducible refine gate_store (t := 5) (p := 20) rfl ?_); refine store_event (t := 5) (p := 20) (v := ?vo_w28) (w1 := (w26.setCell ⟨go14, (x4_1 : Int).toNat, none⟩ (.int .u8 (bt (⟨#[43, 58, 63, 39, 43, 58, 63, 39]⟩ : ByteArray) t245)))) ?hg ?ho ?hn ?hr ?_; (case ho => rfl); (case hg => rfl); (case hn => rfl); (case hr => first | (go_simp; done) | (go_simp; rfl)); intro w28 hw; have hg : w26.grownBy w28 (some go14) := (by rw [hw]; exact HP27.2); have hp_ : Kd.R (Kd.int .u8) 5 w28 w.heap.size (fun _ => True) (.slice (some ⟨go14, 0, none⟩) x3_1.length co25) y247 := (by rw [hw, Ny247.out]; exact HP27.1); clear HP27; have n0_ := Aside0.mk (hp_); have n1_ := Aside0.mk (IsS52.grown (by repeat (first | (with_reducible first | exact HI0.out | apply IsS52.alloc | apply IsS52.drewN | apply IsS52.drew | apply IsS52.set_1) | exact HI0.out)) hg (IsS52.own_ne HI0.out HO_3.out (by decide))); have n2_ := Aside0.mk ((by rw [hw]; exact below_set (HB.out) (Nat.le_trans HL.out GB14.out) : Below w0.heap.size w0 w28)); have n3_ := Aside0.mk (KeepBut.trans (by repeat (first | (with_reducible first | exact HK.out | apply KeepBut.set_ | apply keep_drewN | apply keep_drew | apply keep_alloc) | exact HK.out)) (KeepBut.of_grown hg g) (Kd.R_base2 HO_3.out)); clear HO_3; clear HI0; clear HB; clear HK; have HO_3 := n0_; have HI0 := n1_; have HB := n2_; have HK := n3_; clear n0_ n1_ n2_ n3_; clear hg hw hp_) | ((with_reducible refine gate_callee (f := 25) rfl ?_); refine goesL_ (some 22) rfl rfl Try.func25 (by kernel_rfl) rfl #[.pointer (some ⟨g, 0, none⟩), .int .i64 512] rfl (by (try simp only [List.map_toArray, List.map_cons, List.map_nil]); first | done | rfl | (simp only [List.length_drop, List.length_take]; rfl)) ?_; (with_reducible refine (customsmade_Source_Next.calls g s0_0 t246 512 t248 t249 w0 _ ?side1 ?side2 A15.out).mono ?_); (case side1 => repeat (first | (with_reducible first | exact HI0.out | apply IsS52.alloc | apply IsS52.drewN | apply IsS52.drew | apply IsS52.set_1) | exact HI0.out)); (case side2 => repeat (first | (with_reducible first | exact HB.out | apply below_alloc | apply pw_below_drewN | apply below_drew1 | refine below_set ?_ (IsS52.ge HI0.out)) | exact HB.out)); rintro e w29 ⟨rfl, hi, hb, hk⟩; refine ⟨_, rfl, ?_⟩; have n0_ := Aside0.mk (Kd.R_mono (Kd.R_keep (IsS52.apart (show IsS52 w0 _ g s0_0 t246 from by repeat (first | (with_reducible first | exact HI0.out | apply IsS52.alloc | apply IsS52.drewN | apply IsS52.drew | apply IsS52.set_1) | exact HI0.out)) (by (with_reducible repeat (first | apply Kd.R_alloc | apply Kd.R_drewN | apply Kd.R_drew)); exact HO_3.out) (by decide)) hk (fun _ h => h.2)) (fun _ h => h.1)); have n1_ := Aside0.mk (KeepBut.trans (by repeat (first | (with_reducible first | exact HK.out | apply KeepBut.set_ | apply keep_drewN | apply keep_drew | apply keep_alloc) | exact HK.out)) hk (.inl rfl)); have n2_ := Aside0.mk (hb); have n3_ := Aside0.mk (hi); clear HO_3; clear HK; clear HB; clear HI0; have HO_3 := n0_; have HK := n1_; have HB := n2_; have HI0 := n3_; clear n0_ n1_ n2_ n3_; (try clear hb); (try clear hb2); (try clear hk); (try clear hi)))
                    go_roundg k1
                    case measure => have := HK1.out; omega
                    case rel => exact ⟨(y247), (wrap64 (x4_1 + 1)), (t249), (by first | rfl | (simp; done) | (simp [*]; done)), H', ⟨by have := HK1.out; omega⟩, ⟨by (with_reducible repeat (first | apply Kd.R_alloc | apply Kd.R_drewN | apply Kd.R_drew)); exact HO_3.out⟩, ⟨by repeat (first | (with_reducible first | exact HI0.out | apply IsS52.alloc | apply IsS52.drewN | apply IsS52.drew | apply IsS52.set_1) | exact HI0.out)⟩, ⟨by repeat (first | (with_reducible first | exact HK.out | apply KeepBut.set_ | apply keep_drewN | apply keep_drew | apply keep_alloc) | exact HK.out)⟩, ⟨by repeat (first | (with_reducible first | exact HB.out | apply below_alloc | apply pw_below_drewN | apply below_drew1 | refine below_set ?_ (IsS52.ge HI0.out)) | exact HB.out)⟩⟩
                · rw [if_neg c13] at H
                  exact absurd H (by simp)
              · rw [if_neg c11] at H
                exact absurd H (by simp)
            · rw [if_neg c10] at H
              exact absurd H (by simp)
          · rw [if_neg c8] at H
            have c8b0 : decide (x4_1 < (x3_1.length : Int)) = false := decide_eq_false c8
            clear c8
            simp only [Option.some.injEq, Prod.mk.injEq] at H
            obtain ⟨rfl, rfl⟩ := H
            obtain ⟨Ao30, co30, eo30⟩ := Kd.R_slice HO_3.out
            subst eo30
            have hcv31 := own_string (P := Try.prog) Try.underlying32 Try.underlying5 Try.underlying9 (Kd.own_of_R HO_3.out)
            go_wp2
            go_ret
            exact ⟨by first | rfl | (simp [errW_none, errW_some] <;> rfl) | (simp [*, errW_none, errW_some] <;> rfl), by repeat (first | (with_reducible first | exact HI0.out | apply IsS52.alloc | apply IsS52.drewN | apply IsS52.drew | apply IsS52.set_1) | exact HI0.out), by repeat (first | (with_reducible first | exact HB.out | apply below_alloc | apply pw_below_drewN | apply below_drew1 | refine below_set ?_ (IsS52.ge HI0.out)) | exact HB.out), by repeat (first | (with_reducible first | exact HK.out | apply KeepBut.set_ | apply keep_drewN | apply keep_drew | apply keep_alloc) | exact HK.out)⟩
    · rw [if_neg c4] at H
      exact absurd H (by simp)
  · rw [if_neg c3] at H
    exact absurd H (by simp)

end Go.Proofs.Ythdahpnjiighfaa.F
