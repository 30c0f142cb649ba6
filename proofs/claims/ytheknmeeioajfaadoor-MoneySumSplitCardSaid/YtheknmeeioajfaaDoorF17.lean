-- printed by this session's own copy of a printing program, out of the translation
import Derived.Test.YtheknmeeioajfaaDoorF0
import Derived.Test.YtheknmeeioajfaaDoorF1
namespace Go.Proofs.YtheknmeeioajfaaDoor.F
open Go.RowKit Go.Proofs.YtheknmeeioajfaaDoorW.PrintWords Go.Proofs.YtheknmeeioajfaaDoorW.PrintLast Go.Proofs.YtheknmeeioajfaaDoorW.PrintMore
attribute [local go_sem] max2_int min2_int max_two min_two max_three min_three max_four min_four   -- for this text's walks alone
set_option linter.unusedVariables false
set_option linter.unusedSimpArgs false

/-! ### money_Sum: function 20 -/
mutual
def money_Sum.l0 : Nat → Int → Int → List Int → Int → Int → Option (Int × Int)
  | 0, _, _, _, _, _ => none
  | k + 1, x4, x5, x12, x13, x14 => if x14 < x13 then (if 0 ≤ x14 then (if x14 < (x12.length : Int) then (money_Sum.l0 k (wrap64 (x4 + (wrap64 (Int.tdiv (rd x12 x14) 1000000)))) (wrap64 (x5 + (Int.tmod (rd x12 x14) 1000000))) x12 x13 (wrap64 (x14 + 1))) else (none)) else (none)) else (if (wrap64 (x4 + (wrap64 (Int.tdiv x5 1000000)))) > 1000001 then (money_Sum.j1 k (wrap64 (x4 + (wrap64 (Int.tdiv x5 1000000)))) (Int.tmod x5 1000000) true) else (money_Sum.j1 k (wrap64 (x4 + (wrap64 (Int.tdiv x5 1000000)))) (Int.tmod x5 1000000) (decide ((wrap64 (x4 + (wrap64 (Int.tdiv x5 1000000)))) < (-1000001)))))
def money_Sum.j1 : Nat → Int → Int → Bool → Option (Int × Int)
  | 0, _, _, _ => none
  | k + 1, x4, x5, x38 => if x38 = true then (some (0, 3)) else ((money_amounts.f k (([wrap64 ((wrap64 (x4 * 1000000)) + x5)] : List Int))).bind fun t247 => (if t247 = true then (some (wrap64 ((wrap64 (x4 * 1000000)) + x5), 0)) else (some (0, 3))))
end
def money_Sum.f (k : Nat) (l0 : List Int) : Option (Int × Int) := (money_amounts.f k l0).bind fun t242 => (if t242 = true then (money_Sum.l0 k 0 0 l0 (l0.length : Int) 0) else (some (0, 2)))
theorem money_Sum.mono_l : ∀ k, (∀ y0 y1 y2 y3 y4, LeO (money_Sum.l0 k y0 y1 y2 y3 y4) (money_Sum.l0 (k + 1) y0 y1 y2 y3 y4)) ∧ (∀ y0 y1 y2, LeO (money_Sum.j1 k y0 y1 y2) (money_Sum.j1 (k + 1) y0 y1 y2))
  | 0 => ⟨fun _ _ _ _ _ r h => by simp [money_Sum.l0] at h, fun _ _ _ r h => by simp [money_Sum.j1] at h⟩
  | k + 1 => by
    obtain ⟨ih0, ih1⟩ := money_Sum.mono_l k
    refine ⟨?_, ?_⟩
    · intro y0 y1 y2 y3 y4
      unfold money_Sum.l0
      repeat' first
      | (with_reducible exact ih0 _ _ _ _ _)
      | (with_reducible exact ih1 _ _ _)
      | (with_reducible exact money_amounts.mono _ _)
      | (with_reducible exact LeO.refl _)
      | (with_reducible exact LeO.none _)
      | (with_reducible refine LeO.ite ?_ ?_)
      | (with_reducible refine LeO.bind ?_ (fun _ => ?_))
      | exact ih0 _ _ _ _ _
      | exact ih1 _ _ _
      | exact money_amounts.mono _ _
      | exact LeO.none _
      | refine LeO.ite ?_ ?_
      | refine LeO.bind ?_ (fun _ => ?_)
    · intro y0 y1 y2
      unfold money_Sum.j1
      repeat' first
      | (with_reducible exact ih0 _ _ _ _ _)
      | (with_reducible exact ih1 _ _ _)
      | (with_reducible exact money_amounts.mono _ _)
      | (with_reducible exact LeO.refl _)
      | (with_reducible exact LeO.none _)
      | (with_reducible refine LeO.ite ?_ ?_)
      | (with_reducible refine LeO.bind ?_ (fun _ => ?_))
      | exact ih0 _ _ _ _ _
      | exact ih1 _ _ _
      | exact money_amounts.mono _ _
      | exact LeO.none _
      | refine LeO.ite ?_ ?_
      | refine LeO.bind ?_ (fun _ => ?_)
theorem money_Sum.mono : ∀ a0 k, LeO (money_Sum.f k a0) (money_Sum.f (k + 1) a0) := by
  intro a0 k
  obtain ⟨ih0, ih1⟩ := money_Sum.mono_l k
  unfold money_Sum.f
  repeat' first
      | (with_reducible exact ih0 _ _ _ _ _)
      | (with_reducible exact ih1 _ _ _)
      | (with_reducible exact money_amounts.mono _ _)
      | (with_reducible exact LeO.refl _)
      | (with_reducible exact LeO.none _)
      | (with_reducible refine LeO.ite ?_ ?_)
      | (with_reducible refine LeO.bind ?_ (fun _ => ?_))
      | exact ih0 _ _ _ _ _
      | exact ih1 _ _ _
      | exact money_amounts.mono _ _
      | exact LeO.none _
      | refine LeO.ite ?_ ?_
      | refine LeO.bind ?_ (fun _ => ?_)
set_option maxHeartbeats 8000000 in
set_option maxRecDepth 100000 in
theorem money_Sum.calls (k : Nat) (A0 : Option Addr) (c0 : Nat) (l0 : List Int) (r1 : Int) (r2 : Int) (w : World) (hr0 : Kd.C (Kd.int .i64) w A0 l0.length l0) (hc0 : l0.length ≤ c0) (h : money_Sum.f k l0 = some (r1, r2)) :
    Calls Tryd.prog 20 #[.slice A0 l0.length c0] w fun e w' => e = .returned (.tuple #[.int .i64 r1, .int .i64 r2]) ∧ Below w.heap.size w w' := by
  have HR0 := Aside0.mk hr0
  have HC0 := Aside0.mk hc0
  clear hr0 hc0
  have HB := Aside0.mk (Below.refl w.heap.size w)
  have H : ((money_amounts.f k l0).bind fun t242 => (if t242 = true then (money_Sum.l0 k 0 0 l0 (l0.length : Int) 0) else (some (0, 2)))) = some (r1, r2) := h
  clear h
  replace H := Option.bind_eq_some_iff.mp H
  obtain ⟨t242, A20, H⟩ := H
  replace H : (if t242 = true then (money_Sum.l0 k 0 0 l0 (l0.length : Int) 0) else (some (0, 2))) = some (r1, r2) := H
  have A2 := Aside0.mk A20
  clear A20
  by_cases c3 : t242 = true
  · subst c3
    have H1 : (money_Sum.l0 k 0 0 l0 (l0.length : Int) 0) = some (r1, r2) := by rw [if_pos rfl] at H; exact H
    clear H
    have H := H1
    clear H1
    have H' := Aside0.mk H
    clear H
    go_enter Tryd.func20, Tryd.ntmps20
    go_wp2_with (first | ((with_reducible refine gate_callee (f := 21) rfl ?_); refine goesL_ (some 10) rfl rfl Tryd.func21 (by kernel_rfl) rfl #[.slice A0 l0.length c0] rfl (by (try simp only [List.map_toArray, List.map_cons, List.map_nil]); first | done | rfl | (simp only [List.length_drop, List.length_take]; rfl)) ?_; (with_reducible refine (money_amounts.calls k _ _ l0 true _ ?side1 ?side2 A2.out).mono ?_); (case side1 => repeat (first | exact HR0.out | (with_reducible refine Kd.C_alloc ?_ _) | (with_reducible refine Kd.C_drewN ?_ _) | (with_reducible refine Kd.C_drew ?_))); (case side2 => exact HC0.out); rintro e w' ⟨rfl, ⟨nd, rfl⟩⟩; refine ⟨_, rfl, ?_⟩))
    go_loopg [4, 5, 14] k (fun kq v4 v5 v14 w' => ∃ (x4_1 : Int) (x5_1 : Int) (x14_1 : Int), v4 = .int .i64 x4_1 ∧ v5 = .int .i64 x5_1 ∧ v14 = .int .i64 x14_1 ∧ Aside0 (money_Sum.l0 kq x4_1 x5_1 l0 (l0.length : Int) x14_1 = some (r1, r2)) ∧ Aside0 (kq ≤ k) ∧ Aside0 (Below w.heap.size w w'))
    case atStart => exact ⟨(0), (0), (0), (by first | rfl | (simp; done) | (simp [*]; done)), (by first | rfl | (simp; done) | (simp [*]; done)), (by first | rfl | (simp; done) | (simp [*]; done)), H', ⟨Nat.le_refl _⟩, ⟨by repeat (first | (with_reducible first | exact HB.out | apply below_alloc | apply pw_below_drewN | apply below_drew1) | exact HB.out)⟩⟩
    case round =>
      clear H'
      try clear c2
      try clear p2
      try clear c3
      obtain ⟨x4_1, x5_1, x14_1, rfl, rfl, rfl, HA, HK1, HB⟩ := hrel
      cases gk with
      | zero => exact absurd HA.out (by simp [money_Sum.l0])
      | succ k1 =>
        have H := HA.out
        clear HA
        simp only [money_Sum.l0] at H
        by_cases c4 : x14_1 < (l0.length : Int)
        · rw [if_pos c4] at H
          have c4b0 : decide (x14_1 < (l0.length : Int)) = true := decide_eq_true c4
          clear c4
          by_cases c5 : 0 ≤ x14_1
          · rw [if_pos c5] at H
            have c5b0 : decide (0 ≤ x14_1) = true := decide_eq_true c5
            clear c5
            by_cases c6 : x14_1 < (l0.length : Int)
            · rw [if_pos c6] at H
              have c6b0 : decide (x14_1 < (l0.length : Int)) = true := decide_eq_true c6
              clear c6
              have H' := Aside0.mk H
              clear H
              have p243 : 0 ≤ (x14_1 : Int) := of_decide_eq_true (by first | (with_reducible assumption) | assumption)
              have q243 : x14_1 < (l0.length : Int) := of_decide_eq_true (by first | (with_reducible assumption) | assumption)
              obtain ⟨ad243, e243, hx243_0⟩ := Kd.at_int HR0.out x14_1 p243 q243
              cases e243
              replace hx243_0 := (HB.out.cell (World.block_lt_of_cell? w _ hx243_0)).trans hx243_0
              replace p243 := eq_true p243
              replace q243 := eq_true q243
              go_wp2
              go_roundg k1
              case measure => have := HK1.out; omega
              case rel => exact ⟨(wrap64 (x4_1 + (wrap64 (Int.tdiv (rd l0 x14_1) 1000000)))), (wrap64 (x5_1 + (Int.tmod (rd l0 x14_1) 1000000))), (wrap64 (x14_1 + 1)), (by first | rfl | (simp; done) | (simp [*]; done)), (by first | rfl | (simp; done) | (simp [*]; done)), (by first | rfl | (simp; done) | (simp [*]; done)), H', ⟨by have := HK1.out; omega⟩, ⟨by repeat (first | (with_reducible first | exact HB.out | apply below_alloc | apply pw_below_drewN | apply below_drew1) | exact HB.out)⟩⟩
            · rw [if_neg c6] at H
              exact absurd H (by simp)
          · rw [if_neg c5] at H
            exact absurd H (by simp)
        · rw [if_neg c4] at H
          have c4b0 : decide (x14_1 < (l0.length : Int)) = false := decide_eq_false c4
          clear c4
          have HC7 := Aside0.mk H
          clear H
          go_upto_region 12 with (fail)
          go_cut [38] (fun v38 wc => ∃ (kq : Nat) (x38_6 : Bool), v38 = .bool x38_6 ∧ Aside0 (money_Sum.j1 kq (wrap64 (x4_1 + (wrap64 (Int.tdiv x5_1 1000000)))) (Int.tmod x5_1 1000000) x38_6 = some (r1, r2)) ∧ Aside0 (kq ≤ k1) ∧ Aside0 (Below w.heap.size w wc))
          case first =>
            have H := HC7.out
            clear HC7
            by_cases c8 : (wrap64 (x4_1 + (wrap64 (Int.tdiv x5_1 1000000)))) > 1000001
            · rw [if_pos c8] at H
              have c8b0 : decide (1000001 < (wrap64 (x4_1 + (wrap64 (Int.tdiv x5_1 1000000))))) = true := decide_eq_true c8
              clear c8
              (first | rw [c8b0] | (simp only [i64_w, i32_w]; rw [c8b0]) | skip)
              have H' := Aside0.mk H
              clear H
              go_wp2
              go_meet
              case rel => exact ⟨_, (true), (by first | rfl | (simp; done) | (simp [*]; done)), H', ⟨by have := HK1.out; first | omega | exact Nat.le_refl _⟩, ⟨by repeat (first | (with_reducible first | exact HB.out | apply below_alloc | apply pw_below_drewN | apply below_drew1) | exact HB.out)⟩⟩
            · rw [if_neg c8] at H
              have c8b0 : decide (1000001 < (wrap64 (x4_1 + (wrap64 (Int.tdiv x5_1 1000000))))) = false := decide_eq_false c8
              clear c8
              (first | rw [c8b0] | (simp only [i64_w, i32_w]; rw [c8b0]) | skip)
              have H' := Aside0.mk H
              clear H
              go_wp2
              go_meet
              case rel => exact ⟨_, (decide ((wrap64 (x4_1 + (wrap64 (Int.tdiv x5_1 1000000)))) < (-1000001))), (by first | rfl | (simp; done) | (simp [*]; done)), H', ⟨by have := HK1.out; first | omega | exact Nat.le_refl _⟩, ⟨by repeat (first | (with_reducible first | exact HB.out | apply below_alloc | apply pw_below_drewN | apply below_drew1) | exact HB.out)⟩⟩
          case rest =>
            clear HC7
            try clear c2
            try clear p2
            try clear q2
            try clear hx2
            try clear c3
            try clear c4
            try clear c4b0
            try clear c5
            try clear c5b0
            try clear c6
            try clear c6b0
            try clear p6
            try clear c8
            try clear c8b0
            try clear hx243_0
            try clear p2
            try clear p243
            try clear q243
            obtain ⟨kq, x38_6, rfl, HA, HJ6, HB⟩ := hcut
            cases kq with
            | zero => exact absurd HA.out (by simp [money_Sum.j1])
            | succ kj6 =>
              have H := HA.out
              clear HA
              simp only [money_Sum.j1] at H
              by_cases c9 : x38_6 = true
              · subst c9
                have H1 : (some (0, 3)) = some (r1, r2) := by rw [if_pos rfl] at H; exact H
                clear H
                have H := H1
                clear H1
                simp only [Option.some.injEq, Prod.mk.injEq] at H
                obtain ⟨rfl, rfl⟩ := H
                go_wp2
                go_ret2
                exact ⟨by first | rfl | (simp [errW_none, errW_some] <;> rfl) | (simp [*, errW_none, errW_some] <;> rfl), by repeat (first | (with_reducible first | exact HB.out | apply below_alloc | apply pw_below_drewN | apply below_drew1) | exact HB.out)⟩
              · replace c9 := Bool.eq_false_iff.mpr c9
                subst c9
                have H1 : ((money_amounts.f kj6 (([wrap64 ((wrap64 ((wrap64 (x4_1 + (wrap64 (Int.tdiv x5_1 1000000)))) * 1000000)) + (Int.tmod x5_1 1000000))] : List Int))).bind fun t247 => (if t247 = true then (some (wrap64 ((wrap64 ((wrap64 (x4_1 + (wrap64 (Int.tdiv x5_1 1000000)))) * 1000000)) + (Int.tmod x5_1 1000000)), 0)) else (some (0, 3)))) = some (r1, r2) := by rw [if_neg (show ¬ (false = true) by decide)] at H; exact H
                clear H
                have H := H1
                clear H1
                obtain ⟨y244, hy244⟩ : ∃ y_ : List Int, y_ = (([wrap64 ((wrap64 ((wrap64 (x4_1 + (wrap64 (Int.tdiv x5_1 1000000)))) * 1000000)) + (Int.tmod x5_1 1000000))] : List Int)) := ⟨_, rfl⟩
                replace H : ((money_amounts.f kj6 y244).bind fun t247 => (if t247 = true then (some (wrap64 ((wrap64 ((wrap64 (x4_1 + (wrap64 (Int.tdiv x5_1 1000000)))) * 1000000)) + (Int.tmod x5_1 1000000)), 0)) else (some (0, 3)))) = some (r1, r2) := by first | (rw [hy244]; with_reducible exact H) | (have H2_ := (Option.bind_some _ _).symm.trans H; rw [hy244]; with_reducible exact H2_) | (have H2_ := (Option.bind_some _ _).symm.trans H; with_reducible exact H2_) | with_reducible exact H | (rw [hy244]; exact H) | exact H
                have Ny244 := Aside0.mk hy244
                clear hy244
                replace H := Option.bind_eq_some_iff.mp H
                obtain ⟨t247, A100, H⟩ := H
                replace H : (if t247 = true then (some (wrap64 ((wrap64 ((wrap64 (x4_1 + (wrap64 (Int.tdiv x5_1 1000000)))) * 1000000)) + (Int.tmod x5_1 1000000)), 0)) else (some (0, 3))) = some (r1, r2) := H
                have A10 := Aside0.mk A100
                clear A100
                by_cases c11 : t247 = true
                · subst c11
                  have H1 : (some (wrap64 ((wrap64 ((wrap64 (x4_1 + (wrap64 (Int.tdiv x5_1 1000000)))) * 1000000)) + (Int.tmod x5_1 1000000)), 0)) = some (r1, r2) := by rw [if_pos rfl] at H; exact H
                  clear H
                  have H := H1
                  clear H1
                  simp only [Option.some.injEq, Prod.mk.injEq] at H
                  obtain ⟨rfl, rfl⟩ := H
                  go_wp2_with (first | ((with_reducible refine gate_dst (N := 44) rfl ?_); refine Kd.R_lit (Kd.int .i64) _ 3 ?hg (N := 44) ?hd (xs := ([wrap64 ((wrap64 ((wrap64 (x4_1 + (wrap64 (Int.tdiv x5_1 1000000)))) * 1000000)) + (Int.tmod x5_1 1000000))] : List Int)) (inner := [.int .i64 (wrap64 ((wrap64 ((wrap64 (x4_1 + (wrap64 (Int.tdiv x5_1 1000000)))) * 1000000)) + (Int.tmod x5_1 1000000)))]) (ok := fun _ => True) (okp := fun _ => True) ?hr ?hp (fun _ hk => hk) trivial (Below.refl _ _) (Nat.le_refl _) (by simp) ?_; (case hd => rfl); (case hg => rfl); (case hr => first | (go_simp; done) | (go_simp; rfl)); (case hp => exact (Reps.one (show Kd.M (Kd.int .i64) _ _ _ (wrap64 ((wrap64 ((wrap64 (x4_1 + (wrap64 (Int.tdiv x5_1 1000000)))) * 1000000)) + (Int.tmod x5_1 1000000))) [.int .i64 (wrap64 ((wrap64 ((wrap64 (x4_1 + (wrap64 (Int.tdiv x5_1 1000000)))) * 1000000)) + (Int.tmod x5_1 1000000)))] from rfl) (Reps.none _ _))); intro v245 w12 ho13 hb hg_ hnew_; clear hg_ hnew_; (first | rw [← Ny244.out] at ho13 | (simp only [Int.reduceToNat] at ho13; rw [← Ny244.out] at ho13)); have n0_ := Aside0.mk (Kd.R_lower ho13 (below_size (by repeat (first | (with_reducible first | exact HB.out | apply below_alloc | apply pw_below_drewN | apply below_drew1) | exact HB.out)))); have n1_ := Aside0.mk (below_step (by repeat (first | (with_reducible first | exact HB.out | apply below_alloc | apply pw_below_drewN | apply below_drew1) | exact HB.out)) hb); clear HB; have HO246 := n0_; have HB := n1_; clear n0_ n1_; clear hb ho13; obtain ⟨Ao14, co14, eo14⟩ := Kd.R_slice HO246.out; subst eo14) | ((with_reducible refine gate_callee (f := 21) rfl ?_); refine goesL_ (some 45) rfl rfl Tryd.func21 (by kernel_rfl) rfl #[.slice Ao14 y244.length co14] rfl (by (try simp only [List.map_toArray, List.map_cons, List.map_nil]); first | done | rfl | (simp only [List.length_drop, List.length_take]; rfl)) ?_; (with_reducible refine (money_amounts.calls kj6 _ _ y244 true _ ?side1 ?side2 A10.out).mono ?_); (case side1 => repeat (first | exact (Kd.R_reads' HO246.out).2.2 | (with_reducible refine Kd.C_alloc ?_ _) | (with_reducible refine Kd.C_drewN ?_ _) | (with_reducible refine Kd.C_drew ?_))); (case side2 => exact (Kd.R_reads' HO246.out).2.1); rintro e w' ⟨rfl, ⟨nd, rfl⟩⟩; refine ⟨_, rfl, ?_⟩))
                  go_ret2
                  exact ⟨by first | rfl | (simp [errW_none, errW_some] <;> rfl) | (simp [*, errW_none, errW_some] <;> rfl), by repeat (first | (with_reducible first | exact HB.out | apply below_alloc | apply pw_below_drewN | apply below_drew1) | exact HB.out)⟩
                · replace c11 := Bool.eq_false_iff.mpr c11
                  subst c11
                  have H1 : (some (0, 3)) = some (r1, r2) := by rw [if_neg (show ¬ (false = true) by decide)] at H; exact H
                  clear H
                  have H := H1
                  clear H1
                  simp only [Option.some.injEq, Prod.mk.injEq] at H
                  obtain ⟨rfl, rfl⟩ := H
                  go_wp2_with (first | ((with_reducible refine gate_dst (N := 44) rfl ?_); refine Kd.R_lit (Kd.int .i64) _ 3 ?hg (N := 44) ?hd (xs := ([wrap64 ((wrap64 ((wrap64 (x4_1 + (wrap64 (Int.tdiv x5_1 1000000)))) * 1000000)) + (Int.tmod x5_1 1000000))] : List Int)) (inner := [.int .i64 (wrap64 ((wrap64 ((wrap64 (x4_1 + (wrap64 (Int.tdiv x5_1 1000000)))) * 1000000)) + (Int.tmod x5_1 1000000)))]) (ok := fun _ => True) (okp := fun _ => True) ?hr ?hp (fun _ hk => hk) trivial (Below.refl _ _) (Nat.le_refl _) (by simp) ?_; (case hd => rfl); (case hg => rfl); (case hr => first | (go_simp; done) | (go_simp; rfl)); (case hp => exact (Reps.one (show Kd.M (Kd.int .i64) _ _ _ (wrap64 ((wrap64 ((wrap64 (x4_1 + (wrap64 (Int.tdiv x5_1 1000000)))) * 1000000)) + (Int.tmod x5_1 1000000))) [.int .i64 (wrap64 ((wrap64 ((wrap64 (x4_1 + (wrap64 (Int.tdiv x5_1 1000000)))) * 1000000)) + (Int.tmod x5_1 1000000)))] from rfl) (Reps.none _ _))); intro v245 w15 ho16 hb hg_ hnew_; clear hg_ hnew_; (first | rw [← Ny244.out] at ho16 | (simp only [Int.reduceToNat] at ho16; rw [← Ny244.out] at ho16)); have n0_ := Aside0.mk (Kd.R_lower ho16 (below_size (by repeat (first | (with_reducible first | exact HB.out | apply below_alloc | apply pw_below_drewN | apply below_drew1) | exact HB.out)))); have n1_ := Aside0.mk (below_step (by repeat (first | (with_reducible first | exact HB.out | apply below_alloc | apply pw_below_drewN | apply below_drew1) | exact HB.out)) hb); clear HB; have HO246 := n0_; have HB := n1_; clear n0_ n1_; clear hb ho16; obtain ⟨Ao17, co17, eo17⟩ := Kd.R_slice HO246.out; subst eo17) | ((with_reducible refine gate_callee (f := 21) rfl ?_); refine goesL_ (some 45) rfl rfl Tryd.func21 (by kernel_rfl) rfl #[.slice Ao17 y244.length co17] rfl (by (try simp only [List.map_toArray, List.map_cons, List.map_nil]); first | done | rfl | (simp only [List.length_drop, List.length_take]; rfl)) ?_; (with_reducible refine (money_amounts.calls kj6 _ _ y244 false _ ?side1 ?side2 A10.out).mono ?_); (case side1 => repeat (first | exact (Kd.R_reads' HO246.out).2.2 | (with_reducible refine Kd.C_alloc ?_ _) | (with_reducible refine Kd.C_drewN ?_ _) | (with_reducible refine Kd.C_drew ?_))); (case side2 => exact (Kd.R_reads' HO246.out).2.1); rintro e w' ⟨rfl, ⟨nd, rfl⟩⟩; refine ⟨_, rfl, ?_⟩))
                  go_ret2
                  exact ⟨by first | rfl | (simp [errW_none, errW_some] <;> rfl) | (simp [*, errW_none, errW_some] <;> rfl), by repeat (first | (with_reducible first | exact HB.out | apply below_alloc | apply pw_below_drewN | apply below_drew1) | exact HB.out)⟩
  · replace c3 := Bool.eq_false_iff.mpr c3
    subst c3
    have H1 : (some (0, 2)) = some (r1, r2) := by rw [if_neg (show ¬ (false = true) by decide)] at H; exact H
    clear H
    have H := H1
    clear H1
    simp only [Option.some.injEq, Prod.mk.injEq] at H
    obtain ⟨rfl, rfl⟩ := H
    go_enter Tryd.func20, Tryd.ntmps20
    go_wp2_with (first | ((with_reducible refine gate_callee (f := 21) rfl ?_); refine goesL_ (some 10) rfl rfl Tryd.func21 (by kernel_rfl) rfl #[.slice A0 l0.length c0] rfl (by (try simp only [List.map_toArray, List.map_cons, List.map_nil]); first | done | rfl | (simp only [List.length_drop, List.length_take]; rfl)) ?_; (with_reducible refine (money_amounts.calls k _ _ l0 false _ ?side1 ?side2 A2.out).mono ?_); (case side1 => repeat (first | exact HR0.out | (with_reducible refine Kd.C_alloc ?_ _) | (with_reducible refine Kd.C_drewN ?_ _) | (with_reducible refine Kd.C_drew ?_))); (case side2 => exact HC0.out); rintro e w' ⟨rfl, ⟨nd, rfl⟩⟩; refine ⟨_, rfl, ?_⟩))
    go_ret2
    exact ⟨by first | rfl | (simp [errW_none, errW_some] <;> rfl) | (simp [*, errW_none, errW_some] <;> rfl), by repeat (first | (with_reducible first | exact HB.out | apply below_alloc | apply pw_below_drewN | apply below_drew1) | exact HB.out)⟩

end Go.Proofs.YtheknmeeioajfaaDoor.F
