/- Part 9 of the proof of the law DutyValidate (its walk through the code, and the plain laws over numbers and texts). Conditions: none. -/
import Derived.Test.YtfpkgdkcllobiaaDoorZDutyValidate8
import Derived.Shelf.Spec.BitsCarry
section
namespace Go.Proofs.YtfpkgdkcllobiaaDoor.F
open Go.RowKit Go.Shelf Go.Proofs.YtfpkgdkcllobiaaDoorW.PrintWords
def exact_Add.f (a0_0 a0_1 a1_0 a1_1 : Int) : Option (Int × Int × Int) :=
  if 0 ≤ a0_0 ∧ a0_0 < 18446744073709551616 ∧ 0 ≤ a0_1 ∧ a0_1 < 18446744073709551616 ∧ 0 ≤ a1_0 ∧ a1_0 < 18446744073709551616 ∧ 0 ≤ a1_1 ∧ a1_1 < 18446744073709551616 then
    (if a0_0 + a1_0 + (a0_1 + a1_1) / 18446744073709551616 < 18446744073709551616 then some (a0_0 + a1_0 + (a0_1 + a1_1) / 18446744073709551616, (a0_1 + a1_1) % 18446744073709551616, 0) else some (0, 0, 3)) else none
theorem add64_run (x y c : Int) (hx : 0 ≤ x ∧ x < 18446744073709551616) (hy : 0 ≤ y ∧ y < 18446744073709551616) (hc : 0 ≤ c ∧ c ≤ 1) (w : World) :
    (callFunc 61 #[.int .u64 x, .int .u64 y, .int .u64 c]).run Tryd.prog w = .ok (.value (.tuple #[.int .u64 ((x + y + c) % 18446744073709551616), .int .u64 ((x + y + c) / 18446744073709551616)])) w := by
  obtain ⟨x, rfl⟩ := Int.eq_ofNat_of_zero_le hx.1
  obtain ⟨y, rfl⟩ := Int.eq_ofNat_of_zero_le hy.1
  obtain ⟨c, rfl⟩ := Int.eq_ofNat_of_zero_le hc.1
  rw [run_callFunc_extern Tryd.func61 (by kernel_rfl) (by kernel_rfl) (by kernel_rfl) (e := add64Entry) (by kernel_rfl), run_add64 x y c (by omega) (by omega) (by omega) (by omega)]
  rfl
set_option maxHeartbeats 8000000 in
set_option maxRecDepth 100000 in
theorem exact_Add.calls (a0_0 a0_1 a1_0 a1_1 : Int) (r1 r2 r3 : Int) (w : World) (h : exact_Add.f a0_0 a0_1 a1_0 a1_1 = some (r1, r2, r3)) :
    Calls Tryd.prog 42 #[.agg #[.int .u64 a0_0, .int .u64 a0_1], .agg #[.int .u64 a1_0, .int .u64 a1_1]] w fun e w' => e = .returned (.tuple #[.agg #[.int .u64 r1, .int .u64 r2], .int .i64 r3]) ∧ Below w.heap.size w w' := by
  unfold exact_Add.f at h
  split at h
  · rename_i hb
    have q1 := add64_run a0_1 a1_1 0 ⟨by omega, by omega⟩ ⟨by omega, by omega⟩ ⟨by omega, by omega⟩
    have q2 := add64_run a0_0 a1_0 ((a0_1 + a1_1 + 0) / 18446744073709551616) ⟨by omega, by omega⟩ ⟨by omega, by omega⟩ ⟨by omega, by omega⟩
    simp only [Int.add_zero] at q1 q2
    split at h
    · rename_i hc
      simp only [Option.some.injEq, Prod.mk.injEq] at h
      obtain ⟨rfl, rfl, rfl⟩ := h
      have e1 : (a0_0 + a1_0 + (a0_1 + a1_1) / 18446744073709551616) / 18446744073709551616 = 0 := by omega
      have e2 : (a0_0 + a1_0 + (a0_1 + a1_1) / 18446744073709551616) % 18446744073709551616 = a0_0 + a1_0 + (a0_1 + a1_1) / 18446744073709551616 := by omega
      rw [e1, e2] at q2
      go_enter Tryd.func42, Tryd.ntmps42
      go_wp2
      refine bodyPost_ret (results_ct rfl _ _ (w.heap.size + 1 + 1) 63 #[.int .u64 (a0_0 + a1_0 + (a0_1 + a1_1) / 18446744073709551616), .int .u64 ((a0_1 + a1_1) % 18446744073709551616)] (0, 0) _ rfl (by rw [show w.heap.size + 1 + 1 = ((w.alloc (.cells #[.int .u64 a0_0, .int .u64 a0_1] 63)).alloc (.cells #[.int .u64 a1_0, .int .u64 a1_1] 63)).heap.size from by show _ = ((w.heap.push _).push _).size; rw [Array.size_push, Array.size_push]]; exact blk_new _ _) Tryd.underlying63 rfl (by kernel_rfl)) rfl ?_
      exact ⟨by first | rfl | simp, by repeat (first | exact Below.refl _ _ | apply below_alloc | refine below_set ?_ (by show w.heap.size ≤ w.heap.size + 1 + 1; omega))⟩
    · rename_i hc
      simp only [Option.some.injEq, Prod.mk.injEq] at h
      obtain ⟨rfl, rfl, rfl⟩ := h
      have e1 : (a0_0 + a1_0 + (a0_1 + a1_1) / 18446744073709551616) / 18446744073709551616 = 1 := by omega
      rw [e1] at q2
      go_enter Tryd.func42, Tryd.ntmps42
      go_wp2
      refine bodyPost_ret (results_ct rfl _ _ (w.heap.size + 1 + 1) 63 #[.int .u64 (0), .int .u64 (0)] (0, 0) _ rfl (by rw [show w.heap.size + 1 + 1 = ((w.alloc (.cells #[.int .u64 a0_0, .int .u64 a0_1] 63)).alloc (.cells #[.int .u64 a1_0, .int .u64 a1_1] 63)).heap.size from by show _ = ((w.heap.push _).push _).size; rw [Array.size_push, Array.size_push]]; exact blk_new _ _) Tryd.underlying63 rfl (by kernel_rfl)) rfl ?_
      exact ⟨by first | rfl | simp, by repeat (first | exact Below.refl _ _ | apply below_alloc | refine below_set ?_ (by show w.heap.size ≤ w.heap.size + 1 + 1; omega))⟩
  · cases h
end Go.Proofs.YtfpkgdkcllobiaaDoor.F
end
section
namespace Go.Proofs.YtfpkgdkcllobiaaDoor.F
open Go.RowKit Go.Proofs.YtfpkgdkcllobiaaDoorW.PrintWords Go.Proofs.YtfpkgdkcllobiaaDoorW.PrintLast Go.Proofs.YtfpkgdkcllobiaaDoorW.PrintMore
attribute [local go_sem] max2_int min2_int max_two min_two
set_option linter.unusedVariables false
set_option linter.unusedSimpArgs false
def Pk (sg b : Bool) (rate v P s1 s2 t1 t2 : Int) : Prop :=
  (b = false ∧ t1 = s1 ∧ t2 = s2) ∨ (b = true ∧ ∃ m1 m2 c, exact_Mul.f (IntKind.u64.wrap (IntKind.u64.wrap rate * IntKind.u64.wrap v)) P = some (m1, m2) ∧ exact_CompareWide.f s1 s2 m1 m2 = some c ∧ ((sg = true ∧ decide (0 < c) = true ∧ t1 = m1 ∧ t2 = m2) ∨ (sg = true ∧ decide (0 < c) = false ∧ t1 = s1 ∧ t2 = s2) ∨ (sg = false ∧ decide (c < 0) = true ∧ t1 = m1 ∧ t2 = m2) ∨ (sg = false ∧ decide (c < 0) = false ∧ t1 = s1 ∧ t2 = s2)))
set_option maxHeartbeats 8000000 in
set_option maxRecDepth 100000 in
theorem duty_Evaluate.walk (K : Nat) (a0 a1 a2 : Int) (b3 : Bool) (a4 : Int) (b5 : Bool) (a6 a7 a8 P x1 x2 y1 y2 s1 s2 t1 t2 u1 u2 n e R1 R2 : Int) (w : World)
    (hV : Aside0 (duty_Validate.f K a0 a1 a2 b3 a4 b5 a6 = some 0)) (v0 : decide (a7 < 0) = false) (v1 : decide (1000000000000 < a7) = false) (q0 : decide (a8 < 0) = false) (q1 : decide (1000000000 < a8) = false)
    (hP : IntKind.u64.wrap (mx a2 1) = P)
    (A1 : Aside0 (exact_Mul.f (IntKind.u64.wrap (IntKind.u64.wrap a0 * IntKind.u64.wrap a7)) P = some (x1, x2))) (A2 : Aside0 (exact_Mul.f (IntKind.u64.wrap (IntKind.u64.wrap a1 * IntKind.u64.wrap a8)) 1000000 = some (y1, y2)))
    (A3 : Aside0 (exact_Add.f x1 x2 y1 y2 = some (s1, s2, 0))) (HM : Aside0 (Pk true b3 a4 a7 P s1 s2 t1 t2)) (HL : Aside0 (Pk false b5 a6 a7 P t1 t2 u1 u2))
    (A8 : Aside0 (exact_Div.f K u1 u2 (IntKind.u64.wrap (P * 1000000)) 2 = some (n, e)))
    (hres : Aside0 ((e ≠ 0 ∨ n > 1000000000000 → R1 = 0 ∧ R2 = 3) ∧ (¬ (e ≠ 0 ∨ n > 1000000000000) → R1 = wrap64 n ∧ R2 = 0))) :
    Calls Tryd.prog 20 #[.agg #[.int .i64 a0, .int .i64 a1, .int .i64 a2, .bool b3, .int .i64 a4, .bool b5, .int .i64 a6], .int .i64 a7, .int .i64 a8] w fun r w' => r = .returned (.tuple #[.int .i64 R1, .int .i64 R2]) ∧ Below w.heap.size w w' := by
  have hu23 := Tryd.underlying23
  have hu63 := Tryd.underlying63
  have HB := Aside0.mk (Below.refl w.heap.size w)
  go_enter Tryd.func20, Tryd.ntmps20
  go_upto_region 8 with (first | ((with_reducible refine gate_dst (N := 3) rfl ?_); refine box_event ?hg (N := 3) ?hd (cs := #[.int .i64 a0, .int .i64 a1, .int .i64 a2, .bool b3, .int .i64 a4, .bool b5, .int .i64 a6]) (t := 23) ?hr ?_; (case hd => rfl); (case hg => rfl); (case hr => first | (go_simp; done) | (go_simp; rfl)); intro g3 hg wb3 hbox hb; have HB3 := Aside0.mk (below_step HB.out hb); have BK3 := Aside0.mk hbox; have GE3 := Aside0.mk (show w.heap.size ≤ g3 by rw [hg]; exact Nat.le_refl _); clear hg hb hbox) | ((with_reducible refine gate_dst (N := 4) rfl ?_); refine box_event ?hg (N := 4) ?hd (cs := #[.int .i64 a7]) (t := 3) ?hr ?_; (case hd => rfl); (case hg => rfl); (case hr => first | (go_simp; done) | (go_simp; rfl)); intro g4 hg wb4 hbox hb; have HB4 := Aside0.mk (below_step HB3.out hb); have BK4 := Aside0.mk hbox; have BK34 := Aside0.mk (blk_below BK3.out hb); have hc3_0 := blk_cell BK34.out 0; have hc3_1 := blk_cell BK34.out 1; have hc3_2 := blk_cell BK34.out 2; have hc3_3 := blk_cell BK34.out 3; have hc3_4 := blk_cell BK34.out 4; have hc3_5 := blk_cell BK34.out 5; have hc3_6 := blk_cell BK34.out 6; have hc4 := blk_cell BK4.out 0; clear hg hb hbox) | ((with_reducible refine gate_callee (f := 11) rfl ?_); refine goesL_ (some 16) rfl rfl Tryd.func11 (by kernel_rfl) rfl #[.agg #[.int .i64 a0, .int .i64 a1, .int .i64 a2, .bool b3, .int .i64 a4, .bool b5, .int .i64 a6]] rfl (by (try simp only [List.map_toArray, List.map_cons, List.map_nil]); first | done | rfl) ?_; (with_reducible refine (duty_Validate.calls K a0 a1 a2 b3 a4 b5 a6 0 _ hV.out).mono ?_); rintro r wv ⟨rfl, hb⟩; refine ⟨_, rfl, ?_⟩; have HB5 := Aside0.mk (below_step HB4.out hb); have BK5_3 := Aside0.mk (blk_below BK34.out hb); have BK5_4 := Aside0.mk (blk_below BK4.out hb); have hv3_0 := blk_cell BK5_3.out 0; have hv3_1 := blk_cell BK5_3.out 1; have hv3_2 := blk_cell BK5_3.out 2; have hv3_3 := blk_cell BK5_3.out 3; have hv3_4 := blk_cell BK5_3.out 4; have hv3_5 := blk_cell BK5_3.out 5; have hv3_6 := blk_cell BK5_3.out 6; have hv4 := blk_cell BK5_4.out 0; clear hb) | ((with_reducible refine gate_dst (N := 9) rfl ?_); refine box_event ?hg (N := 9) ?hd (cs := #[.int .u64 0]) (t := 61) ?hr ?_; (case hd => rfl); (case hg => rfl); (case hr => first | (go_simp; done) | (go_simp; rfl)); intro g9 hg wb9 hbox hb; have HB9 := Aside0.mk (below_step HB5.out hb); have GE9 := Aside0.mk (show w.heap.size ≤ g9 by rw [hg]; exact HB5.out.size); have BK9 := Aside0.mk hbox; have BK9_3 := Aside0.mk (blk_below BK5_3.out hb); have BK9_4 := Aside0.mk (blk_below BK5_4.out hb); have hc9 := blk_cell BK9.out 0; have hf9 := blk_frozen BK9.out 0; clear hg hb hbox))
  (try simp only [Act.put, List.setIfInBounds_toArray, List.set_cons_zero, List.set_cons_succ])
  rw [show (if a2 < 1 then 1 else a2) = mx a2 1 from rfl, hP]
  have FR := Aside0.mk (Fr.mk (w0 := w) (below_set HB9.out GE9.out) (blk_far BK9_3.out (blk_ne BK9_3.out BK9.out (by decide)) (.int .u64 P)) (blk_far BK9_4.out (blk_ne BK9_4.out BK9.out (by decide)) _) (blk_put BK9.out 0 _ rfl))
  generalize wb9.setCell ⟨g9, 0, none⟩ (.int .u64 P) = w10 at FR ⊢
  clear hc9 hf9 BK9 BK9_3 BK9_4 GE9 HB9 hv4 hv3_0 hv3_1 hv3_2 hv3_3 hv3_4 hv3_5 hv3_6 BK5_3 BK5_4 HB5 hc4 hc3_0 hc3_1 hc3_2 hc3_3 hc3_4 hc3_5 hc3_6 BK34 BK4 HB4 GE3 BK3 HB3 HB
  refine start_ (n := 18) (S := fun w' => w'.cell? ⟨g3, 0, none⟩ = some (.int .i64 a0) ∧ w'.cell? ⟨g3, 1, none⟩ = some (.int .i64 a1)) (ds := []) #[false, false, false, false, false, false, false, false, false, false, false, false, false, false, false, false, false, false] (by kernel_rfl) rfl rfl ⟨(blk_cell FR.out.drew.b3 0).trans rfl, (blk_cell FR.out.drew.b3 1).trans rfl⟩ (fun hHeld => ?_)
  replace FR := Aside0.mk FR.out.drew
  refine pure_ (i := 0) (N := some 40) (v := ?_) (a' := ?_) #[true, false, false, false, false, false, false, false, false, false, false, false, false, false, false, false, false, false] rfl rfl (by kernel_rfl) (fun _ _ _ h => h) (Or.inl ⟨by rfl, ?_⟩) ?_ ?_
  rotate_left
  · intro w'
    go_simp
    with_reducible rfl
  rotate_left
  · simp only [Act.put, List.setIfInBounds_toArray, List.set_cons_zero, List.set_cons_succ, i64_w, i32_w]
    rfl
  refine pure_ (i := 1) (N := some 41) (v := ?_) (a' := ?_) #[true, true, false, false, false, false, false, false, false, false, false, false, false, false, false, false, false, false] rfl rfl (by kernel_rfl) (fun _ _ _ h => h) (Or.inl ⟨by rfl, ?_⟩) ?_ ?_
  rotate_left
  · intro w'
    go_simp
    with_reducible rfl
  rotate_left
  · simp only [Act.put, List.setIfInBounds_toArray, List.set_cons_zero, List.set_cons_succ, i64_w, i32_w]
    rfl
  refine pure_ (i := 4) (N := some 44) (v := ?_) (a' := ?_) #[true, true, false, false, true, false, false, false, false, false, false, false, false, false, false, false, false, false] rfl rfl (by kernel_rfl) (fun _ _ _ h => h) (Or.inl ⟨by rfl, ?_⟩) ?_ ?_
  rotate_left
  · intro w'
    go_simp
    with_reducible rfl
  rotate_left
  · simp only [Act.put, List.setIfInBounds_toArray, List.set_cons_zero, List.set_cons_succ, i64_w, i32_w]
    rfl
  refine pure_ (i := 7) (N := some 47) (v := ?_) (a' := ?_) #[true, true, false, false, true, false, false, true, false, false, false, false, false, false, false, false, false, false] rfl rfl (by kernel_rfl) (fun _ _ _ h => h) (Or.inl ⟨by rfl, ?_⟩) ?_ ?_
  rotate_left
  · intro w'
    go_simp
    with_reducible rfl
  rotate_left
  · simp only [Act.put, List.setIfInBounds_toArray, List.set_cons_zero, List.set_cons_succ, i64_w, i32_w]
    rfl
  refine pure_ (i := 8) (N := some 48) (v := ?_) (a' := ?_) #[true, true, false, false, true, false, false, true, true, false, false, false, false, false, false, false, false, false] rfl rfl (by kernel_rfl) (fun _ _ _ h => h) (Or.inl ⟨by rfl, ?_⟩) ?_ ?_
  rotate_left
  · intro w'
    go_simp
    with_reducible rfl
  rotate_left
  · simp only [Act.put, List.setIfInBounds_toArray, List.set_cons_zero, List.set_cons_succ, i64_w, i32_w]
    rfl
  refine take_ (i := 2) (N := some 42) (v := ?_) (a' := ?_) #[true, true, true, false, true, false, false, true, true, false, false, false, false, false, false, false, false, false] rfl rfl (by kernel_rfl) (fun _ _ _ h => h) (Or.inl ⟨by rfl, ?_⟩) hHeld ?_ ?_
  rotate_left
  · rintro w' ⟨s0, s1⟩
    go_simp
    with_reducible rfl
  rotate_left
  · simp only [Act.put, List.setIfInBounds_toArray, List.set_cons_zero, List.set_cons_succ, i64_w, i32_w]
    rfl
  refine take_ (i := 5) (N := some 45) (v := ?_) (a' := ?_) #[true, true, true, false, true, true, false, true, true, false, false, false, false, false, false, false, false, false] rfl rfl (by kernel_rfl) (fun _ _ _ h => h) (Or.inl ⟨by rfl, ?_⟩) hHeld ?_ ?_
  rotate_left
  · rintro w' ⟨s0, s1⟩
    go_simp
    with_reducible rfl
  rotate_left
  · simp only [Act.put, List.setIfInBounds_toArray, List.set_cons_zero, List.set_cons_succ, i64_w, i32_w]
    rfl
  refine pure_ (i := 6) (N := some 46) (v := ?_) (a' := ?_) #[true, true, true, false, true, true, true, true, true, false, false, false, false, false, false, false, false, false] rfl rfl (by kernel_rfl) (fun _ _ _ h => h) (Or.inl ⟨by rfl, ?_⟩) ?_ ?_
  rotate_left
  · intro w'
    go_simp
    with_reducible rfl
  rotate_left
  · simp only [Act.put, List.setIfInBounds_toArray, List.set_cons_zero, List.set_cons_succ, i64_w, i32_w]
    rfl
  refine pure_ (i := 9) (N := some 49) (v := ?_) (a' := ?_) #[true, true, true, false, true, true, true, true, true, true, false, false, false, false, false, false, false, false] rfl rfl (by kernel_rfl) (fun _ _ _ h => h) (Or.inl ⟨by rfl, ?_⟩) ?_ ?_
  rotate_left
  · intro w'
    go_simp
    with_reducible rfl
  rotate_left
  · simp only [Act.put, List.setIfInBounds_toArray, List.set_cons_zero, List.set_cons_succ, i64_w, i32_w]
    rfl
  refine join_ (σ := Nat) 2 #[true, true, true, true, true, true, true, true, true, true, true, true, true, true, true, true, false, false] (fun s_ => [(43, .agg #[.int .u64 x1, .int .u64 x2]), (50, .agg #[.int .u64 y1, .int .u64 y2]), (51, .tuple #[.agg #[.int .u64 s1, .int .u64 s2], .int .i64 0]), (39, .tuple #[.agg #[.int .u64 s1, .int .u64 s2], .int .i64 0]), (52, .agg #[.int .u64 s1, .int .u64 s2]), (53, .int .i64 0), (11, .pointer (some ⟨s_, 0, none⟩))]) (fun s_ w' => (w'.cell? ⟨g3, 0, none⟩ = some (.int .i64 a0) ∧ w'.cell? ⟨g3, 1, none⟩ = some (.int .i64 a1)) ∧ Fs w g3 g4 g9 s_ #[.int .i64 a0, .int .i64 a1, .int .i64 a2, .bool b3, .int .i64 a4, .bool b5, .int .i64 a6] a7 P 0 0 w') ?_ ?_
  rotate_left
  · intro hCont
    refine two_ (i := 3) (j := 15) (Ni := some 43) (Nj := some 11) #[true, true, true, true, true, true, true, true, true, true, false, false, false, false, false, false, false, false] #[true, true, true, false, true, true, true, true, true, true, false, false, false, false, false, true, false, false] rfl rfl rfl rfl (by kernel_rfl) (by decide) (by decide) (fun K hK => ?_) (fun K hK => ?_)
    · skip
      refine goesV_ Tryd.func40 (by kernel_rfl) rfl #[.int .i64 a0] (by rfl) rfl rfl rfl (by simp only [List.map_toArray, List.map_cons, List.map_nil]; rfl) ?_
      refine calls_of_args (args' := #[.int .i64 a0, .pointer (some ⟨g4, 0, none⟩), .pointer (some ⟨g9, 0, none⟩)]) rfl ?_
      with_reducible refine (duty_share.calls a0 a7 P g4 g9 x1 x2 _ FR.out.b4 FR.out.b9 A1.out).mono ?_
      rintro r wq ⟨rfl, hb⟩
      refine ⟨_, rfl, ?_⟩
      replace FR := Aside0.mk (FR.out.step hb)
      clear hb
      refine hK.out _ _ ⟨(blk_cell FR.out.b3 0).trans rfl, (blk_cell FR.out.b3 1).trans rfl⟩ (fun hHeld => ?_)
      clear hK K
      refine norm_ (a' := ?_) ?_ ?_
      rotate_left
      · show Act.put _ (some 43) _ = _
        simp only [Act.put, List.setIfInBounds_toArray, List.set_cons_zero, List.set_cons_succ, i64_w, i32_w]
        rfl
      refine two_ (i := 10) (j := 15) (Ni := some 50) (Nj := some 11) #[true, true, true, true, true, true, true, true, true, true, true, false, false, false, false, false, false, false] #[true, true, true, true, true, true, true, true, true, true, false, false, false, false, false, true, false, false] rfl rfl rfl rfl (by kernel_rfl) (by decide) (by decide) (fun K hK => ?_) (fun K hK => ?_)
      · skip
        refine goes_ Tryd.func41 (by kernel_rfl) rfl #[.int .u64 (IntKind.u64.wrap (IntKind.u64.wrap a1 * IntKind.u64.wrap a8)), .int .u64 1000000] (by rfl) rfl rfl (by simp only [List.map_toArray, List.map_cons, List.map_nil]; rfl) ?_
        with_reducible refine (exact_Mul.calls _ _ y1 y2 _ A2.out).mono ?_
        rintro r wq ⟨rfl, hb⟩
        refine ⟨_, rfl, ?_⟩
        replace FR := Aside0.mk (FR.out.step hb)
        clear hb
        refine hK.out _ _ ⟨(blk_cell FR.out.b3 0).trans rfl, (blk_cell FR.out.b3 1).trans rfl⟩ (fun hHeld => ?_)
        clear hK K
        refine norm_ (a' := ?_) ?_ ?_
        rotate_left
        · show Act.put _ (some 50) _ = _
          simp only [Act.put, List.setIfInBounds_toArray, List.set_cons_zero, List.set_cons_succ, i64_w, i32_w]
          rfl
        refine two_ (i := 11) (j := 15) (Ni := some 51) (Nj := some 11) #[true, true, true, true, true, true, true, true, true, true, true, true, false, false, false, false, false, false] #[true, true, true, true, true, true, true, true, true, true, true, false, false, false, false, true, false, false] rfl rfl rfl rfl (by kernel_rfl) (by decide) (by decide) (fun K hK => ?_) (fun K hK => ?_)
        · skip
          refine goes_ Tryd.func42 (by kernel_rfl) rfl #[.agg #[.int .u64 x1, .int .u64 x2], .agg #[.int .u64 y1, .int .u64 y2]] (by rfl) rfl rfl (by simp only [List.map_toArray, List.map_cons, List.map_nil]; rfl) ?_
          with_reducible refine (exact_Add.calls x1 x2 y1 y2 s1 s2 0 _ A3.out).mono ?_
          rintro r wq ⟨rfl, hb⟩
          refine ⟨_, rfl, ?_⟩
          replace FR := Aside0.mk (FR.out.step hb)
          clear hb
          refine hK.out _ _ ⟨(blk_cell FR.out.b3 0).trans rfl, (blk_cell FR.out.b3 1).trans rfl⟩ (fun hHeld => ?_)
          clear hK K
          refine norm_ (a' := ?_) ?_ ?_
          rotate_left
          · show Act.put _ (some 51) _ = _
            simp only [Act.put, List.setIfInBounds_toArray, List.set_cons_zero, List.set_cons_succ, i64_w, i32_w]
            rfl
          refine pure_ (i := 12) (N := some 39) (v := ?_) (a' := ?_) #[true, true, true, true, true, true, true, true, true, true, true, true, true, false, false, false, false, false] rfl rfl (by kernel_rfl) (fun _ _ _ h => h) (Or.inl ⟨by rfl, ?_⟩) ?_ ?_
          rotate_left
          · intro w'
            go_simp
            with_reducible rfl
          rotate_left
          · simp only [Act.put, List.setIfInBounds_toArray, List.set_cons_zero, List.set_cons_succ, i64_w, i32_w]
            rfl
          refine pure_ (i := 13) (N := some 52) (v := ?_) (a' := ?_) #[true, true, true, true, true, true, true, true, true, true, true, true, true, true, false, false, false, false] rfl rfl (by kernel_rfl) (fun _ _ _ h => h) (Or.inl ⟨by rfl, ?_⟩) ?_ ?_
          rotate_left
          · intro w'
            go_simp
            with_reducible rfl
          rotate_left
          · simp only [Act.put, List.setIfInBounds_toArray, List.set_cons_zero, List.set_cons_succ, i64_w, i32_w]
            rfl
          refine pure_ (i := 14) (N := some 53) (v := ?_) (a' := ?_) #[true, true, true, true, true, true, true, true, true, true, true, true, true, true, true, false, false, false] rfl rfl (by kernel_rfl) (fun _ _ _ h => h) (Or.inl ⟨by rfl, ?_⟩) ?_ ?_
          rotate_left
          · intro w'
            go_simp
            with_reducible rfl
          rotate_left
          · simp only [Act.put, List.setIfInBounds_toArray, List.set_cons_zero, List.set_cons_succ, i64_w, i32_w]
            rfl
          refine one_ (i := 15) (N := some 11) #[true, true, true, true, true, true, true, true, true, true, true, true, true, true, true, true, false, false] rfl rfl (by kernel_rfl) (by decide) (fun K hK => ?_)
          refine box_step ?hg (N := 11) ?hd (cs := #[.int .u64 0, .int .u64 0]) (t := 63) ?hr ?_; (case hd => rfl); (case hg => rfl); (case hr => first | (go_simp; done) | (go_simp; rfl))
          intro g11 hg wq hbox hb
          have FS := Aside0.mk (Fs.mk (g11 := g11) (FR.out.step hb) hbox (by rw [hg]; exact FR.out.hb.size))
          clear hb hbox hg FR
          refine hK.out _ _ ⟨(blk_cell FS.out.fr.b3 0).trans rfl, (blk_cell FS.out.fr.b3 1).trans rfl⟩ (fun hHeld => ?_)
          clear hK K
          refine norm_ (a' := ?_) ?_ ?_
          rotate_left
          · show Act.put _ (some 11) _ = _
            simp only [Act.put, List.setIfInBounds_toArray, List.set_cons_zero, List.set_cons_succ, i64_w, i32_w]
            rfl
          exact norm_ (by simp only [putAll, Act.put, List.setIfInBounds_toArray, List.set_cons_zero, List.set_cons_succ]) (hCont g11 _ ⟨hHeld, FS.out⟩)
        · skip
          refine box_step ?hg (N := 11) ?hd (cs := #[.int .u64 0, .int .u64 0]) (t := 63) ?hr ?_; (case hd => rfl); (case hg => rfl); (case hr => first | (go_simp; done) | (go_simp; rfl))
          intro g11 hg wq hbox hb
          have FS := Aside0.mk (Fs.mk (g11 := g11) (FR.out.step hb) hbox (by rw [hg]; exact FR.out.hb.size))
          clear hb hbox hg FR
          refine hK.out _ _ ⟨(blk_cell FS.out.fr.b3 0).trans rfl, (blk_cell FS.out.fr.b3 1).trans rfl⟩ (fun hHeld => ?_)
          clear hK K
          refine norm_ (a' := ?_) ?_ ?_
          rotate_left
          · show Act.put _ (some 11) _ = _
            simp only [Act.put, List.setIfInBounds_toArray, List.set_cons_zero, List.set_cons_succ, i64_w, i32_w]
            rfl
          refine one_ (i := 11) (N := some 51) #[true, true, true, true, true, true, true, true, true, true, true, true, false, false, false, true, false, false] rfl rfl (by kernel_rfl) (by decide) (fun K hK => ?_)
          refine goes_ Tryd.func42 (by kernel_rfl) rfl #[.agg #[.int .u64 x1, .int .u64 x2], .agg #[.int .u64 y1, .int .u64 y2]] (by rfl) rfl rfl (by simp only [List.map_toArray, List.map_cons, List.map_nil]; rfl) ?_
          with_reducible refine (exact_Add.calls x1 x2 y1 y2 s1 s2 0 _ A3.out).mono ?_
          rintro r wq ⟨rfl, hb⟩
          refine ⟨_, rfl, ?_⟩
          replace FS := Aside0.mk (FS.out.step hb)
          clear hb
          refine hK.out _ _ ⟨(blk_cell FS.out.fr.b3 0).trans rfl, (blk_cell FS.out.fr.b3 1).trans rfl⟩ (fun hHeld => ?_)
          clear hK K
          refine norm_ (a' := ?_) ?_ ?_
          rotate_left
          · show Act.put _ (some 51) _ = _
            simp only [Act.put, List.setIfInBounds_toArray, List.set_cons_zero, List.set_cons_succ, i64_w, i32_w]
            rfl
          refine pure_ (i := 12) (N := some 39) (v := ?_) (a' := ?_) #[true, true, true, true, true, true, true, true, true, true, true, true, true, false, false, true, false, false] rfl rfl (by kernel_rfl) (fun _ _ _ h => h) (Or.inl ⟨by rfl, ?_⟩) ?_ ?_
          rotate_left
          · intro w'
            go_simp
            with_reducible rfl
          rotate_left
          · simp only [Act.put, List.setIfInBounds_toArray, List.set_cons_zero, List.set_cons_succ, i64_w, i32_w]
            rfl
          refine pure_ (i := 13) (N := some 52) (v := ?_) (a' := ?_) #[true, true, true, true, true, true, true, true, true, true, true, true, true, true, false, true, false, false] rfl rfl (by kernel_rfl) (fun _ _ _ h => h) (Or.inl ⟨by rfl, ?_⟩) ?_ ?_
          rotate_left
          · intro w'
            go_simp
            with_reducible rfl
          rotate_left
          · simp only [Act.put, List.setIfInBounds_toArray, List.set_cons_zero, List.set_cons_succ, i64_w, i32_w]
            rfl
          refine pure_ (i := 14) (N := some 53) (v := ?_) (a' := ?_) #[true, true, true, true, true, true, true, true, true, true, true, true, true, true, true, true, false, false] rfl rfl (by kernel_rfl) (fun _ _ _ h => h) (Or.inl ⟨by rfl, ?_⟩) ?_ ?_
          rotate_left
          · intro w'
            go_simp
            with_reducible rfl
          rotate_left
          · simp only [Act.put, List.setIfInBounds_toArray, List.set_cons_zero, List.set_cons_succ, i64_w, i32_w]
            rfl
          exact norm_ (by simp only [putAll, Act.put, List.setIfInBounds_toArray, List.set_cons_zero, List.set_cons_succ]) (hCont g11 _ ⟨hHeld, FS.out⟩)
      · skip
        refine box_step ?hg (N := 11) ?hd (cs := #[.int .u64 0, .int .u64 0]) (t := 63) ?hr ?_; (case hd => rfl); (case hg => rfl); (case hr => first | (go_simp; done) | (go_simp; rfl))
        intro g11 hg wq hbox hb
        have FS := Aside0.mk (Fs.mk (g11 := g11) (FR.out.step hb) hbox (by rw [hg]; exact FR.out.hb.size))
        clear hb hbox hg FR
        refine hK.out _ _ ⟨(blk_cell FS.out.fr.b3 0).trans rfl, (blk_cell FS.out.fr.b3 1).trans rfl⟩ (fun hHeld => ?_)
        clear hK K
        refine norm_ (a' := ?_) ?_ ?_
        rotate_left
        · show Act.put _ (some 11) _ = _
          simp only [Act.put, List.setIfInBounds_toArray, List.set_cons_zero, List.set_cons_succ, i64_w, i32_w]
          rfl
        refine one_ (i := 10) (N := some 50) #[true, true, true, true, true, true, true, true, true, true, true, false, false, false, false, true, false, false] rfl rfl (by kernel_rfl) (by decide) (fun K hK => ?_)
        refine goes_ Tryd.func41 (by kernel_rfl) rfl #[.int .u64 (IntKind.u64.wrap (IntKind.u64.wrap a1 * IntKind.u64.wrap a8)), .int .u64 1000000] (by rfl) rfl rfl (by simp only [List.map_toArray, List.map_cons, List.map_nil]; rfl) ?_
        with_reducible refine (exact_Mul.calls _ _ y1 y2 _ A2.out).mono ?_
        rintro r wq ⟨rfl, hb⟩
        refine ⟨_, rfl, ?_⟩
        replace FS := Aside0.mk (FS.out.step hb)
        clear hb
        refine hK.out _ _ ⟨(blk_cell FS.out.fr.b3 0).trans rfl, (blk_cell FS.out.fr.b3 1).trans rfl⟩ (fun hHeld => ?_)
        clear hK K
        refine norm_ (a' := ?_) ?_ ?_
        rotate_left
        · show Act.put _ (some 50) _ = _
          simp only [Act.put, List.setIfInBounds_toArray, List.set_cons_zero, List.set_cons_succ, i64_w, i32_w]
          rfl
        refine one_ (i := 11) (N := some 51) #[true, true, true, true, true, true, true, true, true, true, true, true, false, false, false, true, false, false] rfl rfl (by kernel_rfl) (by decide) (fun K hK => ?_)
        refine goes_ Tryd.func42 (by kernel_rfl) rfl #[.agg #[.int .u64 x1, .int .u64 x2], .agg #[.int .u64 y1, .int .u64 y2]] (by rfl) rfl rfl (by simp only [List.map_toArray, List.map_cons, List.map_nil]; rfl) ?_
        with_reducible refine (exact_Add.calls x1 x2 y1 y2 s1 s2 0 _ A3.out).mono ?_
        rintro r wq ⟨rfl, hb⟩
        refine ⟨_, rfl, ?_⟩
        replace FS := Aside0.mk (FS.out.step hb)
        clear hb
        refine hK.out _ _ ⟨(blk_cell FS.out.fr.b3 0).trans rfl, (blk_cell FS.out.fr.b3 1).trans rfl⟩ (fun hHeld => ?_)
        clear hK K
        refine norm_ (a' := ?_) ?_ ?_
        rotate_left
        · show Act.put _ (some 51) _ = _
          simp only [Act.put, List.setIfInBounds_toArray, List.set_cons_zero, List.set_cons_succ, i64_w, i32_w]
          rfl
        refine pure_ (i := 12) (N := some 39) (v := ?_) (a' := ?_) #[true, true, true, true, true, true, true, true, true, true, true, true, true, false, false, true, false, false] rfl rfl (by kernel_rfl) (fun _ _ _ h => h) (Or.inl ⟨by rfl, ?_⟩) ?_ ?_
        rotate_left
        · intro w'
          go_simp
          with_reducible rfl
        rotate_left
        · simp only [Act.put, List.setIfInBounds_toArray, List.set_cons_zero, List.set_cons_succ, i64_w, i32_w]
          rfl
        refine pure_ (i := 13) (N := some 52) (v := ?_) (a' := ?_) #[true, true, true, true, true, true, true, true, true, true, true, true, true, true, false, true, false, false] rfl rfl (by kernel_rfl) (fun _ _ _ h => h) (Or.inl ⟨by rfl, ?_⟩) ?_ ?_
        rotate_left
        · intro w'
          go_simp
          with_reducible rfl
        rotate_left
        · simp only [Act.put, List.setIfInBounds_toArray, List.set_cons_zero, List.set_cons_succ, i64_w, i32_w]
          rfl
        refine pure_ (i := 14) (N := some 53) (v := ?_) (a' := ?_) #[true, true, true, true, true, true, true, true, true, true, true, true, true, true, true, true, false, false] rfl rfl (by kernel_rfl) (fun _ _ _ h => h) (Or.inl ⟨by rfl, ?_⟩) ?_ ?_
        rotate_left
        · intro w'
          go_simp
          with_reducible rfl
        rotate_left
        · simp only [Act.put, List.setIfInBounds_toArray, List.set_cons_zero, List.set_cons_succ, i64_w, i32_w]
          rfl
        exact norm_ (by simp only [putAll, Act.put, List.setIfInBounds_toArray, List.set_cons_zero, List.set_cons_succ]) (hCont g11 _ ⟨hHeld, FS.out⟩)
    · skip
      refine box_step ?hg (N := 11) ?hd (cs := #[.int .u64 0, .int .u64 0]) (t := 63) ?hr ?_; (case hd => rfl); (case hg => rfl); (case hr => first | (go_simp; done) | (go_simp; rfl))
      intro g11 hg wq hbox hb
      have FS := Aside0.mk (Fs.mk (g11 := g11) (FR.out.step hb) hbox (by rw [hg]; exact FR.out.hb.size))
      clear hb hbox hg FR
      refine hK.out _ _ ⟨(blk_cell FS.out.fr.b3 0).trans rfl, (blk_cell FS.out.fr.b3 1).trans rfl⟩ (fun hHeld => ?_)
      clear hK K
      refine norm_ (a' := ?_) ?_ ?_
      rotate_left
      · show Act.put _ (some 11) _ = _
        simp only [Act.put, List.setIfInBounds_toArray, List.set_cons_zero, List.set_cons_succ, i64_w, i32_w]
        rfl
      refine one_ (i := 3) (N := some 43) #[true, true, true, true, true, true, true, true, true, true, false, false, false, false, false, true, false, false] rfl rfl (by kernel_rfl) (by decide) (fun K hK => ?_)
      refine goesV_ Tryd.func40 (by kernel_rfl) rfl #[.int .i64 a0] (by rfl) rfl rfl rfl (by simp only [List.map_toArray, List.map_cons, List.map_nil]; rfl) ?_
      refine calls_of_args (args' := #[.int .i64 a0, .pointer (some ⟨g4, 0, none⟩), .pointer (some ⟨g9, 0, none⟩)]) rfl ?_
      with_reducible refine (duty_share.calls a0 a7 P g4 g9 x1 x2 _ FS.out.fr.b4 FS.out.fr.b9 A1.out).mono ?_
      rintro r wq ⟨rfl, hb⟩
      refine ⟨_, rfl, ?_⟩
      replace FS := Aside0.mk (FS.out.step hb)
      clear hb
      refine hK.out _ _ ⟨(blk_cell FS.out.fr.b3 0).trans rfl, (blk_cell FS.out.fr.b3 1).trans rfl⟩ (fun hHeld => ?_)
      clear hK K
      refine norm_ (a' := ?_) ?_ ?_
      rotate_left
      · show Act.put _ (some 43) _ = _
        simp only [Act.put, List.setIfInBounds_toArray, List.set_cons_zero, List.set_cons_succ, i64_w, i32_w]
        rfl
      refine one_ (i := 10) (N := some 50) #[true, true, true, true, true, true, true, true, true, true, true, false, false, false, false, true, false, false] rfl rfl (by kernel_rfl) (by decide) (fun K hK => ?_)
      refine goes_ Tryd.func41 (by kernel_rfl) rfl #[.int .u64 (IntKind.u64.wrap (IntKind.u64.wrap a1 * IntKind.u64.wrap a8)), .int .u64 1000000] (by rfl) rfl rfl (by simp only [List.map_toArray, List.map_cons, List.map_nil]; rfl) ?_
      with_reducible refine (exact_Mul.calls _ _ y1 y2 _ A2.out).mono ?_
      rintro r wq ⟨rfl, hb⟩
      refine ⟨_, rfl, ?_⟩
      replace FS := Aside0.mk (FS.out.step hb)
      clear hb
      refine hK.out _ _ ⟨(blk_cell FS.out.fr.b3 0).trans rfl, (blk_cell FS.out.fr.b3 1).trans rfl⟩ (fun hHeld => ?_)
      clear hK K
      refine norm_ (a' := ?_) ?_ ?_
      rotate_left
      · show Act.put _ (some 50) _ = _
        simp only [Act.put, List.setIfInBounds_toArray, List.set_cons_zero, List.set_cons_succ, i64_w, i32_w]
        rfl
      refine one_ (i := 11) (N := some 51) #[true, true, true, true, true, true, true, true, true, true, true, true, false, false, false, true, false, false] rfl rfl (by kernel_rfl) (by decide) (fun K hK => ?_)
      refine goes_ Tryd.func42 (by kernel_rfl) rfl #[.agg #[.int .u64 x1, .int .u64 x2], .agg #[.int .u64 y1, .int .u64 y2]] (by rfl) rfl rfl (by simp only [List.map_toArray, List.map_cons, List.map_nil]; rfl) ?_
      with_reducible refine (exact_Add.calls x1 x2 y1 y2 s1 s2 0 _ A3.out).mono ?_
      rintro r wq ⟨rfl, hb⟩
      refine ⟨_, rfl, ?_⟩
      replace FS := Aside0.mk (FS.out.step hb)
      clear hb
      refine hK.out _ _ ⟨(blk_cell FS.out.fr.b3 0).trans rfl, (blk_cell FS.out.fr.b3 1).trans rfl⟩ (fun hHeld => ?_)
      clear hK K
      refine norm_ (a' := ?_) ?_ ?_
      rotate_left
      · show Act.put _ (some 51) _ = _
        simp only [Act.put, List.setIfInBounds_toArray, List.set_cons_zero, List.set_cons_succ, i64_w, i32_w]
        rfl
      refine pure_ (i := 12) (N := some 39) (v := ?_) (a' := ?_) #[true, true, true, true, true, true, true, true, true, true, true, true, true, false, false, true, false, false] rfl rfl (by kernel_rfl) (fun _ _ _ h => h) (Or.inl ⟨by rfl, ?_⟩) ?_ ?_
      rotate_left
      · intro w'
        go_simp
        with_reducible rfl
      rotate_left
      · simp only [Act.put, List.setIfInBounds_toArray, List.set_cons_zero, List.set_cons_succ, i64_w, i32_w]
        rfl
      refine pure_ (i := 13) (N := some 52) (v := ?_) (a' := ?_) #[true, true, true, true, true, true, true, true, true, true, true, true, true, true, false, true, false, false] rfl rfl (by kernel_rfl) (fun _ _ _ h => h) (Or.inl ⟨by rfl, ?_⟩) ?_ ?_
      rotate_left
      · intro w'
        go_simp
        with_reducible rfl
      rotate_left
      · simp only [Act.put, List.setIfInBounds_toArray, List.set_cons_zero, List.set_cons_succ, i64_w, i32_w]
        rfl
      refine pure_ (i := 14) (N := some 53) (v := ?_) (a' := ?_) #[true, true, true, true, true, true, true, true, true, true, true, true, true, true, true, true, false, false] rfl rfl (by kernel_rfl) (fun _ _ _ h => h) (Or.inl ⟨by rfl, ?_⟩) ?_ ?_
      rotate_left
      · intro w'
        go_simp
        with_reducible rfl
      rotate_left
      · simp only [Act.put, List.setIfInBounds_toArray, List.set_cons_zero, List.set_cons_succ, i64_w, i32_w]
        rfl
      exact norm_ (by simp only [putAll, Act.put, List.setIfInBounds_toArray, List.set_cons_zero, List.set_cons_succ]) (hCont g11 _ ⟨hHeld, FS.out⟩)
  rintro g11 wj ⟨hS_, hF_⟩
  have FS := Aside0.mk hF_
  clear hF_ FR
  have hHeld : wj.cell? ⟨g3, 0, none⟩ = some (.int .i64 a0) ∧ wj.cell? ⟨g3, 1, none⟩ = some (.int .i64 a1) := hS_
  refine norm_ (a' := ?_) ?_ ?_
  rotate_left
  · simp only [putAll, Act.put, List.setIfInBounds_toArray, List.set_cons_zero, List.set_cons_succ]
    rfl
  refine one_ (i := 16) (N := none) #[true, true, true, true, true, true, true, true, true, true, true, true, true, true, true, true, true, false] rfl rfl (by kernel_rfl) (by decide) (fun K hK => ?_)
  have hs0 : wj.cell? ⟨g11, 0, none⟩ = some (.int .u64 0) := (blk_cell FS.out.b11 0).trans rfl
  have hs1 : wj.cell? ⟨g11, 1, none⟩ = some (.int .u64 0) := (blk_cell FS.out.b11 1).trans rfl
  have hf0 := blk_frozen FS.out.b11 0
  have hf1 := blk_frozen FS.out.b11 1
  refine skip_ (w1 := ?_) (by rfl) rfl ?_ ?_
  rotate_left
  · go_simp
    rfl
  replace FS := Aside0.mk (FS.out.put s1 s2)
  clear hs0 hs1 hf0 hf1
  refine hK.out _ _ ⟨(blk_cell FS.out.fr.b3 0).trans rfl, (blk_cell FS.out.fr.b3 1).trans rfl⟩ (fun hHeld => ?_)
  clear hK K
  refine pure_ (i := 17) (N := some 12) (v := ?_) (a' := ?_) #[true, true, true, true, true, true, true, true, true, true, true, true, true, true, true, true, true, true] rfl rfl (by kernel_rfl) (fun _ _ _ h => h) (Or.inl ⟨by rfl, ?_⟩) ?_ ?_
  rotate_left
  · intro w'
    go_simp
    with_reducible rfl
  rotate_left
  · simp only [Act.put, List.setIfInBounds_toArray, List.set_cons_zero, List.set_cons_succ, i64_w, i32_w]
    rfl
  refine done_ (by kernel_rfl) ?_
  generalize (wj.setCell ⟨g11, 0, none⟩ (.int .u64 s1)).setCell ⟨g11, 1, none⟩ (.int .u64 s2) = w11 at FS hHeld ⊢
  clear hHeld
  go_upto_region 9 with (fail)
  go_cut [64] (fun v wc => ∃ bb : Bool, v = .bool bb ∧ Aside0 (Fs w g3 g4 g9 g11 #[.int .i64 a0, .int .i64 a1, .int .i64 a2, .bool b3, .int .i64 a4, .bool b5, .int .i64 a6] a7 P s1 s2 wc) ∧ Aside0 ((bb = false ∧ t1 = s1 ∧ t2 = s2) ∨ (bb = true ∧ exact_Mul.f (IntKind.u64.wrap (IntKind.u64.wrap a4 * IntKind.u64.wrap a7)) P = some (t1, t2))))
  case first =>
    rcases HM.out with ⟨hbb, et1, et2⟩ | ⟨hbb, m1, m2, c, N1, N2, M3⟩
    · subst hbb
      have ht1 := Aside0.mk et1
      have ht2 := Aside0.mk et2
      clear et1 et2
      refine start_ (n := 11) (S := fun w' => w'.cell? ⟨g3, 3, none⟩ = some (.bool false) ∧ w'.cell? ⟨g3, 4, none⟩ = some (.int .i64 a4) ∧ w'.cell? ⟨g11, 0, none⟩ = some (.int .u64 s1) ∧ w'.cell? ⟨g11, 1, none⟩ = some (.int .u64 s2)) (ds := []) #[false, false, false, false, false, false, false, false, false, false, false] (by kernel_rfl) rfl rfl ⟨(blk_cell FS.out.drew.fr.b3 3).trans rfl, (blk_cell FS.out.drew.fr.b3 4).trans rfl, (blk_cell FS.out.drew.b11 0).trans rfl, (blk_cell FS.out.drew.b11 1).trans rfl⟩ (fun hHeld => ?_)
      replace FS := Aside0.mk FS.out.drew
      refine pure_ (i := 0) (N := some 54) (v := ?_) (a' := ?_) #[true, false, false, false, false, false, false, false, false, false, false] rfl rfl (by kernel_rfl) (fun _ _ _ h => h) (Or.inl ⟨by rfl, ?_⟩) ?_ ?_
      rotate_left
      · intro w'
        go_simp
        with_reducible rfl
      rotate_left
      · simp only [Act.put, List.setIfInBounds_toArray, List.set_cons_zero, List.set_cons_succ, i64_w, i32_w]
        rfl
      refine take_ (i := 1) (N := some 55) (v := ?_) (a' := ?_) #[true, true, false, false, false, false, false, false, false, false, false] rfl rfl (by kernel_rfl) (fun _ _ _ h => h) (Or.inl ⟨by rfl, ?_⟩) hHeld ?_ ?_
      rotate_left
      · rintro w' ⟨s0, s1, s2, s3⟩
        go_simp
        with_reducible rfl
      rotate_left
      · simp only [Act.put, List.setIfInBounds_toArray, List.set_cons_zero, List.set_cons_succ, i64_w, i32_w]
        rfl
      refine pure_ (i := 2) (N := some 56) (v := ?_) (a' := ?_) #[true, true, true, false, false, false, false, false, false, false, false] rfl rfl (by kernel_rfl) (fun _ _ _ h => h) (Or.inl ⟨by rfl, ?_⟩) ?_ ?_
      rotate_left
      · intro w'
        go_simp
        with_reducible rfl
      rotate_left
      · simp only [Act.put, List.setIfInBounds_toArray, List.set_cons_zero, List.set_cons_succ, i64_w, i32_w]
        rfl
      refine pure_ (i := 3) (N := some 57) (v := undef) (a' := ?_) #[true, true, true, true, false, false, false, false, false, false, false] rfl rfl (by kernel_rfl) (fun _ _ _ h => h) (Or.inr ⟨by rfl, rfl⟩) ?_ ?_
      rotate_left
      · simp only [Act.put, List.setIfInBounds_toArray, List.set_cons_zero, List.set_cons_succ, i64_w, i32_w]
        rfl
      refine pure_ (i := 4) (N := some 58) (v := undef) (a' := ?_) #[true, true, true, true, true, false, false, false, false, false, false] rfl rfl (by kernel_rfl) (fun _ _ _ h => h) (Or.inr ⟨by rfl, rfl⟩) ?_ ?_
      rotate_left
      · simp only [Act.put, List.setIfInBounds_toArray, List.set_cons_zero, List.set_cons_succ, i64_w, i32_w]
        rfl
      refine pure_ (i := 5) (N := some 59) (v := undef) (a' := ?_) #[true, true, true, true, true, true, false, false, false, false, false] rfl rfl (by kernel_rfl) (fun _ _ _ h => h) (Or.inr ⟨by rfl, rfl⟩) ?_ ?_
      rotate_left
      · simp only [Act.put, List.setIfInBounds_toArray, List.set_cons_zero, List.set_cons_succ, i64_w, i32_w]
        rfl
      refine pure_ (i := 6) (N := some 60) (v := undef) (a' := ?_) #[true, true, true, true, true, true, true, false, false, false, false] rfl rfl (by kernel_rfl) (fun _ _ _ h => h) (Or.inr ⟨by rfl, rfl⟩) ?_ ?_
      rotate_left
      · simp only [Act.put, List.setIfInBounds_toArray, List.set_cons_zero, List.set_cons_succ, i64_w, i32_w]
        rfl
      refine pure_ (i := 7) (N := some 61) (v := undef) (a' := ?_) #[true, true, true, true, true, true, true, true, false, false, false] rfl rfl (by kernel_rfl) (fun _ _ _ h => h) (Or.inr ⟨by rfl, rfl⟩) ?_ ?_
      rotate_left
      · simp only [Act.put, List.setIfInBounds_toArray, List.set_cons_zero, List.set_cons_succ, i64_w, i32_w]
        rfl
      refine pure_ (i := 8) (N := some 62) (v := undef) (a' := ?_) #[true, true, true, true, true, true, true, true, true, false, false] rfl rfl (by kernel_rfl) (fun _ _ _ h => h) (Or.inr ⟨by rfl, rfl⟩) ?_ ?_
      rotate_left
      · simp only [Act.put, List.setIfInBounds_toArray, List.set_cons_zero, List.set_cons_succ, i64_w, i32_w]
        rfl
      refine pure_ (i := 9) (N := some 63) (v := undef) (a' := ?_) #[true, true, true, true, true, true, true, true, true, true, false] rfl rfl (by kernel_rfl) (fun _ _ _ h => h) (Or.inr ⟨by rfl, rfl⟩) ?_ ?_
      rotate_left
      · simp only [Act.put, List.setIfInBounds_toArray, List.set_cons_zero, List.set_cons_succ, i64_w, i32_w]
        rfl
      refine pure_ (i := 10) (N := some 64) (v := ?_) (a' := ?_) #[true, true, true, true, true, true, true, true, true, true, true] rfl rfl (by kernel_rfl) (fun _ _ _ h => h) (Or.inl ⟨by rfl, ?_⟩) ?_ ?_
      rotate_left
      · intro w'
        go_simp
        with_reducible rfl
      rotate_left
      · simp only [Act.put, List.setIfInBounds_toArray, List.set_cons_zero, List.set_cons_succ, i64_w, i32_w]
        rfl
      refine done_ (by kernel_rfl) ?_
      try go_wp2
      go_meet
      case rel => exact ⟨false, rfl, FS, ⟨Or.inl ⟨rfl, ht1.out, ht2.out⟩⟩⟩
    · subst hbb
      have M1 := Aside0.mk N1
      have M2 := Aside0.mk N2
      clear N1 N2
      rcases M3 with ⟨hsg, hd, et1, et2⟩ | ⟨hsg, hd, et1, et2⟩ | ⟨hsg, hd, et1, et2⟩ | ⟨hsg, hd, et1, et2⟩
      · clear hsg
        have ht1 := Aside0.mk et1
        have ht2 := Aside0.mk et2
        clear et1 et2
        refine start_ (n := 11) (S := fun w' => w'.cell? ⟨g3, 3, none⟩ = some (.bool true) ∧ w'.cell? ⟨g3, 4, none⟩ = some (.int .i64 a4) ∧ w'.cell? ⟨g11, 0, none⟩ = some (.int .u64 s1) ∧ w'.cell? ⟨g11, 1, none⟩ = some (.int .u64 s2)) (ds := []) #[false, false, false, false, false, false, false, false, false, false, false] (by kernel_rfl) rfl rfl ⟨(blk_cell FS.out.drew.fr.b3 3).trans rfl, (blk_cell FS.out.drew.fr.b3 4).trans rfl, (blk_cell FS.out.drew.b11 0).trans rfl, (blk_cell FS.out.drew.b11 1).trans rfl⟩ (fun hHeld => ?_)
        replace FS := Aside0.mk FS.out.drew
        refine pure_ (i := 0) (N := some 54) (v := ?_) (a' := ?_) #[true, false, false, false, false, false, false, false, false, false, false] rfl rfl (by kernel_rfl) (fun _ _ _ h => h) (Or.inl ⟨by rfl, ?_⟩) ?_ ?_
        rotate_left
        · intro w'
          go_simp
          with_reducible rfl
        rotate_left
        · simp only [Act.put, List.setIfInBounds_toArray, List.set_cons_zero, List.set_cons_succ, i64_w, i32_w]
          rfl
        refine take_ (i := 1) (N := some 55) (v := ?_) (a' := ?_) #[true, true, false, false, false, false, false, false, false, false, false] rfl rfl (by kernel_rfl) (fun _ _ _ h => h) (Or.inl ⟨by rfl, ?_⟩) hHeld ?_ ?_
        rotate_left
        · rintro w' ⟨s0, s1, s2, s3⟩
          go_simp
          with_reducible rfl
        rotate_left
        · simp only [Act.put, List.setIfInBounds_toArray, List.set_cons_zero, List.set_cons_succ, i64_w, i32_w]
          rfl
        refine pure_ (i := 2) (N := some 56) (v := ?_) (a' := ?_) #[true, true, true, false, false, false, false, false, false, false, false] rfl rfl (by kernel_rfl) (fun _ _ _ h => h) (Or.inl ⟨by rfl, ?_⟩) ?_ ?_
        rotate_left
        · intro w'
          go_simp
          with_reducible rfl
        rotate_left
        · simp only [Act.put, List.setIfInBounds_toArray, List.set_cons_zero, List.set_cons_succ, i64_w, i32_w]
          rfl
        refine pure_ (i := 4) (N := some 58) (v := ?_) (a' := ?_) #[true, true, true, false, true, false, false, false, false, false, false] rfl rfl (by kernel_rfl) (fun _ _ _ h => h) (Or.inl ⟨by rfl, ?_⟩) ?_ ?_
        rotate_left
        · intro w'
          go_simp
          with_reducible rfl
        rotate_left
        · simp only [Act.put, List.setIfInBounds_toArray, List.set_cons_zero, List.set_cons_succ, i64_w, i32_w]
          rfl
        refine pure_ (i := 5) (N := some 59) (v := ?_) (a' := ?_) #[true, true, true, false, true, true, false, false, false, false, false] rfl rfl (by kernel_rfl) (fun _ _ _ h => h) (Or.inl ⟨by rfl, ?_⟩) ?_ ?_
        rotate_left
        · intro w'
          go_simp
          with_reducible rfl
        rotate_left
        · simp only [Act.put, List.setIfInBounds_toArray, List.set_cons_zero, List.set_cons_succ, i64_w, i32_w]
          rfl
        refine take_ (i := 3) (N := some 57) (v := ?_) (a' := ?_) #[true, true, true, true, true, true, false, false, false, false, false] rfl rfl (by kernel_rfl) (fun _ _ _ h => h) (Or.inl ⟨by rfl, ?_⟩) hHeld ?_ ?_
        rotate_left
        · rintro w' ⟨s0, s1, s2, s3⟩
          go_simp
          with_reducible rfl
        rotate_left
        · simp only [Act.put, List.setIfInBounds_toArray, List.set_cons_zero, List.set_cons_succ, i64_w, i32_w]
          rfl
        refine take_ (i := 6) (N := some 60) (v := ?_) (a' := ?_) #[true, true, true, true, true, true, true, false, false, false, false] rfl rfl (by kernel_rfl) (fun _ _ _ h => h) (Or.inl ⟨by rfl, ?_⟩) hHeld ?_ ?_
        rotate_left
        · rintro w' ⟨s0, s1, s2, s3⟩
          go_simp
          with_reducible rfl
        rotate_left
        · simp only [Act.put, List.setIfInBounds_toArray, List.set_cons_zero, List.set_cons_succ, i64_w, i32_w]
          rfl
        refine one_ (i := 7) (N := some 61) #[true, true, true, true, true, true, true, true, false, false, false] rfl rfl (by kernel_rfl) (by decide) (fun K hK => ?_)
        refine goesV_ Tryd.func40 (by kernel_rfl) rfl #[.int .i64 a4] (by rfl) rfl rfl rfl (by simp only [List.map_toArray, List.map_cons, List.map_nil]; rfl) ?_
        refine calls_of_args (args' := #[.int .i64 a4, .pointer (some ⟨g4, 0, none⟩), .pointer (some ⟨g9, 0, none⟩)]) rfl ?_
        with_reducible refine (duty_share.calls a4 a7 P g4 g9 m1 m2 _ FS.out.fr.b4 FS.out.fr.b9 M1.out).mono ?_
        rintro r wq ⟨rfl, hb⟩
        refine ⟨_, rfl, ?_⟩
        replace FS := Aside0.mk (FS.out.step hb)
        clear hb
        refine hK.out _ _ ⟨(blk_cell FS.out.fr.b3 3).trans rfl, (blk_cell FS.out.fr.b3 4).trans rfl, (blk_cell FS.out.b11 0).trans rfl, (blk_cell FS.out.b11 1).trans rfl⟩ (fun hHeld => ?_)
        clear hK K
        refine norm_ (a' := ?_) ?_ ?_
        rotate_left
        · show Act.put _ (some 61) _ = _
          simp only [Act.put, List.setIfInBounds_toArray, List.set_cons_zero, List.set_cons_succ, i64_w, i32_w]
          rfl
        refine one_ (i := 8) (N := some 62) #[true, true, true, true, true, true, true, true, true, false, false] rfl rfl (by kernel_rfl) (by decide) (fun K hK => ?_)
        refine goes_ Tryd.func43 (by kernel_rfl) rfl #[.agg #[.int .u64 s1, .int .u64 s2], .agg #[.int .u64 m1, .int .u64 m2]] (by rfl) rfl rfl (by simp only [List.map_toArray, List.map_cons, List.map_nil]; rfl) ?_
        with_reducible refine (exact_CompareWide.calls s1 s2 m1 m2 c _ M2.out).mono ?_
        rintro r wq ⟨rfl, hb⟩
        refine ⟨_, rfl, ?_⟩
        replace FS := Aside0.mk (FS.out.step hb)
        clear hb
        refine hK.out _ _ ⟨(blk_cell FS.out.fr.b3 3).trans rfl, (blk_cell FS.out.fr.b3 4).trans rfl, (blk_cell FS.out.b11 0).trans rfl, (blk_cell FS.out.b11 1).trans rfl⟩ (fun hHeld => ?_)
        clear hK K
        refine norm_ (a' := ?_) ?_ ?_
        rotate_left
        · show Act.put _ (some 62) _ = _
          simp only [Act.put, List.setIfInBounds_toArray, List.set_cons_zero, List.set_cons_succ, i64_w, i32_w]
          rfl
        refine pure_ (i := 9) (N := some 63) (v := ?_) (a' := ?_) #[true, true, true, true, true, true, true, true, true, true, false] rfl rfl (by kernel_rfl) (fun _ _ _ h => h) (Or.inl ⟨by rfl, ?_⟩) ?_ ?_
        rotate_left
        · intro w'
          go_simp
          with_reducible rfl
        rotate_left
        · simp only [Act.put, List.setIfInBounds_toArray, List.set_cons_zero, List.set_cons_succ, i64_w, i32_w]
          rfl
        refine pure_ (i := 10) (N := some 64) (v := ?_) (a' := ?_) #[true, true, true, true, true, true, true, true, true, true, true] rfl rfl (by kernel_rfl) (fun _ _ _ h => h) (Or.inl ⟨by rfl, ?_⟩) ?_ ?_
        rotate_left
        · intro w'
          go_simp
          with_reducible rfl
        rotate_left
        · simp only [Act.put, List.setIfInBounds_toArray, List.set_cons_zero, List.set_cons_succ, i64_w, i32_w]
          rfl
        refine done_ (by kernel_rfl) ?_
        try go_wp2
        go_meet
        case rel => exact ⟨true, (by first | rfl | (rw [hd]) | (simp [hd]; done)), FS, ⟨Or.inr ⟨rfl, by rw [ht1.out, ht2.out]; exact M1.out⟩⟩⟩
      · clear hsg
        have ht1 := Aside0.mk et1
        have ht2 := Aside0.mk et2
        clear et1 et2
        refine start_ (n := 11) (S := fun w' => w'.cell? ⟨g3, 3, none⟩ = some (.bool true) ∧ w'.cell? ⟨g3, 4, none⟩ = some (.int .i64 a4) ∧ w'.cell? ⟨g11, 0, none⟩ = some (.int .u64 s1) ∧ w'.cell? ⟨g11, 1, none⟩ = some (.int .u64 s2)) (ds := []) #[false, false, false, false, false, false, false, false, false, false, false] (by kernel_rfl) rfl rfl ⟨(blk_cell FS.out.drew.fr.b3 3).trans rfl, (blk_cell FS.out.drew.fr.b3 4).trans rfl, (blk_cell FS.out.drew.b11 0).trans rfl, (blk_cell FS.out.drew.b11 1).trans rfl⟩ (fun hHeld => ?_)
        replace FS := Aside0.mk FS.out.drew
        refine pure_ (i := 0) (N := some 54) (v := ?_) (a' := ?_) #[true, false, false, false, false, false, false, false, false, false, false] rfl rfl (by kernel_rfl) (fun _ _ _ h => h) (Or.inl ⟨by rfl, ?_⟩) ?_ ?_
        rotate_left
        · intro w'
          go_simp
          with_reducible rfl
        rotate_left
        · simp only [Act.put, List.setIfInBounds_toArray, List.set_cons_zero, List.set_cons_succ, i64_w, i32_w]
          rfl
        refine take_ (i := 1) (N := some 55) (v := ?_) (a' := ?_) #[true, true, false, false, false, false, false, false, false, false, false] rfl rfl (by kernel_rfl) (fun _ _ _ h => h) (Or.inl ⟨by rfl, ?_⟩) hHeld ?_ ?_
        rotate_left
        · rintro w' ⟨s0, s1, s2, s3⟩
          go_simp
          with_reducible rfl
        rotate_left
        · simp only [Act.put, List.setIfInBounds_toArray, List.set_cons_zero, List.set_cons_succ, i64_w, i32_w]
          rfl
        refine pure_ (i := 2) (N := some 56) (v := ?_) (a' := ?_) #[true, true, true, false, false, false, false, false, false, false, false] rfl rfl (by kernel_rfl) (fun _ _ _ h => h) (Or.inl ⟨by rfl, ?_⟩) ?_ ?_
        rotate_left
        · intro w'
          go_simp
          with_reducible rfl
        rotate_left
        · simp only [Act.put, List.setIfInBounds_toArray, List.set_cons_zero, List.set_cons_succ, i64_w, i32_w]
          rfl
        refine pure_ (i := 4) (N := some 58) (v := ?_) (a' := ?_) #[true, true, true, false, true, false, false, false, false, false, false] rfl rfl (by kernel_rfl) (fun _ _ _ h => h) (Or.inl ⟨by rfl, ?_⟩) ?_ ?_
        rotate_left
        · intro w'
          go_simp
          with_reducible rfl
        rotate_left
        · simp only [Act.put, List.setIfInBounds_toArray, List.set_cons_zero, List.set_cons_succ, i64_w, i32_w]
          rfl
        refine pure_ (i := 5) (N := some 59) (v := ?_) (a' := ?_) #[true, true, true, false, true, true, false, false, false, false, false] rfl rfl (by kernel_rfl) (fun _ _ _ h => h) (Or.inl ⟨by rfl, ?_⟩) ?_ ?_
        rotate_left
        · intro w'
          go_simp
          with_reducible rfl
        rotate_left
        · simp only [Act.put, List.setIfInBounds_toArray, List.set_cons_zero, List.set_cons_succ, i64_w, i32_w]
          rfl
        refine take_ (i := 3) (N := some 57) (v := ?_) (a' := ?_) #[true, true, true, true, true, true, false, false, false, false, false] rfl rfl (by kernel_rfl) (fun _ _ _ h => h) (Or.inl ⟨by rfl, ?_⟩) hHeld ?_ ?_
        rotate_left
        · rintro w' ⟨s0, s1, s2, s3⟩
          go_simp
          with_reducible rfl
        rotate_left
        · simp only [Act.put, List.setIfInBounds_toArray, List.set_cons_zero, List.set_cons_succ, i64_w, i32_w]
          rfl
        refine take_ (i := 6) (N := some 60) (v := ?_) (a' := ?_) #[true, true, true, true, true, true, true, false, false, false, false] rfl rfl (by kernel_rfl) (fun _ _ _ h => h) (Or.inl ⟨by rfl, ?_⟩) hHeld ?_ ?_
        rotate_left
        · rintro w' ⟨s0, s1, s2, s3⟩
          go_simp
          with_reducible rfl
        rotate_left
        · simp only [Act.put, List.setIfInBounds_toArray, List.set_cons_zero, List.set_cons_succ, i64_w, i32_w]
          rfl
        refine one_ (i := 7) (N := some 61) #[true, true, true, true, true, true, true, true, false, false, false] rfl rfl (by kernel_rfl) (by decide) (fun K hK => ?_)
        refine goesV_ Tryd.func40 (by kernel_rfl) rfl #[.int .i64 a4] (by rfl) rfl rfl rfl (by simp only [List.map_toArray, List.map_cons, List.map_nil]; rfl) ?_
        refine calls_of_args (args' := #[.int .i64 a4, .pointer (some ⟨g4, 0, none⟩), .pointer (some ⟨g9, 0, none⟩)]) rfl ?_
        with_reducible refine (duty_share.calls a4 a7 P g4 g9 m1 m2 _ FS.out.fr.b4 FS.out.fr.b9 M1.out).mono ?_
        rintro r wq ⟨rfl, hb⟩
        refine ⟨_, rfl, ?_⟩
        replace FS := Aside0.mk (FS.out.step hb)
        clear hb
        refine hK.out _ _ ⟨(blk_cell FS.out.fr.b3 3).trans rfl, (blk_cell FS.out.fr.b3 4).trans rfl, (blk_cell FS.out.b11 0).trans rfl, (blk_cell FS.out.b11 1).trans rfl⟩ (fun hHeld => ?_)
        clear hK K
        refine norm_ (a' := ?_) ?_ ?_
        rotate_left
        · show Act.put _ (some 61) _ = _
          simp only [Act.put, List.setIfInBounds_toArray, List.set_cons_zero, List.set_cons_succ, i64_w, i32_w]
          rfl
        refine one_ (i := 8) (N := some 62) #[true, true, true, true, true, true, true, true, true, false, false] rfl rfl (by kernel_rfl) (by decide) (fun K hK => ?_)
        refine goes_ Tryd.func43 (by kernel_rfl) rfl #[.agg #[.int .u64 s1, .int .u64 s2], .agg #[.int .u64 m1, .int .u64 m2]] (by rfl) rfl rfl (by simp only [List.map_toArray, List.map_cons, List.map_nil]; rfl) ?_
        with_reducible refine (exact_CompareWide.calls s1 s2 m1 m2 c _ M2.out).mono ?_
        rintro r wq ⟨rfl, hb⟩
        refine ⟨_, rfl, ?_⟩
        replace FS := Aside0.mk (FS.out.step hb)
        clear hb
        refine hK.out _ _ ⟨(blk_cell FS.out.fr.b3 3).trans rfl, (blk_cell FS.out.fr.b3 4).trans rfl, (blk_cell FS.out.b11 0).trans rfl, (blk_cell FS.out.b11 1).trans rfl⟩ (fun hHeld => ?_)
        clear hK K
        refine norm_ (a' := ?_) ?_ ?_
        rotate_left
        · show Act.put _ (some 62) _ = _
          simp only [Act.put, List.setIfInBounds_toArray, List.set_cons_zero, List.set_cons_succ, i64_w, i32_w]
          rfl
        refine pure_ (i := 9) (N := some 63) (v := ?_) (a' := ?_) #[true, true, true, true, true, true, true, true, true, true, false] rfl rfl (by kernel_rfl) (fun _ _ _ h => h) (Or.inl ⟨by rfl, ?_⟩) ?_ ?_
        rotate_left
        · intro w'
          go_simp
          with_reducible rfl
        rotate_left
        · simp only [Act.put, List.setIfInBounds_toArray, List.set_cons_zero, List.set_cons_succ, i64_w, i32_w]
          rfl
        refine pure_ (i := 10) (N := some 64) (v := ?_) (a' := ?_) #[true, true, true, true, true, true, true, true, true, true, true] rfl rfl (by kernel_rfl) (fun _ _ _ h => h) (Or.inl ⟨by rfl, ?_⟩) ?_ ?_
        rotate_left
        · intro w'
          go_simp
          with_reducible rfl
        rotate_left
        · simp only [Act.put, List.setIfInBounds_toArray, List.set_cons_zero, List.set_cons_succ, i64_w, i32_w]
          rfl
        refine done_ (by kernel_rfl) ?_
        try go_wp2
        go_meet
        case rel => exact ⟨false, (by first | rfl | (rw [hd]) | (simp [hd]; done)), FS, ⟨Or.inl ⟨rfl, ht1.out, ht2.out⟩⟩⟩
      · cases hsg
      · cases hsg
  case rest =>
    obtain ⟨bb, rfl, FS, HB1⟩ := hcut
    go_upto_if 64 with (fail)
    go_cut [] (fun wc => Aside0 (Fs w g3 g4 g9 g11 #[.int .i64 a0, .int .i64 a1, .int .i64 a2, .bool b3, .int .i64 a4, .bool b5, .int .i64 a6] a7 P t1 t2 wc))
    case first =>
      rcases HB1.out with ⟨hbb, et1, et2⟩ | ⟨hbb, N1⟩
      · subst hbb
        have ht1 := Aside0.mk et1
        have ht2 := Aside0.mk et2
        clear et1 et2
        try go_wp2
        go_meet
        case rel => exact ⟨by rw [ht1.out, ht2.out]; exact FS.out⟩
      · subst hbb
        have M1 := Aside0.mk N1
        clear N1
        have hc0 := blk_cell FS.out.fr.b3 4
        go_wp2_with (first | (go_at_call 40; refine calls_of_args (args' := #[.int .i64 a4, .pointer (some ⟨g4, 0, none⟩), .pointer (some ⟨g9, 0, none⟩)]) rfl ?_; (with_reducible refine (duty_share.calls a4 a7 P g4 g9 t1 t2 _ FS.out.fr.b4 FS.out.fr.b9 M1.out).mono ?_); rintro r wq ⟨rfl, hb⟩; replace FS := Aside0.mk (FS.out.step hb); clear hb hc0; have hs0 := blk_cell FS.out.b11 0; have hs1 := blk_cell FS.out.b11 1; have hf0 := blk_frozen FS.out.b11 0; have hf1 := blk_frozen FS.out.b11 1))
        go_meet
        case rel => exact ⟨FS.out.put t1 t2⟩
    case rest =>
      have FS := hcut
      clear hcut HB1
      go_upto_region 11 with (fail)
      go_cut [79] (fun v wc => ∃ bb : Bool, v = .bool bb ∧ Aside0 (Fs w g3 g4 g9 g11 #[.int .i64 a0, .int .i64 a1, .int .i64 a2, .bool b3, .int .i64 a4, .bool b5, .int .i64 a6] a7 P t1 t2 wc) ∧ Aside0 ((bb = false ∧ u1 = t1 ∧ u2 = t2) ∨ (bb = true ∧ exact_Mul.f (IntKind.u64.wrap (IntKind.u64.wrap a6 * IntKind.u64.wrap a7)) P = some (u1, u2))))
      case first =>
        rcases HL.out with ⟨hbb, et1, et2⟩ | ⟨hbb, m1, m2, c, N1, N2, M3⟩
        · subst hbb
          have ht1 := Aside0.mk et1
          have ht2 := Aside0.mk et2
          clear et1 et2
          refine start_ (n := 11) (S := fun w' => w'.cell? ⟨g3, 5, none⟩ = some (.bool false) ∧ w'.cell? ⟨g3, 6, none⟩ = some (.int .i64 a6) ∧ w'.cell? ⟨g11, 0, none⟩ = some (.int .u64 t1) ∧ w'.cell? ⟨g11, 1, none⟩ = some (.int .u64 t2)) (ds := []) #[false, false, false, false, false, false, false, false, false, false, false] (by kernel_rfl) rfl rfl ⟨(blk_cell FS.out.drew.fr.b3 5).trans rfl, (blk_cell FS.out.drew.fr.b3 6).trans rfl, (blk_cell FS.out.drew.b11 0).trans rfl, (blk_cell FS.out.drew.b11 1).trans rfl⟩ (fun hHeld => ?_)
          replace FS := Aside0.mk FS.out.drew
          refine pure_ (i := 0) (N := some 69) (v := ?_) (a' := ?_) #[true, false, false, false, false, false, false, false, false, false, false] rfl rfl (by kernel_rfl) (fun _ _ _ h => h) (Or.inl ⟨by rfl, ?_⟩) ?_ ?_
          rotate_left
          · intro w'
            go_simp
            with_reducible rfl
          rotate_left
          · simp only [Act.put, List.setIfInBounds_toArray, List.set_cons_zero, List.set_cons_succ, i64_w, i32_w]
            rfl
          refine take_ (i := 1) (N := some 70) (v := ?_) (a' := ?_) #[true, true, false, false, false, false, false, false, false, false, false] rfl rfl (by kernel_rfl) (fun _ _ _ h => h) (Or.inl ⟨by rfl, ?_⟩) hHeld ?_ ?_
          rotate_left
          · rintro w' ⟨s0, s1, s2, s3⟩
            go_simp
            with_reducible rfl
          rotate_left
          · simp only [Act.put, List.setIfInBounds_toArray, List.set_cons_zero, List.set_cons_succ, i64_w, i32_w]
            rfl
          refine pure_ (i := 2) (N := some 71) (v := ?_) (a' := ?_) #[true, true, true, false, false, false, false, false, false, false, false] rfl rfl (by kernel_rfl) (fun _ _ _ h => h) (Or.inl ⟨by rfl, ?_⟩) ?_ ?_
          rotate_left
          · intro w'
            go_simp
            with_reducible rfl
          rotate_left
          · simp only [Act.put, List.setIfInBounds_toArray, List.set_cons_zero, List.set_cons_succ, i64_w, i32_w]
            rfl
          refine pure_ (i := 3) (N := some 72) (v := undef) (a' := ?_) #[true, true, true, true, false, false, false, false, false, false, false] rfl rfl (by kernel_rfl) (fun _ _ _ h => h) (Or.inr ⟨by rfl, rfl⟩) ?_ ?_
          rotate_left
          · simp only [Act.put, List.setIfInBounds_toArray, List.set_cons_zero, List.set_cons_succ, i64_w, i32_w]
            rfl
          refine pure_ (i := 4) (N := some 73) (v := undef) (a' := ?_) #[true, true, true, true, true, false, false, false, false, false, false] rfl rfl (by kernel_rfl) (fun _ _ _ h => h) (Or.inr ⟨by rfl, rfl⟩) ?_ ?_
          rotate_left
          · simp only [Act.put, List.setIfInBounds_toArray, List.set_cons_zero, List.set_cons_succ, i64_w, i32_w]
            rfl
          refine pure_ (i := 5) (N := some 74) (v := undef) (a' := ?_) #[true, true, true, true, true, true, false, false, false, false, false] rfl rfl (by kernel_rfl) (fun _ _ _ h => h) (Or.inr ⟨by rfl, rfl⟩) ?_ ?_
          rotate_left
          · simp only [Act.put, List.setIfInBounds_toArray, List.set_cons_zero, List.set_cons_succ, i64_w, i32_w]
            rfl
          refine pure_ (i := 6) (N := some 75) (v := undef) (a' := ?_) #[true, true, true, true, true, true, true, false, false, false, false] rfl rfl (by kernel_rfl) (fun _ _ _ h => h) (Or.inr ⟨by rfl, rfl⟩) ?_ ?_
          rotate_left
          · simp only [Act.put, List.setIfInBounds_toArray, List.set_cons_zero, List.set_cons_succ, i64_w, i32_w]
            rfl
          refine pure_ (i := 7) (N := some 76) (v := undef) (a' := ?_) #[true, true, true, true, true, true, true, true, false, false, false] rfl rfl (by kernel_rfl) (fun _ _ _ h => h) (Or.inr ⟨by rfl, rfl⟩) ?_ ?_
          rotate_left
          · simp only [Act.put, List.setIfInBounds_toArray, List.set_cons_zero, List.set_cons_succ, i64_w, i32_w]
            rfl
          refine pure_ (i := 8) (N := some 77) (v := undef) (a' := ?_) #[true, true, true, true, true, true, true, true, true, false, false] rfl rfl (by kernel_rfl) (fun _ _ _ h => h) (Or.inr ⟨by rfl, rfl⟩) ?_ ?_
          rotate_left
          · simp only [Act.put, List.setIfInBounds_toArray, List.set_cons_zero, List.set_cons_succ, i64_w, i32_w]
            rfl
          refine pure_ (i := 9) (N := some 78) (v := undef) (a' := ?_) #[true, true, true, true, true, true, true, true, true, true, false] rfl rfl (by kernel_rfl) (fun _ _ _ h => h) (Or.inr ⟨by rfl, rfl⟩) ?_ ?_
          rotate_left
          · simp only [Act.put, List.setIfInBounds_toArray, List.set_cons_zero, List.set_cons_succ, i64_w, i32_w]
            rfl
          refine pure_ (i := 10) (N := some 79) (v := ?_) (a' := ?_) #[true, true, true, true, true, true, true, true, true, true, true] rfl rfl (by kernel_rfl) (fun _ _ _ h => h) (Or.inl ⟨by rfl, ?_⟩) ?_ ?_
          rotate_left
          · intro w'
            go_simp
            with_reducible rfl
          rotate_left
          · simp only [Act.put, List.setIfInBounds_toArray, List.set_cons_zero, List.set_cons_succ, i64_w, i32_w]
            rfl
          refine done_ (by kernel_rfl) ?_
          try go_wp2
          go_meet
          case rel => exact ⟨false, rfl, FS, ⟨Or.inl ⟨rfl, ht1.out, ht2.out⟩⟩⟩
        · subst hbb
          have M1 := Aside0.mk N1
          have M2 := Aside0.mk N2
          clear N1 N2
          rcases M3 with ⟨hsg, hd, et1, et2⟩ | ⟨hsg, hd, et1, et2⟩ | ⟨hsg, hd, et1, et2⟩ | ⟨hsg, hd, et1, et2⟩
          · cases hsg
          · cases hsg
          · clear hsg
            have ht1 := Aside0.mk et1
            have ht2 := Aside0.mk et2
            clear et1 et2
            refine start_ (n := 11) (S := fun w' => w'.cell? ⟨g3, 5, none⟩ = some (.bool true) ∧ w'.cell? ⟨g3, 6, none⟩ = some (.int .i64 a6) ∧ w'.cell? ⟨g11, 0, none⟩ = some (.int .u64 t1) ∧ w'.cell? ⟨g11, 1, none⟩ = some (.int .u64 t2)) (ds := []) #[false, false, false, false, false, false, false, false, false, false, false] (by kernel_rfl) rfl rfl ⟨(blk_cell FS.out.drew.fr.b3 5).trans rfl, (blk_cell FS.out.drew.fr.b3 6).trans rfl, (blk_cell FS.out.drew.b11 0).trans rfl, (blk_cell FS.out.drew.b11 1).trans rfl⟩ (fun hHeld => ?_)
            replace FS := Aside0.mk FS.out.drew
            refine pure_ (i := 0) (N := some 69) (v := ?_) (a' := ?_) #[true, false, false, false, false, false, false, false, false, false, false] rfl rfl (by kernel_rfl) (fun _ _ _ h => h) (Or.inl ⟨by rfl, ?_⟩) ?_ ?_
            rotate_left
            · intro w'
              go_simp
              with_reducible rfl
            rotate_left
            · simp only [Act.put, List.setIfInBounds_toArray, List.set_cons_zero, List.set_cons_succ, i64_w, i32_w]
              rfl
            refine take_ (i := 1) (N := some 70) (v := ?_) (a' := ?_) #[true, true, false, false, false, false, false, false, false, false, false] rfl rfl (by kernel_rfl) (fun _ _ _ h => h) (Or.inl ⟨by rfl, ?_⟩) hHeld ?_ ?_
            rotate_left
            · rintro w' ⟨s0, s1, s2, s3⟩
              go_simp
              with_reducible rfl
            rotate_left
            · simp only [Act.put, List.setIfInBounds_toArray, List.set_cons_zero, List.set_cons_succ, i64_w, i32_w]
              rfl
            refine pure_ (i := 2) (N := some 71) (v := ?_) (a' := ?_) #[true, true, true, false, false, false, false, false, false, false, false] rfl rfl (by kernel_rfl) (fun _ _ _ h => h) (Or.inl ⟨by rfl, ?_⟩) ?_ ?_
            rotate_left
            · intro w'
              go_simp
              with_reducible rfl
            rotate_left
            · simp only [Act.put, List.setIfInBounds_toArray, List.set_cons_zero, List.set_cons_succ, i64_w, i32_w]
              rfl
            refine pure_ (i := 4) (N := some 73) (v := ?_) (a' := ?_) #[true, true, true, false, true, false, false, false, false, false, false] rfl rfl (by kernel_rfl) (fun _ _ _ h => h) (Or.inl ⟨by rfl, ?_⟩) ?_ ?_
            rotate_left
            · intro w'
              go_simp
              with_reducible rfl
            rotate_left
            · simp only [Act.put, List.setIfInBounds_toArray, List.set_cons_zero, List.set_cons_succ, i64_w, i32_w]
              rfl
            refine pure_ (i := 5) (N := some 74) (v := ?_) (a' := ?_) #[true, true, true, false, true, true, false, false, false, false, false] rfl rfl (by kernel_rfl) (fun _ _ _ h => h) (Or.inl ⟨by rfl, ?_⟩) ?_ ?_
            rotate_left
            · intro w'
              go_simp
              with_reducible rfl
            rotate_left
            · simp only [Act.put, List.setIfInBounds_toArray, List.set_cons_zero, List.set_cons_succ, i64_w, i32_w]
              rfl
            refine take_ (i := 3) (N := some 72) (v := ?_) (a' := ?_) #[true, true, true, true, true, true, false, false, false, false, false] rfl rfl (by kernel_rfl) (fun _ _ _ h => h) (Or.inl ⟨by rfl, ?_⟩) hHeld ?_ ?_
            rotate_left
            · rintro w' ⟨s0, s1, s2, s3⟩
              go_simp
              with_reducible rfl
            rotate_left
            · simp only [Act.put, List.setIfInBounds_toArray, List.set_cons_zero, List.set_cons_succ, i64_w, i32_w]
              rfl
            refine take_ (i := 6) (N := some 75) (v := ?_) (a' := ?_) #[true, true, true, true, true, true, true, false, false, false, false] rfl rfl (by kernel_rfl) (fun _ _ _ h => h) (Or.inl ⟨by rfl, ?_⟩) hHeld ?_ ?_
            rotate_left
            · rintro w' ⟨s0, s1, s2, s3⟩
              go_simp
              with_reducible rfl
            rotate_left
            · simp only [Act.put, List.setIfInBounds_toArray, List.set_cons_zero, List.set_cons_succ, i64_w, i32_w]
              rfl
            refine one_ (i := 7) (N := some 76) #[true, true, true, true, true, true, true, true, false, false, false] rfl rfl (by kernel_rfl) (by decide) (fun K hK => ?_)
            refine goesV_ Tryd.func40 (by kernel_rfl) rfl #[.int .i64 a6] (by rfl) rfl rfl rfl (by simp only [List.map_toArray, List.map_cons, List.map_nil]; rfl) ?_
            refine calls_of_args (args' := #[.int .i64 a6, .pointer (some ⟨g4, 0, none⟩), .pointer (some ⟨g9, 0, none⟩)]) rfl ?_
            with_reducible refine (duty_share.calls a6 a7 P g4 g9 m1 m2 _ FS.out.fr.b4 FS.out.fr.b9 M1.out).mono ?_
            rintro r wq ⟨rfl, hb⟩
            refine ⟨_, rfl, ?_⟩
            replace FS := Aside0.mk (FS.out.step hb)
            clear hb
            refine hK.out _ _ ⟨(blk_cell FS.out.fr.b3 5).trans rfl, (blk_cell FS.out.fr.b3 6).trans rfl, (blk_cell FS.out.b11 0).trans rfl, (blk_cell FS.out.b11 1).trans rfl⟩ (fun hHeld => ?_)
            clear hK K
            refine norm_ (a' := ?_) ?_ ?_
            rotate_left
            · show Act.put _ (some 76) _ = _
              simp only [Act.put, List.setIfInBounds_toArray, List.set_cons_zero, List.set_cons_succ, i64_w, i32_w]
              rfl
            refine one_ (i := 8) (N := some 77) #[true, true, true, true, true, true, true, true, true, false, false] rfl rfl (by kernel_rfl) (by decide) (fun K hK => ?_)
            refine goes_ Tryd.func43 (by kernel_rfl) rfl #[.agg #[.int .u64 t1, .int .u64 t2], .agg #[.int .u64 m1, .int .u64 m2]] (by rfl) rfl rfl (by simp only [List.map_toArray, List.map_cons, List.map_nil]; rfl) ?_
            with_reducible refine (exact_CompareWide.calls t1 t2 m1 m2 c _ M2.out).mono ?_
            rintro r wq ⟨rfl, hb⟩
            refine ⟨_, rfl, ?_⟩
            replace FS := Aside0.mk (FS.out.step hb)
            clear hb
            refine hK.out _ _ ⟨(blk_cell FS.out.fr.b3 5).trans rfl, (blk_cell FS.out.fr.b3 6).trans rfl, (blk_cell FS.out.b11 0).trans rfl, (blk_cell FS.out.b11 1).trans rfl⟩ (fun hHeld => ?_)
            clear hK K
            refine norm_ (a' := ?_) ?_ ?_
            rotate_left
            · show Act.put _ (some 77) _ = _
              simp only [Act.put, List.setIfInBounds_toArray, List.set_cons_zero, List.set_cons_succ, i64_w, i32_w]
              rfl
            refine pure_ (i := 9) (N := some 78) (v := ?_) (a' := ?_) #[true, true, true, true, true, true, true, true, true, true, false] rfl rfl (by kernel_rfl) (fun _ _ _ h => h) (Or.inl ⟨by rfl, ?_⟩) ?_ ?_
            rotate_left
            · intro w'
              go_simp
              with_reducible rfl
            rotate_left
            · simp only [Act.put, List.setIfInBounds_toArray, List.set_cons_zero, List.set_cons_succ, i64_w, i32_w]
              rfl
            refine pure_ (i := 10) (N := some 79) (v := ?_) (a' := ?_) #[true, true, true, true, true, true, true, true, true, true, true] rfl rfl (by kernel_rfl) (fun _ _ _ h => h) (Or.inl ⟨by rfl, ?_⟩) ?_ ?_
            rotate_left
            · intro w'
              go_simp
              with_reducible rfl
            rotate_left
            · simp only [Act.put, List.setIfInBounds_toArray, List.set_cons_zero, List.set_cons_succ, i64_w, i32_w]
              rfl
            refine done_ (by kernel_rfl) ?_
            try go_wp2
            go_meet
            case rel => exact ⟨true, (by first | rfl | (rw [hd]) | (simp [hd]; done)), FS, ⟨Or.inr ⟨rfl, by rw [ht1.out, ht2.out]; exact M1.out⟩⟩⟩
          · clear hsg
            have ht1 := Aside0.mk et1
            have ht2 := Aside0.mk et2
            clear et1 et2
            refine start_ (n := 11) (S := fun w' => w'.cell? ⟨g3, 5, none⟩ = some (.bool true) ∧ w'.cell? ⟨g3, 6, none⟩ = some (.int .i64 a6) ∧ w'.cell? ⟨g11, 0, none⟩ = some (.int .u64 t1) ∧ w'.cell? ⟨g11, 1, none⟩ = some (.int .u64 t2)) (ds := []) #[false, false, false, false, false, false, false, false, false, false, false] (by kernel_rfl) rfl rfl ⟨(blk_cell FS.out.drew.fr.b3 5).trans rfl, (blk_cell FS.out.drew.fr.b3 6).trans rfl, (blk_cell FS.out.drew.b11 0).trans rfl, (blk_cell FS.out.drew.b11 1).trans rfl⟩ (fun hHeld => ?_)
            replace FS := Aside0.mk FS.out.drew
            refine pure_ (i := 0) (N := some 69) (v := ?_) (a' := ?_) #[true, false, false, false, false, false, false, false, false, false, false] rfl rfl (by kernel_rfl) (fun _ _ _ h => h) (Or.inl ⟨by rfl, ?_⟩) ?_ ?_
            rotate_left
            · intro w'
              go_simp
              with_reducible rfl
            rotate_left
            · simp only [Act.put, List.setIfInBounds_toArray, List.set_cons_zero, List.set_cons_succ, i64_w, i32_w]
              rfl
            refine take_ (i := 1) (N := some 70) (v := ?_) (a' := ?_) #[true, true, false, false, false, false, false, false, false, false, false] rfl rfl (by kernel_rfl) (fun _ _ _ h => h) (Or.inl ⟨by rfl, ?_⟩) hHeld ?_ ?_
            rotate_left
            · rintro w' ⟨s0, s1, s2, s3⟩
              go_simp
              with_reducible rfl
            rotate_left
            · simp only [Act.put, List.setIfInBounds_toArray, List.set_cons_zero, List.set_cons_succ, i64_w, i32_w]
              rfl
            refine pure_ (i := 2) (N := some 71) (v := ?_) (a' := ?_) #[true, true, true, false, false, false, false, false, false, false, false] rfl rfl (by kernel_rfl) (fun _ _ _ h => h) (Or.inl ⟨by rfl, ?_⟩) ?_ ?_
            rotate_left
            · intro w'
              go_simp
              with_reducible rfl
            rotate_left
            · simp only [Act.put, List.setIfInBounds_toArray, List.set_cons_zero, List.set_cons_succ, i64_w, i32_w]
              rfl
            refine pure_ (i := 4) (N := some 73) (v := ?_) (a' := ?_) #[true, true, true, false, true, false, false, false, false, false, false] rfl rfl (by kernel_rfl) (fun _ _ _ h => h) (Or.inl ⟨by rfl, ?_⟩) ?_ ?_
            rotate_left
            · intro w'
              go_simp
              with_reducible rfl
            rotate_left
            · simp only [Act.put, List.setIfInBounds_toArray, List.set_cons_zero, List.set_cons_succ, i64_w, i32_w]
              rfl
            refine pure_ (i := 5) (N := some 74) (v := ?_) (a' := ?_) #[true, true, true, false, true, true, false, false, false, false, false] rfl rfl (by kernel_rfl) (fun _ _ _ h => h) (Or.inl ⟨by rfl, ?_⟩) ?_ ?_
            rotate_left
            · intro w'
              go_simp
              with_reducible rfl
            rotate_left
            · simp only [Act.put, List.setIfInBounds_toArray, List.set_cons_zero, List.set_cons_succ, i64_w, i32_w]
              rfl
            refine take_ (i := 3) (N := some 72) (v := ?_) (a' := ?_) #[true, true, true, true, true, true, false, false, false, false, false] rfl rfl (by kernel_rfl) (fun _ _ _ h => h) (Or.inl ⟨by rfl, ?_⟩) hHeld ?_ ?_
            rotate_left
            · rintro w' ⟨s0, s1, s2, s3⟩
              go_simp
              with_reducible rfl
            rotate_left
            · simp only [Act.put, List.setIfInBounds_toArray, List.set_cons_zero, List.set_cons_succ, i64_w, i32_w]
              rfl
            refine take_ (i := 6) (N := some 75) (v := ?_) (a' := ?_) #[true, true, true, true, true, true, true, false, false, false, false] rfl rfl (by kernel_rfl) (fun _ _ _ h => h) (Or.inl ⟨by rfl, ?_⟩) hHeld ?_ ?_
            rotate_left
            · rintro w' ⟨s0, s1, s2, s3⟩
              go_simp
              with_reducible rfl
            rotate_left
            · simp only [Act.put, List.setIfInBounds_toArray, List.set_cons_zero, List.set_cons_succ, i64_w, i32_w]
              rfl
            refine one_ (i := 7) (N := some 76) #[true, true, true, true, true, true, true, true, false, false, false] rfl rfl (by kernel_rfl) (by decide) (fun K hK => ?_)
            refine goesV_ Tryd.func40 (by kernel_rfl) rfl #[.int .i64 a6] (by rfl) rfl rfl rfl (by simp only [List.map_toArray, List.map_cons, List.map_nil]; rfl) ?_
            refine calls_of_args (args' := #[.int .i64 a6, .pointer (some ⟨g4, 0, none⟩), .pointer (some ⟨g9, 0, none⟩)]) rfl ?_
            with_reducible refine (duty_share.calls a6 a7 P g4 g9 m1 m2 _ FS.out.fr.b4 FS.out.fr.b9 M1.out).mono ?_
            rintro r wq ⟨rfl, hb⟩
            refine ⟨_, rfl, ?_⟩
            replace FS := Aside0.mk (FS.out.step hb)
            clear hb
            refine hK.out _ _ ⟨(blk_cell FS.out.fr.b3 5).trans rfl, (blk_cell FS.out.fr.b3 6).trans rfl, (blk_cell FS.out.b11 0).trans rfl, (blk_cell FS.out.b11 1).trans rfl⟩ (fun hHeld => ?_)
            clear hK K
            refine norm_ (a' := ?_) ?_ ?_
            rotate_left
            · show Act.put _ (some 76) _ = _
              simp only [Act.put, List.setIfInBounds_toArray, List.set_cons_zero, List.set_cons_succ, i64_w, i32_w]
              rfl
            refine one_ (i := 8) (N := some 77) #[true, true, true, true, true, true, true, true, true, false, false] rfl rfl (by kernel_rfl) (by decide) (fun K hK => ?_)
            refine goes_ Tryd.func43 (by kernel_rfl) rfl #[.agg #[.int .u64 t1, .int .u64 t2], .agg #[.int .u64 m1, .int .u64 m2]] (by rfl) rfl rfl (by simp only [List.map_toArray, List.map_cons, List.map_nil]; rfl) ?_
            with_reducible refine (exact_CompareWide.calls t1 t2 m1 m2 c _ M2.out).mono ?_
            rintro r wq ⟨rfl, hb⟩
            refine ⟨_, rfl, ?_⟩
            replace FS := Aside0.mk (FS.out.step hb)
            clear hb
            refine hK.out _ _ ⟨(blk_cell FS.out.fr.b3 5).trans rfl, (blk_cell FS.out.fr.b3 6).trans rfl, (blk_cell FS.out.b11 0).trans rfl, (blk_cell FS.out.b11 1).trans rfl⟩ (fun hHeld => ?_)
            clear hK K
            refine norm_ (a' := ?_) ?_ ?_
            rotate_left
            · show Act.put _ (some 77) _ = _
              simp only [Act.put, List.setIfInBounds_toArray, List.set_cons_zero, List.set_cons_succ, i64_w, i32_w]
              rfl
            refine pure_ (i := 9) (N := some 78) (v := ?_) (a' := ?_) #[true, true, true, true, true, true, true, true, true, true, false] rfl rfl (by kernel_rfl) (fun _ _ _ h => h) (Or.inl ⟨by rfl, ?_⟩) ?_ ?_
            rotate_left
            · intro w'
              go_simp
              with_reducible rfl
            rotate_left
            · simp only [Act.put, List.setIfInBounds_toArray, List.set_cons_zero, List.set_cons_succ, i64_w, i32_w]
              rfl
            refine pure_ (i := 10) (N := some 79) (v := ?_) (a' := ?_) #[true, true, true, true, true, true, true, true, true, true, true] rfl rfl (by kernel_rfl) (fun _ _ _ h => h) (Or.inl ⟨by rfl, ?_⟩) ?_ ?_
            rotate_left
            · intro w'
              go_simp
              with_reducible rfl
            rotate_left
            · simp only [Act.put, List.setIfInBounds_toArray, List.set_cons_zero, List.set_cons_succ, i64_w, i32_w]
              rfl
            refine done_ (by kernel_rfl) ?_
            try go_wp2
            go_meet
            case rel => exact ⟨false, (by first | rfl | (rw [hd]) | (simp [hd]; done)), FS, ⟨Or.inl ⟨rfl, ht1.out, ht2.out⟩⟩⟩
      case rest =>
        obtain ⟨bb, rfl, FS, HB1⟩ := hcut
        go_upto_if 79 with (fail)
        go_cut [] (fun wc => Aside0 (Fs w g3 g4 g9 g11 #[.int .i64 a0, .int .i64 a1, .int .i64 a2, .bool b3, .int .i64 a4, .bool b5, .int .i64 a6] a7 P u1 u2 wc))
        case first =>
          rcases HB1.out with ⟨hbb, et1, et2⟩ | ⟨hbb, N1⟩
          · subst hbb
            have ht1 := Aside0.mk et1
            have ht2 := Aside0.mk et2
            clear et1 et2
            try go_wp2
            go_meet
            case rel => exact ⟨by rw [ht1.out, ht2.out]; exact FS.out⟩
          · subst hbb
            have M1 := Aside0.mk N1
            clear N1
            have hc0 := blk_cell FS.out.fr.b3 6
            go_wp2_with (first | (go_at_call 40; refine calls_of_args (args' := #[.int .i64 a6, .pointer (some ⟨g4, 0, none⟩), .pointer (some ⟨g9, 0, none⟩)]) rfl ?_; (with_reducible refine (duty_share.calls a6 a7 P g4 g9 u1 u2 _ FS.out.fr.b4 FS.out.fr.b9 M1.out).mono ?_); rintro r wq ⟨rfl, hb⟩; replace FS := Aside0.mk (FS.out.step hb); clear hb hc0; have hs0 := blk_cell FS.out.b11 0; have hs1 := blk_cell FS.out.b11 1; have hf0 := blk_frozen FS.out.b11 0; have hf1 := blk_frozen FS.out.b11 1))
            go_meet
            case rel => exact ⟨FS.out.put u1 u2⟩
        case rest =>
          have FS := hcut
          clear hcut HB1
          have hs0 := blk_cell FS.out.b11 0
          have hs1 := blk_cell FS.out.b11 1
          have hc9 := blk_cell FS.out.fr.b9 0
          have hE : Aside0 (∃ bb : Bool, (e != 0) = bb) := ⟨⟨_, rfl⟩⟩
          by_cases he : e = 0
          · subst he
            by_cases hn : n > 1000000000000
            · have hd : decide (1000000000000 < n) = true := decide_eq_true hn
              have hx := Aside0.mk hn
              clear hn
              go_wp2_with (first | (go_at_call 44; (with_reducible refine (exact_Div.calls K u1 u2 (IntKind.u64.wrap (P * 1000000)) 2 n 0 _ A8.out).mono ?_); rintro r wq ⟨rfl, hb⟩; have HBq := Aside0.mk (below_step FS.out.fr.hb hb); clear hb hs0 hs1 hc9 FS))
              go_ret2
              obtain ⟨hr1, hr2⟩ := hres.out.1 (Or.inr hx.out)
              exact ⟨by rw [hr1, hr2]; rfl, HBq.out⟩
            · have hd : decide (1000000000000 < n) = false := decide_eq_false hn
              have hx := Aside0.mk (show ¬ ((0 : Int) ≠ 0 ∨ n > 1000000000000) by omega)
              clear hn
              go_wp2_with (first | (go_at_call 44; (with_reducible refine (exact_Div.calls K u1 u2 (IntKind.u64.wrap (P * 1000000)) 2 n 0 _ A8.out).mono ?_); rintro r wq ⟨rfl, hb⟩; have HBq := Aside0.mk (below_step FS.out.fr.hb hb); clear hb hs0 hs1 hc9 FS))
              go_ret2
              obtain ⟨hr1, hr2⟩ := hres.out.2 hx.out
              exact ⟨by rw [hr1, hr2]; rfl, HBq.out⟩
          · have hb0 : (e != 0) = true := by simp [he]
            have hb1 : (e == 0) = false := by simp [he]
            have hx := Aside0.mk he
            clear he
            go_wp2_with (first | (go_at_call 44; (with_reducible refine (exact_Div.calls K u1 u2 (IntKind.u64.wrap (P * 1000000)) 2 n e _ A8.out).mono ?_); rintro r wq ⟨rfl, hb⟩; have HBq := Aside0.mk (below_step FS.out.fr.hb hb); clear hb hs0 hs1 hc9 FS))
            go_ret2
            obtain ⟨hr1, hr2⟩ := hres.out.1 (Or.inl hx.out)
            exact ⟨by rw [hr1, hr2]; rfl, HBq.out⟩
end Go.Proofs.YtfpkgdkcllobiaaDoor.F
end
section
namespace Go.Proofs.YtfpkgdkcllobiaaDoor.F
open Go.RowKit Go.Proofs.YtfpkgdkcllobiaaDoorW.PrintWords Go.Proofs.YtfpkgdkcllobiaaDoorW.PrintLast Go.Proofs.YtfpkgdkcllobiaaDoorW.PrintMore
attribute [local go_sem] max2_int min2_int max_two min_two max_three min_three max_four min_four   -- for this text's walks alone
set_option linter.unusedVariables false
set_option linter.unusedSimpArgs false

-- NOT PRINTED: function 5 (customslaw18_DutyParse)

/-! ### customslaw18_amount: function 19 -/
def customslaw18_amount.f (a0 : Int) (a1 : Bool) : Option (Int) := if a1 = true then ((customsmade_Within.f a0 100000).bind fun t447 => (some t447)) else ((customsmade_Within.f a0 1000000000001).bind fun t448 => (some t448))
set_option maxHeartbeats 8000000 in
set_option maxRecDepth 100000 in
theorem customslaw18_amount.calls (a0 : Int) (a1 : Bool) (r : Int) (w : World) (h : customslaw18_amount.f a0 a1 = some r) :
    Calls Tryd.prog 19 #[.int .i64 a0, .bool a1] w fun e w' => e = .returned (.int .i64 r) ∧ Drawn0 w w' := by
  have H : (if a1 = true then ((customsmade_Within.f a0 100000).bind fun t447 => (some t447)) else ((customsmade_Within.f a0 1000000000001).bind fun t448 => (some t448))) = some r := h
  clear h
  by_cases c3 : a1 = true
  · subst c3
    have H1 : ((customsmade_Within.f a0 100000).bind fun t447 => (some t447)) = some r := by rw [if_pos rfl] at H; exact H
    clear H
    have H := H1
    clear H1
    replace H := Option.bind_eq_some_iff.mp H
    obtain ⟨t447, A40, H⟩ := H
    replace H : (some t447) = some r := H
    have A4 := Aside0.mk A40
    clear A40
    obtain rfl := Option.some.inj H
    go_enter Tryd.func19, Tryd.ntmps19
    go_wp2_with (first | ((with_reducible refine gate_callee (f := 13) rfl ?_); refine goesL_ (some 7) rfl rfl Tryd.func13 (by kernel_rfl) rfl #[.int .i64 a0, .int .i64 100000] rfl (by (try simp only [List.map_toArray, List.map_cons, List.map_nil]); first | done | rfl | (simp only [List.length_drop, List.length_take]; rfl)) ?_; (with_reducible refine (customsmade_Within.calls a0 100000 t447 _ A4.out).mono ?_); rintro e w' ⟨rfl, ⟨nd, rfl⟩⟩; refine ⟨_, rfl, ?_⟩))
    go_ret
    exact ⟨by first | rfl | (simp; done) | (simp [*]; done), by repeat (first | exact Drawn0.refl _ | apply Drawn0.step)⟩
  · replace c3 := Bool.eq_false_iff.mpr c3
    subst c3
    have H1 : ((customsmade_Within.f a0 1000000000001).bind fun t448 => (some t448)) = some r := by rw [if_neg (show ¬ (false = true) by decide)] at H; exact H
    clear H
    have H := H1
    clear H1
    replace H := Option.bind_eq_some_iff.mp H
    obtain ⟨t448, A50, H⟩ := H
    replace H : (some t448) = some r := H
    have A5 := Aside0.mk A50
    clear A50
    obtain rfl := Option.some.inj H
    go_enter Tryd.func19, Tryd.ntmps19
    go_wp2_with (first | ((with_reducible refine gate_callee (f := 13) rfl ?_); refine goesL_ (some 9) rfl rfl Tryd.func13 (by kernel_rfl) rfl #[.int .i64 a0, .int .i64 1000000000001] rfl (by (try simp only [List.map_toArray, List.map_cons, List.map_nil]); first | done | rfl | (simp only [List.length_drop, List.length_take]; rfl)) ?_; (with_reducible refine (customsmade_Within.calls a0 1000000000001 t448 _ A5.out).mono ?_); rintro e w' ⟨rfl, ⟨nd, rfl⟩⟩; refine ⟨_, rfl, ?_⟩))
    go_ret
    exact ⟨by first | rfl | (simp; done) | (simp [*]; done), by repeat (first | exact Drawn0.refl _ | apply Drawn0.step)⟩

end Go.Proofs.YtfpkgdkcllobiaaDoor.F
end
section
namespace Go.Proofs.YtfpkgdkcllobiaaDoor.D
open Go.RowKit Go.Proofs.YtfpkgdkcllobiaaDoorW.PrintWords Go.Proofs.YtfpkgdkcllobiaaDoorW.PrintMore
theorem ev_const {α : Type} {o : Option α} {r : α} (h : o = some r) : Ev (fun _ => o) r := ⟨0, fun _ _ => h⟩
theorem ev_pos {α : Type} {c : Prop} [Decidable c] {f g : Nat → Option α} {r : α} (h : c) (k : Ev f r) : Ev (fun n => if c then f n else g n) r := by
  obtain ⟨K, k⟩ := k
  exact ⟨K, fun n hn => by show (if c then f n else g n) = some r; rw [if_pos h]; exact k n hn⟩
theorem ev_neg {α : Type} {c : Prop} [Decidable c] {f g : Nat → Option α} {r : α} (h : ¬ c) (k : Ev g r) : Ev (fun n => if c then f n else g n) r := by
  obtain ⟨K, k⟩ := k
  exact ⟨K, fun n hn => by show (if c then f n else g n) = some r; rw [if_neg h]; exact k n hn⟩
theorem ev_ite {α : Type} {c : Prop} [Decidable c] {f g : Nat → Option α} {r : α} (h : c → Ev f r) (k : ¬ c → Ev g r) : Ev (fun n => if c then f n else g n) r := by
  by_cases hc : c
  · exact ev_pos hc (h hc)
  · exact ev_neg hc (k hc)
theorem ev_bind {α β : Type} {g : Nat → Option α} {f : Nat → α → Option β} {a : α} {r : β} (h : Ev g a) (k : Ev (fun n => f n a) r) : Ev (fun n => (g n).bind (f n)) r := Ev.bind h k
theorem ev_let {α β : Type} {x : α} {f : Nat → α → Option β} {r : β} (k : Ev (fun n => f n x) r) : Ev (fun n => (some x).bind (f n)) r := Ev.bind (g := fun _ => some x) (ev_const rfl) k
theorem ev_eq {α : Type} {g : Nat → Option α} {r s : α} (h : Ev g r) (e : r = s) : Ev g s := e ▸ h
theorem w64 {x : Int} (h0 : -9223372036854775808 ≤ x) (h1 : x ≤ 9223372036854775807) : wrap64 x = x := by unfold wrap64; omega
theorem tdiv_pos {a b : Int} (h : 0 ≤ a) : Int.tdiv a b = a / b := Int.tdiv_eq_ediv_of_nonneg h
theorem tmod_pos {a b : Int} (h : 0 ≤ a) : Int.tmod a b = a % b := Int.tmod_eq_emod_of_nonneg h
end Go.Proofs.YtfpkgdkcllobiaaDoor.D
end
section
namespace Go.Proofs.YtfpkgdkcllobiaaDoor.D
set_option linter.unusedVariables false
open Go.RowKit
abbrev rt (n : Int) : Prop := 0 ≤ n ∧ n ≤ 10000000
/-- What Validate answers: 0 for a duty that is valid. -/
def dvalid (r a p : Int) (hm : Bool) (m : Int) (hl : Bool) (l : Int) : Int :=
  if ¬ rt r ∨ a < 0 ∨ a > 100000000 ∨ (a = 0 ∧ p ≠ 0) ∨ (a > 0 ∧ (p < 1 ∨ p > 1000000)) ∨ ¬ rt m ∨ ¬ rt l then 2
  else if (hm = false ∧ m ≠ 0) ∨ (hl = false ∧ l ≠ 0) ∨ (hm = true ∧ hl = true ∧ l > m) then 1 else 0
/-- The greater of p and 1. -/
def mxp (p : Int) : Int := if p < 1 then 1 else p
/-- A share of the value v, times a million times p. -/
def shr_ (r v p : Int) : Int := r * v * mxp p
def dsum (r a p v q : Int) : Int := shr_ r v p + a * q * 1000000
def dcap (p : Int) (hm : Bool) (m v W : Int) : Int := if hm = true ∧ W > shr_ m v p then shr_ m v p else W
def dflo (p : Int) (hl : Bool) (l v W : Int) : Int := if hl = true ∧ W < shr_ l v p then shr_ l v p else W
def dwide (r a p : Int) (hm : Bool) (m : Int) (hl : Bool) (l v q : Int) : Int := dflo p hl l v (dcap p hm m v (dsum r a p v q))
/-- N / c, a half rounded up. -/
def rndh (N c : Int) : Int := N / c + if N % c ≥ c - N % c then 1 else 0
def dnum (r a p : Int) (hm : Bool) (m : Int) (hl : Bool) (l v q : Int) : Int := rndh (dwide r a p hm m hl l v q) (mxp p * 1000000)
def deval (r a p : Int) (hm : Bool) (m : Int) (hl : Bool) (l v q : Int) : Int × Int :=
  if dvalid r a p hm m hl l ≠ 0 then (0, dvalid r a p hm m hl l)
  else if v < 0 ∨ v > 1000000000000 ∨ q < 0 ∨ q > 1000000000 then (0, 2)
  else if dnum r a p hm m hl l v q > 1000000000000 then (0, 3) else (dnum r a p hm m hl l v q, 0)
/-- What a valid duty's fields are. -/
theorem dvalid_ok {r a p : Int} {hm : Bool} {m : Int} {hl : Bool} {l : Int} : dvalid r a p hm m hl l = 0 ↔ rt r ∧ 0 ≤ a ∧ a ≤ 100000000 ∧ (a = 0 → p = 0) ∧ (a > 0 → 1 ≤ p ∧ p ≤ 1000000) ∧ rt m ∧ rt l ∧ (hm = false → m = 0) ∧ (hl = false → l = 0) ∧ (hm = true → hl = true → l ≤ m) := by
  unfold dvalid
  cases hm <;> cases hl <;> simp <;> constructor <;> intro h <;> (repeat' split at *) <;> omega
theorem mxp_in {p : Int} (h0 : 0 ≤ p) (h1 : p ≤ 1000000) : 1 ≤ mxp p ∧ mxp p ≤ 1000000 := by unfold mxp; split <;> omega
theorem mul_le2 {a b A B : Int} (a0 : 0 ≤ a) (a1 : a ≤ A) (b0 : 0 ≤ b) (b1 : b ≤ B) : 0 ≤ a * b ∧ a * b ≤ A * B := ⟨Int.mul_nonneg a0 b0, Int.mul_le_mul a1 b1 b0 (by omega)⟩
/-- The sizes of a share: the product of rate and value has room in 64 bits, the share in 84. -/
theorem shr_in_ {r v p : Int} (hr : rt r) (v0 : 0 ≤ v) (v1 : v ≤ 1000000000000) (p0 : 0 ≤ p) (p1 : p ≤ 1000000) : 0 ≤ r * v ∧ r * v ≤ 10000000000000000000 ∧ 0 ≤ shr_ r v p ∧ shr_ r v p ≤ 10000000000000 * (mxp p * 1000000) := by
  have hp := mxp_in p0 p1
  have h1 := mul_le2 hr.1 hr.2 v0 v1
  refine ⟨h1.1, by omega, Int.mul_nonneg h1.1 (by omega), ?_⟩
  unfold shr_
  have := Int.mul_le_mul_of_nonneg_right h1.2 (show 0 ≤ mxp p by omega)
  omega
theorem sum_in {r a p v q : Int} (hr : rt r) (a0 : 0 ≤ a) (a1 : a ≤ 100000000) (v0 : 0 ≤ v) (v1 : v ≤ 1000000000000) (q0 : 0 ≤ q) (q1 : q ≤ 1000000000) (p0 : 0 ≤ p) (p1 : p ≤ 1000000) :
    0 ≤ a * q ∧ a * q ≤ 100000000000000000 ∧ 0 ≤ dsum r a p v q ∧ dsum r a p v q ≤ 100010000000000000 * (mxp p * 1000000) := by
  have hp := mxp_in p0 p1
  have h1 := mul_le2 a0 a1 q0 q1
  have h2 := shr_in_ hr v0 v1 p0 p1
  unfold dsum
  refine ⟨h1.1, by omega, by omega, by omega⟩
theorem cap_in {p : Int} {hm : Bool} {m v W : Int} (hr : rt m) (v0 : 0 ≤ v) (v1 : v ≤ 1000000000000) (p0 : 0 ≤ p) (p1 : p ≤ 1000000) (h0 : 0 ≤ W) (h1 : W ≤ 100010000000000000 * (mxp p * 1000000)) :
    0 ≤ dcap p hm m v W ∧ dcap p hm m v W ≤ 100010000000000000 * (mxp p * 1000000) := by
  have h2 := shr_in_ hr v0 v1 p0 p1
  have hp := mxp_in p0 p1
  unfold dcap
  split <;> omega
theorem flo_in {p : Int} {hl : Bool} {l v W : Int} (hr : rt l) (v0 : 0 ≤ v) (v1 : v ≤ 1000000000000) (p0 : 0 ≤ p) (p1 : p ≤ 1000000) (h0 : 0 ≤ W) (h1 : W ≤ 100010000000000000 * (mxp p * 1000000)) :
    0 ≤ dflo p hl l v W ∧ dflo p hl l v W ≤ 100010000000000000 * (mxp p * 1000000) := by
  have h2 := shr_in_ hr v0 v1 p0 p1
  have hp := mxp_in p0 p1
  unfold dflo
  split <;> omega
theorem rndh_in {N c B : Int} (hc : 0 < c) (h0 : 0 ≤ N) (h1 : N ≤ B * c) : 0 ≤ rndh N c ∧ rndh N c ≤ B + 1 := by
  have h2 : N / c ≤ B := by
    have := Int.ediv_le_ediv hc h1
    rwa [Int.mul_ediv_cancel _ (by omega)] at this
  have h3 := Int.ediv_nonneg h0 (Int.le_of_lt hc)
  unfold rndh
  split <;> omega
/-- 2N+c divided by 2c. -/
theorem rndh_eq {N c : Int} (hc : 0 < c) : rndh N c = (2 * N + c) / (2 * c) := by
  have hm0 := Int.emod_nonneg N (show c ≠ 0 by omega)
  have hm1 := Int.emod_lt_of_pos N hc
  have hd := Int.emod_add_mul_ediv N c
  unfold rndh
  generalize N / c = Q at *
  generalize N % c = R at *
  subst hd
  split
  · rw [show 2 * (R + c * Q) + c = (2 * R - c) + (2 * c) * (Q + 1) by rw [Int.mul_add, Int.mul_assoc, Int.mul_add]; omega, Int.add_mul_ediv_left _ _ (by omega), Int.ediv_eq_zero_of_lt (by omega) (by omega)]
    omega
  · rw [show 2 * (R + c * Q) + c = (2 * R + c) + (2 * c) * Q by rw [Int.mul_add, Int.mul_assoc]; omega, Int.add_mul_ediv_left _ _ (by omega), Int.ediv_eq_zero_of_lt (by omega) (by omega)]
    omega
theorem rndh_mono {N M c : Int} (hc : 0 < c) (h : N ≤ M) : rndh N c ≤ rndh M c := by
  rw [rndh_eq hc, rndh_eq hc]
  exact Int.ediv_le_ediv (by omega) (by omega)
end Go.Proofs.YtfpkgdkcllobiaaDoor.D
end
section
namespace Go.Proofs.YtfpkgdkcllobiaaDoor.D
set_option linter.unusedVariables false
set_option linter.unusedSimpArgs false
open Go.RowKit Go.Proofs.YtfpkgdkcllobiaaDoorW.PrintWords Go.Proofs.YtfpkgdkcllobiaaDoorW.PrintMore Go.Proofs.YtfpkgdkcllobiaaDoor.F
theorem dv_range {r a p : Int} {hm : Bool} {m : Int} {hl : Bool} {l : Int} (h : ¬ rt r ∨ a < 0 ∨ a > 100000000 ∨ (a = 0 ∧ p ≠ 0) ∨ (a > 0 ∧ (p < 1 ∨ p > 1000000)) ∨ ¬ rt m ∨ ¬ rt l) : dvalid r a p hm m hl l = 2 := by unfold dvalid; rw [if_pos h]
theorem dv_in {r a p : Int} {hm : Bool} {m : Int} {hl : Bool} {l : Int} (h : ¬ (¬ rt r ∨ a < 0 ∨ a > 100000000 ∨ (a = 0 ∧ p ≠ 0) ∨ (a > 0 ∧ (p < 1 ∨ p > 1000000)) ∨ ¬ rt m ∨ ¬ rt l)) :
    dvalid r a p hm m hl l = if (hm = false ∧ m ≠ 0) ∨ (hl = false ∧ l ≠ 0) ∨ (hm = true ∧ hl = true ∧ l > m) then 1 else 0 := by unfold dvalid; rw [if_neg h]
theorem rate_eq (n : Int) : duty_rate.f n = some (decide (rt n)) := by
  unfold duty_rate.f
  by_cases h : n ≥ 0
  · rw [if_pos h]
    congr 1
    exact decide_eq_decide.2 ⟨fun k => ⟨h, k⟩, fun k => k.2⟩
  · rw [if_neg h, decide_eq_false (fun k => h k.1)]
theorem dv_j2 (r a p : Int) (hm : Bool) (m : Int) (hl : Bool) (l : Int) (b : Bool) (hb : b = true → dvalid r a p hm m hl l = 2) (hn : b = false → ¬ (¬ rt r ∨ a < 0 ∨ a > 100000000 ∨ (a = 0 ∧ p ≠ 0) ∨ (a > 0 ∧ (p < 1 ∨ p > 1000000)) ∨ ¬ rt m ∨ ¬ rt l)) :
    Ev (fun k => duty_Validate.j2 k b r a p hm m hl l) (dvalid r a p hm m hl l) := by
  refine Ev.step (fun k => by rw [duty_Validate.j2]) ?_
  cases b with
  | true => rw [hb rfl]; exact ev_pos rfl (Ev.now _)
  | false =>
    rw [dv_in (hn rfl)]
    refine ev_neg (by simp) ?_
    have key : ∀ x y : Int, x = y → Ev (fun _ => some x) y := fun x y e => by rw [e]; exact Ev.now _
    cases hm <;> cases hl
    · refine ev_neg (by simp) (ev_ite (fun c => ev_neg (by simp) (ev_ite (fun d => key _ _ (by rw [if_neg (by simp; omega)])) (fun d => key _ _ (by rw [if_pos (by simp; omega)])))) (fun c => key _ _ (by rw [if_pos (by simp; omega)])))
    · refine ev_neg (by simp) (ev_ite (fun c => ev_pos rfl (key _ _ (by rw [if_neg (by simp; omega)]))) (fun c => key _ _ (by rw [if_pos (by simp; omega)])))
    · refine ev_pos rfl (ev_neg (by simp) (ev_ite (fun d => key _ _ (by rw [if_neg (by simp; omega)])) (fun d => key _ _ (by rw [if_pos (by simp; omega)]))))
    · refine ev_pos rfl (ev_pos rfl (ev_ite (fun d => key _ _ (by rw [if_pos (by simp; omega)])) (fun d => key _ _ (by rw [if_neg (by simp; omega)]))))
theorem dv_j1 (r a p : Int) (hm : Bool) (m : Int) (hl : Bool) (l : Int) (b : Bool) (hb : b = true → dvalid r a p hm m hl l = 2) (hn : b = false → rt r ∧ 0 ≤ a ∧ a ≤ 100000000 ∧ (a = 0 → p = 0) ∧ (a > 0 → 1 ≤ p ∧ p ≤ 1000000)) :
    Ev (fun k => duty_Validate.j1 k b r a p hm m hl l) (dvalid r a p hm m hl l) := by
  refine Ev.step (fun k => by rw [duty_Validate.j1]) ?_
  cases b with
  | true => rw [hb rfl]; exact ev_pos rfl (Ev.now _)
  | false =>
    have h := hn rfl
    refine ev_neg (by simp) ?_
    rw [rate_eq, rate_eq]
    refine ev_let ?_
    by_cases c1 : rt m
    · refine ev_pos (decide_eq_true c1) (ev_let (dv_j2 r a p hm m hl l _ (fun hb => dv_range ?_) (fun hb => ?_)))
      · have : ¬ rt l := fun c => by rw [decide_eq_true c] at hb; cases hb
        omega
      · have : rt l := Decidable.byContradiction fun c => by rw [decide_eq_false c] at hb; cases hb
        omega
    · exact ev_neg (by simpa using c1) (dv_j2 r a p hm m hl l _ (fun _ => dv_range (by omega)) (fun hb => by cases hb))
theorem dv_j0 (r a p : Int) (hm : Bool) (m : Int) (hl : Bool) (l : Int) (b : Bool) (hb : b = true → dvalid r a p hm m hl l = 2) (hn : b = false → rt r ∧ 0 ≤ a ∧ a ≤ 100000000) :
    Ev (fun k => duty_Validate.j0 k b r a p hm m hl l) (dvalid r a p hm m hl l) := by
  refine Ev.step (fun k => by rw [duty_Validate.j0]) ?_
  cases b with
  | true => rw [hb rfl]; exact ev_pos rfl (Ev.now _)
  | false =>
    have h := hn rfl
    refine ev_neg (by simp) ?_
    refine ev_ite (fun c1 => ev_ite (fun c2 => ev_neg (by omega) (dv_j1 _ _ _ _ _ _ _ _ (fun hb => by cases hb) (fun _ => ?_))) (fun c2 => dv_j1 _ _ _ _ _ _ _ _ (fun _ => dv_range (by omega)) (fun hb => by cases hb))) (fun c1 => ev_pos (by omega) (ev_ite (fun c3 => dv_j1 _ _ _ _ _ _ _ _ (fun _ => dv_range (by omega)) (fun hb => by cases hb)) (fun c3 => dv_j1 _ _ _ _ _ _ _ _ (fun hb => dv_range ?_) (fun hb => ?_))))
    · exact ⟨h.1, h.2.1, h.2.2, by omega, by omega⟩
    · have := of_decide_eq_true hb; omega
    · have := of_decide_eq_false hb; exact ⟨h.1, h.2.1, h.2.2, by omega, by omega⟩
theorem dvalidate_ev (r a p : Int) (hm : Bool) (m : Int) (hl : Bool) (l : Int) : Ev (fun k => duty_Validate.f k r a p hm m hl l) (dvalid r a p hm m hl l) := by
  unfold duty_Validate.f
  rw [rate_eq]
  refine ev_let ?_
  by_cases c1 : rt r
  · refine ev_pos (decide_eq_true c1) (ev_ite (fun c2 => dv_j0 _ _ _ _ _ _ _ _ (fun _ => dv_range (by omega)) (fun hb => by cases hb)) (fun c2 => dv_j0 _ _ _ _ _ _ _ _ (fun hb => dv_range ?_) (fun hb => ?_)))
    · have := of_decide_eq_true hb; omega
    · have := of_decide_eq_false hb; exact ⟨c1, by omega, by omega⟩
  · exact ev_neg (by simpa using c1) (dv_j0 _ _ _ _ _ _ _ _ (fun _ => dv_range (by omega)) (fun hb => by cases hb))
end Go.Proofs.YtfpkgdkcllobiaaDoor.D
end
