/- Part 8 of the proof of the law DutyFormat (its walk through the code, and the plain laws over numbers and texts). Conditions: none. -/
import Derived.Test.YtfpkgdkcllobiaaDoorZDutyFormat7
import Derived.Shelf.Spec.BitsCarry
section
namespace Go.Proofs.YtfpkgdkcllobiaaDoor.F
open Go.RowKit Go.Shelf Go.Proofs.YtfpkgdkcllobiaaDoorW.PrintWords
def exact_Add.f (a0_0 a0_1 a1_0 a1_1 : Int) : Option (Int × Int × Int) :=
  if 0 ≤ a0_0 ∧ a0_0 < 18446744073709551616 ∧ 0 ≤ a0_1 ∧ a0_1 < 18446744073709551616 ∧ 0 ≤ a1_0 ∧ a1_0 < 18446744073709551616 ∧ 0 ≤ a1_1 ∧ a1_1 < 18446744073709551616 then
    (if a0_0 + a1_0 + (a0_1 + a1_1) / 18446744073709551616 < 18446744073709551616 then some (a0_0 + a1_0 + (a0_1 + a1_1) / 18446744073709551616, (a0_1 + a1_1) % 18446744073709551616, 0) else some (0, 0, 3)) else none
theorem add64_run (x y c : Int) (hx : 0 ≤ x ∧ x < 18446744073709551616) (hy : 0 ≤ y ∧ y < 18446744073709551616) (hc : 0 ≤ c ∧ c ≤ 1) (w : World) :
    (callFunc 61 #[.int .u64 x, .int .u64 y, .int .u64 c]).run Tryd.prog w = .ok (.value (.tuple #[.int .u64 ((x + y + c) % 18446744073709551616), .int .u64 ((x + y + c) / 18446744073709551616)])) w := by
  obtain ⟨x, rfl⟩ := Int.eq_ofNat_of_zero_le hx.1
  obtain ⟨y, rfl⟩ := Int.eq_ofNat_of_zero_le hy.1
  obtain ⟨c, rfl⟩ := Int.eq_ofNat_of_zero_le hc.1
  rw [run_callFunc_extern Tryd.func61 (by kernel_rfl) (by kernel_rfl) (by kernel_rfl) (e := add64Entry) (by kernel_rfl), run_add64 x y c (by omega) (by omega) (by omega) (by omega)]
  rfl
set_option maxHeartbeats 8000000 in
set_option maxRecDepth 100000 in
theorem exact_Add.calls (a0_0 a0_1 a1_0 a1_1 : Int) (r1 r2 r3 : Int) (w : World) (h : exact_Add.f a0_0 a0_1 a1_0 a1_1 = some (r1, r2, r3)) :
    Calls Tryd.prog 42 #[.agg #[.int .u64 a0_0, .int .u64 a0_1], .agg #[.int .u64 a1_0, .int .u64 a1_1]] w fun e w' => e = .returned (.tuple #[.agg #[.int .u64 r1, .int .u64 r2], .int .i64 r3]) ∧ Below w.heap.size w w' := by
  unfold exact_Add.f at h
  split at h
  · rename_i hb
    have q1 := add64_run a0_1 a1_1 0 ⟨by omega, by omega⟩ ⟨by omega, by omega⟩ ⟨by omega, by omega⟩
    have q2 := add64_run a0_0 a1_0 ((a0_1 + a1_1 + 0) / 18446744073709551616) ⟨by omega, by omega⟩ ⟨by omega, by omega⟩ ⟨by omega, by omega⟩
    simp only [Int.add_zero] at q1 q2
    split at h
    · rename_i hc
      simp only [Option.some.injEq, Prod.mk.injEq] at h
      obtain ⟨rfl, rfl, rfl⟩ := h
      have e1 : (a0_0 + a1_0 + (a0_1 + a1_1) / 18446744073709551616) / 18446744073709551616 = 0 := by omega
      have e2 : (a0_0 + a1_0 + (a0_1 + a1_1) / 18446744073709551616) % 18446744073709551616 = a0_0 + a1_0 + (a0_1 + a1_1) / 18446744073709551616 := by omega
      rw [e1, e2] at q2
      go_enter Tryd.func42, Tryd.ntmps42
      go_wp2
      refine bodyPost_ret (results_ct rfl _ _ (w.heap.size + 1 + 1) 63 #[.int .u64 (a0_0 + a1_0 + (a0_1 + a1_1) / 18446744073709551616), .int .u64 ((a0_1 + a1_1) % 18446744073709551616)] (0, 0) _ rfl (by rw [show w.heap.size + 1 + 1 = ((w.alloc (.cells #[.int .u64 a0_0, .int .u64 a0_1] 63)).alloc (.cells #[.int .u64 a1_0, .int .u64 a1_1] 63)).heap.size from by show _ = ((w.heap.push _).push _).size; rw [Array.size_push, Array.size_push]]; exact blk_new _ _) Tryd.underlying63 rfl (by kernel_rfl)) rfl ?_
      exact ⟨by first | rfl | simp, by repeat (first | exact Below.refl _ _ | apply below_alloc | refine below_set ?_ (by show w.heap.size ≤ w.heap.size + 1 + 1; omega))⟩
    · rename_i hc
      simp only [Option.some.injEq, Prod.mk.injEq] at h
      obtain ⟨rfl, rfl, rfl⟩ := h
      have e1 : (a0_0 + a1_0 + (a0_1 + a1_1) / 18446744073709551616) / 18446744073709551616 = 1 := by omega
      rw [e1] at q2
      go_enter Tryd.func42, Tryd.ntmps42
      go_wp2
      refine bodyPost_ret (results_ct rfl _ _ (w.heap.size + 1 + 1) 63 #[.int .u64 (0), .int .u64 (0)] (0, 0) _ rfl (by rw [show w.heap.size + 1 + 1 = ((w.alloc (.cells #[.int .u64 a0_0, .int .u64 a0_1] 63)).alloc (.cells #[.int .u64 a1_0, .int .u64 a1_1] 63)).heap.size from by show _ = ((w.heap.push _).push _).size; rw [Array.size_push, Array.size_push]]; exact blk_new _ _) Tryd.underlying63 rfl (by kernel_rfl)) rfl ?_
      exact ⟨by first | rfl | simp, by repeat (first | exact Below.refl _ _ | apply below_alloc | refine below_set ?_ (by show w.heap.size ≤ w.heap.size + 1 + 1; omega))⟩
  · cases h
end Go.Proofs.YtfpkgdkcllobiaaDoor.F
end
section
namespace Go.Proofs.YtfpkgdkcllobiaaDoor.F
open Go.RowKit Go.Proofs.YtfpkgdkcllobiaaDoorW.PrintWords Go.Proofs.YtfpkgdkcllobiaaDoorW.PrintLast Go.Proofs.YtfpkgdkcllobiaaDoorW.PrintMore
attribute [local go_sem] max2_int min2_int max_two min_two
set_option linter.unusedVariables false
set_option linter.unusedSimpArgs false
def Pk (sg b : Bool) (rate v P s1 s2 t1 t2 : Int) : Prop :=
  (b = false ∧ t1 = s1 ∧ t2 = s2) ∨ (b = true ∧ ∃ m1 m2 c, exact_Mul.f (IntKind.u64.wrap (IntKind.u64.wrap rate * IntKind.u64.wrap v)) P = some (m1, m2) ∧ exact_CompareWide.f s1 s2 m1 m2 = some c ∧ ((sg = true ∧ decide (0 < c) = true ∧ t1 = m1 ∧ t2 = m2) ∨ (sg = true ∧ decide (0 < c) = false ∧ t1 = s1 ∧ t2 = s2) ∨ (sg = false ∧ decide (c < 0) = true ∧ t1 = m1 ∧ t2 = m2) ∨ (sg = false ∧ decide (c < 0) = false ∧ t1 = s1 ∧ t2 = s2)))
set_option maxHeartbeats 8000000 in
set_option maxRecDepth 100000 in
theorem duty_Evaluate.walk (K : Nat) (a0 a1 a2 : Int) (b3 : Bool) (a4 : Int) (b5 : Bool) (a6 a7 a8 P x1 x2 y1 y2 s1 s2 t1 t2 u1 u2 n e R1 R2 : Int) (w : World)
    (hV : Aside0 (duty_Validate.f K a0 a1 a2 b3 a4 b5 a6 = some 0)) (v0 : decide (a7 < 0) = false) (v1 : decide (1000000000000 < a7) = false) (q0 : decide (a8 < 0) = false) (q1 : decide (1000000000 < a8) = false)
    (hP : IntKind.u64.wrap (mx a2 1) = P)
    (A1 : Aside0 (exact_Mul.f (IntKind.u64.wrap (IntKind.u64.wrap a0 * IntKind.u64.wrap a7)) P = some (x1, x2))) (A2 : Aside0 (exact_Mul.f (IntKind.u64.wrap (IntKind.u64.wrap a1 * IntKind.u64.wrap a8)) 1000000 = some (y1, y2)))
    (A3 : Aside0 (exact_Add.f x1 x2 y1 y2 = some (s1, s2, 0))) (HM : Aside0 (Pk true b3 a4 a7 P s1 s2 t1 t2)) (HL : Aside0 (Pk false b5 a6 a7 P t1 t2 u1 u2))
    (A8 : Aside0 (exact_Div.f K u1 u2 (IntKind.u64.wrap (P * 1000000)) 2 = some (n, e)))
    (hres : Aside0 ((e ≠ 0 ∨ n > 1000000000000 → R1 = 0 ∧ R2 = 3) ∧ (¬ (e ≠ 0 ∨ n > 1000000000000) → R1 = wrap64 n ∧ R2 = 0))) :
    Calls Tryd.prog 20 #[.agg #[.int .i64 a0, .int .i64 a1, .int .i64 a2, .bool b3, .int .i64 a4, .bool b5, .int .i64 a6], .int .i64 a7, .int .i64 a8] w fun r w' => r = .returned (.tuple #[.int .i64 R1, .int .i64 R2]) ∧ Below w.heap.size w w' := by
  have hu23 := Tryd.underlying23
  have hu63 := Tryd.underlying63
  have HB := Aside0.mk (Below.refl w.heap.size w)
  go_enter Tryd.func20, Tryd.ntmps20
  go_upto_region 8 with (first | ((with_reducible refine gate_dst (N := 3) rfl ?_); refine box_event ?hg (N := 3) ?hd (cs := #[.int .i64 a0, .int .i64 a1, .int .i64 a2, .bool b3, .int .i64 a4, .bool b5, .int .i64 a6]) (t := 23) ?hr ?_; (case hd => rfl); (case hg => rfl); (case hr => first | (go_simp; done) | (go_simp; rfl)); intro g3 hg wb3 hbox hb; have HB3 := Aside0.mk (below_step HB.out hb); have BK3 := Aside0.mk hbox; have GE3 := Aside0.mk (show w.heap.size ≤ g3 by rw [hg]; exact Nat.le_refl _); clear hg hb hbox) | ((with_reducible refine gate_dst (N := 4) rfl ?_); refine box_event ?hg (N := 4) ?hd (cs := #[.int .i64 a7]) (t := 3) ?hr ?_; (case hd => rfl); (case hg => rfl); (case hr => first | (go_simp; done) | (go_simp; rfl)); intro g4 hg wb4 hbox hb; have HB4 := Aside0.mk (below_step HB3.out hb); have BK4 := Aside0.mk hbox; have BK34 := Aside0.mk (blk_below BK3.out hb); have hc3_0 := blk_cell BK34.out 0; have hc3_1 := blk_cell BK34.out 1; have hc3_2 := blk_cell BK34.out 2; have hc3_3 := blk_cell BK34.out 3; have hc3_4 := blk_cell BK34.out 4; have hc3_5 := blk_cell BK34.out 5; have hc3_6 := blk_cell BK34.out 6; have hc4 := blk_cell BK4.out 0; clear hg hb hbox) | ((with_reducible refine gate_callee (f := 11) rfl ?_); refine goesL_ (some 16) rfl rfl Tryd.func11 (by kernel_rfl) rfl #[.agg #[.int .i64 a0, .int .i64 a1, .int .i64 a2, .bool b3, .int .i64 a4, .bool b5, .int .i64 a6]] rfl (by (try simp only [List.map_toArray, List.map_cons, List.map_nil]); first | done | rfl) ?_; (with_reducible refine (duty_Validate.calls K a0 a1 a2 b3 a4 b5 a6 0 _ hV.out).mono ?_); rintro r wv ⟨rfl, hb⟩; refine ⟨_, rfl, ?_⟩; have HB5 := Aside0.mk (below_step HB4.out hb); have BK5_3 := Aside0.mk (blk_below BK34.out hb); have BK5_4 := Aside0.mk (blk_below BK4.out hb); have hv3_0 := blk_cell BK5_3.out 0; have hv3_1 := blk_cell BK5_3.out 1; have hv3_2 := blk_cell BK5_3.out 2; have hv3_3 := blk_cell BK5_3.out 3; have hv3_4 := blk_cell BK5_3.out 4; have hv3_5 := blk_cell BK5_3.out 5; have hv3_6 := blk_cell BK5_3.out 6; have hv4 := blk_cell BK5_4.out 0; clear hb) | ((with_reducible refine gate_dst (N := 9) rfl ?_); refine box_event ?hg (N := 9) ?hd (cs := #[.int .u64 0]) (t := 61) ?hr ?_; (case hd => rfl); (case hg => rfl); (case hr => first | (go_simp; done) | (go_simp; rfl)); intro g9 hg wb9 hbox hb; have HB9 := Aside0.mk (below_step HB5.out hb); have GE9 := Aside0.mk (show w.heap.size ≤ g9 by rw [hg]; exact HB5.out.size); have BK9 := Aside0.mk hbox; have BK9_3 := Aside0.mk (blk_below BK5_3.out hb); have BK9_4 := Aside0.mk (blk_below BK5_4.out hb); have hc9 := blk_cell BK9.out 0; have hf9 := blk_frozen BK9.out 0; clear hg hb hbox))
  (try simp only [Act.put, List.setIfInBounds_toArray, List.set_cons_zero, List.set_cons_succ])
  rw [show (if a2 < 1 then 1 else a2) = mx a2 1 from rfl, hP]
  have FR := Aside0.mk (Fr.mk (w0 := w) (below_set HB9.out GE9.out) (blk_far BK9_3.out (blk_ne BK9_3.out BK9.out (by decide)) (.int .u64 P)) (blk_far BK9_4.out (blk_ne BK9_4.out BK9.out (by decide)) _) (blk_put BK9.out 0 _ rfl))
  generalize wb9.setCell ⟨g9, 0, none⟩ (.int .u64 P) = w10 at FR ⊢
  clear hc9 hf9 BK9 BK9_3 BK9_4 GE9 HB9 hv4 hv3_0 hv3_1 hv3_2 hv3_3 hv3_4 hv3_5 hv3_6 BK5_3 BK5_4 HB5 hc4 hc3_0 hc3_1 hc3_2 hc3_3 hc3_4 hc3_5 hc3_6 BK34 BK4 HB4 GE3 BK3 HB3 HB
  refine start_ (n := 18) (S := fun w' => w'.cell? ⟨g3, 0, none⟩ = some (.int .i64 a0) ∧ w'.cell? ⟨g3, 1, none⟩ = some (.int .i64 a1)) (ds := []) #[false, false, false, false, false, false, false, false, false, false, false, false, false, false, false, false, false, false] (by kernel_rfl) rfl rfl ⟨(blk_cell FR.out.drew.b3 0).trans rfl, (blk_cell FR.out.drew.b3 1).trans rfl⟩ (fun hHeld => ?_)
  replace FR := Aside0.mk FR.out.drew
  refine pure_ (i := 0) (N := some 40) (v := ?_) (a' := ?_) #[true, false, false, false, false, false, false, false, false, false, false, false, false, false, false, false, false, false] rfl rfl (by kernel_rfl) (fun _ _ _ h => h) (Or.inl ⟨by rfl, ?_⟩) ?_ ?_
  rotate_left
  · intro w'
    go_simp
    with_reducible rfl
  rotate_left
  · simp only [Act.put, List.setIfInBounds_toArray, List.set_cons_zero, List.set_cons_succ, i64_w, i32_w]
    rfl
  refine pure_ (i := 1) (N := some 41) (v := ?_) (a' := ?_) #[true, true, false, false, false, false, false, false, false, false, false, false, false, false, false, false, false, false] rfl rfl (by kernel_rfl) (fun _ _ _ h => h) (Or.inl ⟨by rfl, ?_⟩) ?_ ?_
  rotate_left
  · intro w'
    go_simp
    with_reducible rfl
  rotate_left
  · simp only [Act.put, List.setIfInBounds_toArray, List.set_cons_zero, List.set_cons_succ, i64_w, i32_w]
    rfl
  refine pure_ (i := 4) (N := some 44) (v := ?_) (a' := ?_) #[true, true, false, false, true, false, false, false, false, false, false, false, false, false, false, false, false, false] rfl rfl (by kernel_rfl) (fun _ _ _ h => h) (Or.inl ⟨by rfl, ?_⟩) ?_ ?_
  rotate_left
  · intro w'
    go_simp
    with_reducible rfl
  rotate_left
  · simp only [Act.put, List.setIfInBounds_toArray, List.set_cons_zero, List.set_cons_succ, i64_w, i32_w]
    rfl
  refine pure_ (i := 7) (N := some 47) (v := ?_) (a' := ?_) #[true, true, false, false, true, false, false, true, false, false, false, false, false, false, false, false, false, false] rfl rfl (by kernel_rfl) (fun _ _ _ h => h) (Or.inl ⟨by rfl, ?_⟩) ?_ ?_
  rotate_left
  · intro w'
    go_simp
    with_reducible rfl
  rotate_left
  · simp only [Act.put, List.setIfInBounds_toArray, List.set_cons_zero, List.set_cons_succ, i64_w, i32_w]
    rfl
  refine pure_ (i := 8) (N := some 48) (v := ?_) (a' := ?_) #[true, true, false, false, true, false, false, true, true, false, false, false, false, false, false, false, false, false] rfl rfl (by kernel_rfl) (fun _ _ _ h => h) (Or.inl ⟨by rfl, ?_⟩) ?_ ?_
  rotate_left
  · intro w'
    go_simp
    with_reducible rfl
  rotate_left
  · simp only [Act.put, List.setIfInBounds_toArray, List.set_cons_zero, List.set_cons_succ, i64_w, i32_w]
    rfl
  refine take_ (i := 2) (N := some 42) (v := ?_) (a' := ?_) #[true, true, true, false, true, false, false, true, true, false, false, false, false, false, false, false, false, false] rfl rfl (by kernel_rfl) (fun _ _ _ h => h) (Or.inl ⟨by rfl, ?_⟩) hHeld ?_ ?_
  rotate_left
  · rintro w' ⟨s0, s1⟩
    go_simp
    with_reducible rfl
  rotate_left
  · simp only [Act.put, List.setIfInBounds_toArray, List.set_cons_zero, List.set_cons_succ, i64_w, i32_w]
    rfl
  refine take_ (i := 5) (N := some 45) (v := ?_) (a' := ?_) #[true, true, true, false, true, true, false, true, true, false, false, false, false, false, false, false, false, false] rfl rfl (by kernel_rfl) (fun _ _ _ h => h) (Or.inl ⟨by rfl, ?_⟩) hHeld ?_ ?_
  rotate_left
  · rintro w' ⟨s0, s1⟩
    go_simp
    with_reducible rfl
  rotate_left
  · simp only [Act.put, List.setIfInBounds_toArray, List.set_cons_zero, List.set_cons_succ, i64_w, i32_w]
    rfl
  refine pure_ (i := 6) (N := some 46) (v := ?_) (a' := ?_) #[true, true, true, false, true, true, true, true, true, false, false, false, false, false, false, false, false, false] rfl rfl (by kernel_rfl) (fun _ _ _ h => h) (Or.inl ⟨by rfl, ?_⟩) ?_ ?_
  rotate_left
  · intro w'
    go_simp
    with_reducible rfl
  rotate_left
  · simp only [Act.put, List.setIfInBounds_toArray, List.set_cons_zero, List.set_cons_succ, i64_w, i32_w]
    rfl
  refine pure_ (i := 9) (N := some 49) (v := ?_) (a' := ?_) #[true, true, true, false, true, true, true, true, true, true, false, false, false, false, false, false, false, false] rfl rfl (by kernel_rfl) (fun _ _ _ h => h) (Or.inl ⟨by rfl, ?_⟩) ?_ ?_
  rotate_left
  · intro w'
    go_simp
    with_reducible rfl
  rotate_left
  · simp only [Act.put, List.setIfInBounds_toArray, List.set_cons_zero, List.set_cons_succ, i64_w, i32_w]
    rfl
  refine join_ (σ := Nat) 2 #[true, true, true, true, true, true, true, true, true, true, true, true, true, true, true, true, false, false] (fun s_ => [(43, .agg #[.int .u64 x1, .int .u64 x2]), (50, .agg #[.int .u64 y1, .int .u64 y2]), (51, .tuple #[.agg #[.int .u64 s1, .int .u64 s2], .int .i64 0]), (39, .tuple #[.agg #[.int .u64 s1, .int .u64 s2], .int .i64 0]), (52, .agg #[.int .u64 s1, .int .u64 s2]), (53, .int .i64 0), (11, .pointer (some ⟨s_, 0, none⟩))]) (fun s_ w' => (w'.cell? ⟨g3, 0, none⟩ = some (.int .i64 a0) ∧ w'.cell? ⟨g3, 1, none⟩ = some (.int .i64 a1)) ∧ Fs w g3 g4 g9 s_ #[.int .i64 a0, .int .i64 a1, .int .i64 a2, .bool b3, .int .i64 a4, .bool b5, .int .i64 a6] a7 P 0 0 w') ?_ ?_
  rotate_left
  · intro hCont
    refine two_ (i := 3) (j := 15) (Ni := some 43) (Nj := some 11) #[true, true, true, true, true, true, true, true, true, true, false, false, false, false, false, false, false, false] #[true, true, true, false, true, true, true, true, true, true, false, false, false, false, false, true, false, false] rfl rfl rfl rfl (by kernel_rfl) (by decide) (by decide) (fun K hK => ?_) (fun K hK => ?_)
    · skip
      refine goesV_ Tryd.func40 (by kernel_rfl) rfl #[.int .i64 a0] (by rfl) rfl rfl rfl (by simp only [List.map_toArray, List.map_cons, List.map_nil]; rfl) ?_
      refine calls_of_args (args' := #[.int .i64 a0, .pointer (some ⟨g4, 0, none⟩), .pointer (some ⟨g9, 0, none⟩)]) rfl ?_
      with_reducible refine (duty_share.calls a0 a7 P g4 g9 x1 x2 _ FR.out.b4 FR.out.b9 A1.out).mono ?_
      rintro r wq ⟨rfl, hb⟩
      refine ⟨_, rfl, ?_⟩
      replace FR := Aside0.mk (FR.out.step hb)
      clear hb
      refine hK.out _ _ ⟨(blk_cell FR.out.b3 0).trans rfl, (blk_cell FR.out.b3 1).trans rfl⟩ (fun hHeld => ?_)
      clear hK K
      refine norm_ (a' := ?_) ?_ ?_
      rotate_left
      · show Act.put _ (some 43) _ = _
        simp only [Act.put, List.setIfInBounds_toArray, List.set_cons_zero, List.set_cons_succ, i64_w, i32_w]
        rfl
      refine two_ (i := 10) (j := 15) (Ni := some 50) (Nj := some 11) #[true, true, true, true, true, true, true, true, true, true, true, false, false, false, false, false, false, false] #[true, true, true, true, true, true, true, true, true, true, false, false, false, false, false, true, false, false] rfl rfl rfl rfl (by kernel_rfl) (by decide) (by decide) (fun K hK => ?_) (fun K hK => ?_)
      · skip
        refine goes_ Tryd.func41 (by kernel_rfl) rfl #[.int .u64 (IntKind.u64.wrap (IntKind.u64.wrap a1 * IntKind.u64.wrap a8)), .int .u64 1000000] (by rfl) rfl rfl (by simp only [List.map_toArray, List.map_cons, List.map_nil]; rfl) ?_
        with_reducible refine (exact_Mul.calls _ _ y1 y2 _ A2.out).mono ?_
        rintro r wq ⟨rfl, hb⟩
        refine ⟨_, rfl, ?_⟩
        replace FR := Aside0.mk (FR.out.step hb)
        clear hb
        refine hK.out _ _ ⟨(blk_cell FR.out.b3 0).trans rfl, (blk_cell FR.out.b3 1).trans rfl⟩ (fun hHeld => ?_)
        clear hK K
        refine norm_ (a' := ?_) ?_ ?_
        rotate_left
        · show Act.put _ (some 50) _ = _
          simp only [Act.put, List.setIfInBounds_toArray, List.set_cons_zero, List.set_cons_succ, i64_w, i32_w]
          rfl
        refine two_ (i := 11) (j := 15) (Ni := some 51) (Nj := some 11) #[true, true, true, true, true, true, true, true, true, true, true, true, false, false, false, false, false, false] #[true, true, true, true, true, true, true, true, true, true, true, false, false, false, false, true, false, false] rfl rfl rfl rfl (by kernel_rfl) (by decide) (by decide) (fun K hK => ?_) (fun K hK => ?_)
        · skip
          refine goes_ Tryd.func42 (by kernel_rfl) rfl #[.agg #[.int .u64 x1, .int .u64 x2], .agg #[.int .u64 y1, .int .u64 y2]] (by rfl) rfl rfl (by simp only [List.map_toArray, List.map_cons, List.map_nil]; rfl) ?_
          with_reducible refine (exact_Add.calls x1 x2 y1 y2 s1 s2 0 _ A3.out).mono ?_
          rintro r wq ⟨rfl, hb⟩
          refine ⟨_, rfl, ?_⟩
          replace FR := Aside0.mk (FR.out.step hb)
          clear hb
          refine hK.out _ _ ⟨(blk_cell FR.out.b3 0).trans rfl, (blk_cell FR.out.b3 1).trans rfl⟩ (fun hHeld => ?_)
          clear hK K
          refine norm_ (a' := ?_) ?_ ?_
          rotate_left
          · show Act.put _ (some 51) _ = _
            simp only [Act.put, List.setIfInBounds_toArray, List.set_cons_zero, List.set_cons_succ, i64_w, i32_w]
            rfl
          refine pure_ (i := 12) (N := some 39) (v := ?_) (a' := ?_) #[true, true, true, true, true, true, true, true, true, true, true, true, true, false, false, false, false, false] rfl rfl (by kernel_rfl) (fun _ _ _ h => h) (Or.inl ⟨by rfl, ?_⟩) ?_ ?_
          rotate_left
          · intro w'
            go_simp
            with_reducible rfl
          rotate_left
          · simp only [Act.put, List.setIfInBounds_toArray, List.set_cons_zero, List.set_cons_succ, i64_w, i32_w]
            rfl
          refine pure_ (i := 13) (N := some 52) (v := ?_) (a' := ?_) #[true, true, true, true, true, true, true, true, true, true, true, true, true, true, false, false, false, false] rfl rfl (by kernel_rfl) (fun _ _ _ h => h) (Or.inl ⟨by rfl, ?_⟩) ?_ ?_
          rotate_left
          · intro w'
            go_simp
            with_reducible rfl
          rotate_left
          · simp only [Act.put, List.setIfInBounds_toArray, List.set_cons_zero, List.set_cons_succ, i64_w, i32_w]
            rfl
          refine pure_ (i := 14) (N := some 53) (v := ?_) (a' := ?_) #[true, true, true, true, true, true, true, true, true, true, true, true, true, true, true, false, false, false] rfl rfl (by kernel_rfl) (fun _ _ _ h => h) (Or.inl ⟨by rfl, ?_⟩) ?_ ?_
          rotate_left
          · intro w'
            go_simp
            with_reducible rfl
          rotate_left
          · simp only [Act.put, List.setIfInBounds_toArray, List.set_cons_zero, List.set_cons_succ, i64_w, i32_w]
            rfl
          refine one_ (i := 15) (N := some 11) #[true, true, true, true, true, true, true, true, true, true, true, true, true, true, true, true, false, false] rfl rfl (by kernel_rfl) (by decide) (fun K hK => ?_)
          refine box_step ?hg (N := 11) ?hd (cs := #[.int .u64 0, .int .u64 0]) (t := 63) ?hr ?_; (case hd => rfl); (case hg => rfl); (case hr => first | (go_simp; done) | (go_simp; rfl))
          intro g11 hg wq hbox hb
          have FS := Aside0.mk (Fs.mk (g11 := g11) (FR.out.step hb) hbox (by rw [hg]; exact FR.out.hb.size))
          clear hb hbox hg FR
          refine hK.out _ _ ⟨(blk_cell FS.out.fr.b3 0).trans rfl, (blk_cell FS.out.fr.b3 1).trans rfl⟩ (fun hHeld => ?_)
          clear hK K
          refine norm_ (a' := ?_) ?_ ?_
          rotate_left
          · show Act.put _ (some 11) _ = _
            simp only [Act.put, List.setIfInBounds_toArray, List.set_cons_zero, List.set_cons_succ, i64_w, i32_w]
            rfl
          exact norm_ (by simp only [putAll, Act.put, List.setIfInBounds_toArray, List.set_cons_zero, List.set_cons_succ]) (hCont g11 _ ⟨hHeld, FS.out⟩)
        · skip
          refine box_step ?hg (N := 11) ?hd (cs := #[.int .u64 0, .int .u64 0]) (t := 63) ?hr ?_; (case hd => rfl); (case hg => rfl); (case hr => first | (go_simp; done) | (go_simp; rfl))
          intro g11 hg wq hbox hb
          have FS := Aside0.mk (Fs.mk (g11 := g11) (FR.out.step hb) hbox (by rw [hg]; exact FR.out.hb.size))
          clear hb hbox hg FR
          refine hK.out _ _ ⟨(blk_cell FS.out.fr.b3 0).trans rfl, (blk_cell FS.out.fr.b3 1).trans rfl⟩ (fun hHeld => ?_)
          clear hK K
          refine norm_ (a' := ?_) ?_ ?_
          rotate_left
          · show Act.put _ (some 11) _ = _
            simp only [Act.put, List.setIfInBounds_toArray, List.set_cons_zero, List.set_cons_succ, i64_w, i32_w]
            rfl
          refine one_ (i := 11) (N := some 51) #[true, true, true, true, true, true, true, true, true, true, true, true, false, false, false, true, false, false] rfl rfl (by kernel_rfl) (by decide) (fun K hK => ?_)
          refine goes_ Tryd.func42 (by kernel_rfl) rfl #[.agg #[.int .u64 x1, .int .u64 x2], .agg #[.int .u64 y1, .int .u64 y2]] (by rfl) rfl rfl (by simp only [List.map_toArray, List.map_cons, List.map_nil]; rfl) ?_
          with_reducible refine (exact_Add.calls x1 x2 y1 y2 s1 s2 0 _ A3.out).mono ?_
          rintro r wq ⟨rfl, hb⟩
          refine ⟨_, rfl, ?_⟩
          replace FS := Aside0.mk (FS.out.step hb)
          clear hb
          refine hK.out _ _ ⟨(blk_cell FS.out.fr.b3 0).trans rfl, (blk_cell FS.out.fr.b3 1).trans rfl⟩ (fun hHeld => ?_)
          clear hK K
          refine norm_ (a' := ?_) ?_ ?_
          rotate_left
          · show Act.put _ (some 51) _ = _
            simp only [Act.put, List.setIfInBounds_toArray, List.set_cons_zero, List.set_cons_succ, i64_w, i32_w]
            rfl
          refine pure_ (i := 12) (N := some 39) (v := ?_) (a' := ?_) #[true, true, true, true, true, true, true, true, true, true, true, true, true, false, false, true, false, false] rfl rfl (by kernel_rfl) (fun _ _ _ h => h) (Or.inl ⟨by rfl, ?_⟩) ?_ ?_
          rotate_left
          · intro w'
            go_simp
            with_reducible rfl
          rotate_left
          · simp only [Act.put, List.setIfInBounds_toArray, List.set_cons_zero, List.set_cons_succ, i64_w, i32_w]
            rfl
          refine pure_ (i := 13) (N := some 52) (v := ?_) (a' := ?_) #[true, true, true, true, true, true, true, true, true, true, true, true, true, true, false, true, false, false] rfl rfl (by kernel_rfl) (fun _ _ _ h => h) (Or.inl ⟨by rfl, ?_⟩) ?_ ?_
          rotate_left
          · intro w'
            go_simp
            with_reducible rfl
          rotate_left
          · simp only [Act.put, List.setIfInBounds_toArray, List.set_cons_zero, List.set_cons_succ, i64_w, i32_w]
            rfl
          refine pure_ (i := 14) (N := some 53) (v := ?_) (a' := ?_) #[true, true, true, true, true, true, true, true, true, true, true, true, true, true, true, true, false, false] rfl rfl (by kernel_rfl) (fun _ _ _ h => h) (Or.inl ⟨by rfl, ?_⟩) ?_ ?_
          rotate_left
          · intro w'
            go_simp
            with_reducible rfl
          rotate_left
          · simp only [Act.put, List.setIfInBounds_toArray, List.set_cons_zero, List.set_cons_succ, i64_w, i32_w]
            rfl
          exact norm_ (by simp only [putAll, Act.put, List.setIfInBounds_toArray, List.set_cons_zero, List.set_cons_succ]) (hCont g11 _ ⟨hHeld, FS.out⟩)
      · skip
        refine box_step ?hg (N := 11) ?hd (cs := #[.int .u64 0, .int .u64 0]) (t := 63) ?hr ?_; (case hd => rfl); (case hg => rfl); (case hr => first | (go_simp; done) | (go_simp; rfl))
        intro g11 hg wq hbox hb
        have FS := Aside0.mk (Fs.mk (g11 := g11) (FR.out.step hb) hbox (by rw [hg]; exact FR.out.hb.size))
        clear hb hbox hg FR
        refine hK.out _ _ ⟨(blk_cell FS.out.fr.b3 0).trans rfl, (blk_cell FS.out.fr.b3 1).trans rfl⟩ (fun hHeld => ?_)
        clear hK K
        refine norm_ (a' := ?_) ?_ ?_
        rotate_left
        · show Act.put _ (some 11) _ = _
          simp only [Act.put, List.setIfInBounds_toArray, List.set_cons_zero, List.set_cons_succ, i64_w, i32_w]
          rfl
        refine one_ (i := 10) (N := some 50) #[true, true, true, true, true, true, true, true, true, true, true, false, false, false, false, true, false, false] rfl rfl (by kernel_rfl) (by decide) (fun K hK => ?_)
        refine goes_ Tryd.func41 (by kernel_rfl) rfl #[.int .u64 (IntKind.u64.wrap (IntKind.u64.wrap a1 * IntKind.u64.wrap a8)), .int .u64 1000000] (by rfl) rfl rfl (by simp only [List.map_toArray, List.map_cons, List.map_nil]; rfl) ?_
        with_reducible refine (exact_Mul.calls _ _ y1 y2 _ A2.out).mono ?_
        rintro r wq ⟨rfl, hb⟩
        refine ⟨_, rfl, ?_⟩
        replace FS := Aside0.mk (FS.out.step hb)
        clear hb
        refine hK.out _ _ ⟨(blk_cell FS.out.fr.b3 0).trans rfl, (blk_cell FS.out.fr.b3 1).trans rfl⟩ (fun hHeld => ?_)
        clear hK K
        refine norm_ (a' := ?_) ?_ ?_
        rotate_left
        · show Act.put _ (some 50) _ = _
          simp only [Act.put, List.setIfInBounds_toArray, List.set_cons_zero, List.set_cons_succ, i64_w, i32_w]
          rfl
        refine one_ (i := 11) (N := some 51) #[true, true, true, true, true, true, true, true, true, true, true, true, false, false, false, true, false, false] rfl rfl (by kernel_rfl) (by decide) (fun K hK => ?_)
        refine goes_ Tryd.func42 (by kernel_rfl) rfl #[.agg #[.int .u64 x1, .int .u64 x2], .agg #[.int .u64 y1, .int .u64 y2]] (by rfl) rfl rfl (by simp only [List.map_toArray, List.map_cons, List.map_nil]; rfl) ?_
        with_reducible refine (exact_Add.calls x1 x2 y1 y2 s1 s2 0 _ A3.out).mono ?_
        rintro r wq ⟨rfl, hb⟩
        refine ⟨_, rfl, ?_⟩
        replace FS := Aside0.mk (FS.out.step hb)
        clear hb
        refine hK.out _ _ ⟨(blk_cell FS.out.fr.b3 0).trans rfl, (blk_cell FS.out.fr.b3 1).trans rfl⟩ (fun hHeld => ?_)
        clear hK K
        refine norm_ (a' := ?_) ?_ ?_
        rotate_left
        · show Act.put _ (some 51) _ = _
          simp only [Act.put, List.setIfInBounds_toArray, List.set_cons_zero, List.set_cons_succ, i64_w, i32_w]
          rfl
        refine pure_ (i := 12) (N := some 39) (v := ?_) (a' := ?_) #[true, true, true, true, true, true, true, true, true, true, true, true, true, false, false, true, false, false] rfl rfl (by kernel_rfl) (fun _ _ _ h => h) (Or.inl ⟨by rfl, ?_⟩) ?_ ?_
        rotate_left
        · intro w'
          go_simp
          with_reducible rfl
        rotate_left
        · simp only [Act.put, List.setIfInBounds_toArray, List.set_cons_zero, List.set_cons_succ, i64_w, i32_w]
          rfl
        refine pure_ (i := 13) (N := some 52) (v := ?_) (a' := ?_) #[true, true, true, true, true, true, true, true, true, true, true, true, true, true, false, true, false, false] rfl rfl (by kernel_rfl) (fun _ _ _ h => h) (Or.inl ⟨by rfl, ?_⟩) ?_ ?_
        rotate_left
        · intro w'
          go_simp
          with_reducible rfl
        rotate_left
        · simp only [Act.put, List.setIfInBounds_toArray, List.set_cons_zero, List.set_cons_succ, i64_w, i32_w]
          rfl
        refine pure_ (i := 14) (N := some 53) (v := ?_) (a' := ?_) #[true, true, true, true, true, true, true, true, true, true, true, true, true, true, true, true, false, false] rfl rfl (by kernel_rfl) (fun _ _ _ h => h) (Or.inl ⟨by rfl, ?_⟩) ?_ ?_
        rotate_left
        · intro w'
          go_simp
          with_reducible rfl
        rotate_left
        · simp only [Act.put, List.setIfInBounds_toArray, List.set_cons_zero, List.set_cons_succ, i64_w, i32_w]
          rfl
        exact norm_ (by simp only [putAll, Act.put, List.setIfInBounds_toArray, List.set_cons_zero, List.set_cons_succ]) (hCont g11 _ ⟨hHeld, FS.out⟩)
    · skip
      refine box_step ?hg (N := 11) ?hd (cs := #[.int .u64 0, .int .u64 0]) (t := 63) ?hr ?_; (case hd => rfl); (case hg => rfl); (case hr => first | (go_simp; done) | (go_simp; rfl))
      intro g11 hg wq hbox hb
      have FS := Aside0.mk (Fs.mk (g11 := g11) (FR.out.step hb) hbox (by rw [hg]; exact FR.out.hb.size))
      clear hb hbox hg FR
      refine hK.out _ _ ⟨(blk_cell FS.out.fr.b3 0).trans rfl, (blk_cell FS.out.fr.b3 1).trans rfl⟩ (fun hHeld => ?_)
      clear hK K
      refine norm_ (a' := ?_) ?_ ?_
      rotate_left
      · show Act.put _ (some 11) _ = _
        simp only [Act.put, List.setIfInBounds_toArray, List.set_cons_zero, List.set_cons_succ, i64_w, i32_w]
        rfl
      refine one_ (i := 3) (N := some 43) #[true, true, true, true, true, true, true, true, true, true, false, false, false, false, false, true, false, false] rfl rfl (by kernel_rfl) (by decide) (fun K hK => ?_)
      refine goesV_ Tryd.func40 (by kernel_rfl) rfl #[.int .i64 a0] (by rfl) rfl rfl rfl (by simp only [List.map_toArray, List.map_cons, List.map_nil]; rfl) ?_
      refine calls_of_args (args' := #[.int .i64 a0, .pointer (some ⟨g4, 0, none⟩), .pointer (some ⟨g9, 0, none⟩)]) rfl ?_
      with_reducible refine (duty_share.calls a0 a7 P g4 g9 x1 x2 _ FS.out.fr.b4 FS.out.fr.b9 A1.out).mono ?_
      rintro r wq ⟨rfl, hb⟩
      refine ⟨_, rfl, ?_⟩
      replace FS := Aside0.mk (FS.out.step hb)
      clear hb
      refine hK.out _ _ ⟨(blk_cell FS.out.fr.b3 0).trans rfl, (blk_cell FS.out.fr.b3 1).trans rfl⟩ (fun hHeld => ?_)
      clear hK K
      refine norm_ (a' := ?_) ?_ ?_
      rotate_left
      · show Act.put _ (some 43) _ = _
        simp only [Act.put, List.setIfInBounds_toArray, List.set_cons_zero, List.set_cons_succ, i64_w, i32_w]
        rfl
      refine one_ (i := 10) (N := some 50) #[true, true, true, true, true, true, true, true, true, true, true, false, false, false, false, true, false, false] rfl rfl (by kernel_rfl) (by decide) (fun K hK => ?_)
      refine goes_ Tryd.func41 (by kernel_rfl) rfl #[.int .u64 (IntKind.u64.wrap (IntKind.u64.wrap a1 * IntKind.u64.wrap a8)), .int .u64 1000000] (by rfl) rfl rfl (by simp only [List.map_toArray, List.map_cons, List.map_nil]; rfl) ?_
      with_reducible refine (exact_Mul.calls _ _ y1 y2 _ A2.out).mono ?_
      rintro r wq ⟨rfl, hb⟩
      refine ⟨_, rfl, ?_⟩
      replace FS := Aside0.mk (FS.out.step hb)
      clear hb
      refine hK.out _ _ ⟨(blk_cell FS.out.fr.b3 0).trans rfl, (blk_cell FS.out.fr.b3 1).trans rfl⟩ (fun hHeld => ?_)
      clear hK K
      refine norm_ (a' := ?_) ?_ ?_
      rotate_left
      · show Act.put _ (some 50) _ = _
        simp only [Act.put, List.setIfInBounds_toArray, List.set_cons_zero, List.set_cons_succ, i64_w, i32_w]
        rfl
      refine one_ (i := 11) (N := some 51) #[true, true, true, true, true, true, true, true, true, true, true, true, false, false, false, true, false, false] rfl rfl (by kernel_rfl) (by decide) (fun K hK => ?_)
      refine goes_ Tryd.func42 (by kernel_rfl) rfl #[.agg #[.int .u64 x1, .int .u64 x2], .agg #[.int .u64 y1, .int .u64 y2]] (by rfl) rfl rfl (by simp only [List.map_toArray, List.map_cons, List.map_nil]; rfl) ?_
      with_reducible refine (exact_Add.calls x1 x2 y1 y2 s1 s2 0 _ A3.out).mono ?_
      rintro r wq ⟨rfl, hb⟩
      refine ⟨_, rfl, ?_⟩
      replace FS := Aside0.mk (FS.out.step hb)
      clear hb
      refine hK.out _ _ ⟨(blk_cell FS.out.fr.b3 0).trans rfl, (blk_cell FS.out.fr.b3 1).trans rfl⟩ (fun hHeld => ?_)
      clear hK K
      refine norm_ (a' := ?_) ?_ ?_
      rotate_left
      · show Act.put _ (some 51) _ = _
        simp only [Act.put, List.setIfInBounds_toArray, List.set_cons_zero, List.set_cons_succ, i64_w, i32_w]
        rfl
      refine pure_ (i := 12) (N := some 39) (v := ?_) (a' := ?_) #[true, true, true, true, true, true, true, true, true, true, true, true, true, false, false, true, false, false] rfl rfl (by kernel_rfl) (fun _ _ _ h => h) (Or.inl ⟨by rfl, ?_⟩) ?_ ?_
      rotate_left
      · intro w'
        go_simp
        with_reducible rfl
      rotate_left
      · simp only [Act.put, List.setIfInBounds_toArray, List.set_cons_zero, List.set_cons_succ, i64_w, i32_w]
        rfl
      refine pure_ (i := 13) (N := some 52) (v := ?_) (a' := ?_) #[true, true, true, true, true, true, true, true, true, true, true, true, true, true, false, true, false, false] rfl rfl (by kernel_rfl) (fun _ _ _ h => h) (Or.inl ⟨by rfl, ?_⟩) ?_ ?_
      rotate_left
      · intro w'
        go_simp
        with_reducible rfl
      rotate_left
      · simp only [Act.put, List.setIfInBounds_toArray, List.set_cons_zero, List.set_cons_succ, i64_w, i32_w]
        rfl
      refine pure_ (i := 14) (N := some 53) (v := ?_) (a' := ?_) #[true, true, true, true, true, true, true, true, true, true, true, true, true, true, true, true, false, false] rfl rfl (by kernel_rfl) (fun _ _ _ h => h) (Or.inl ⟨by rfl, ?_⟩) ?_ ?_
      rotate_left
      · intro w'
        go_simp
        with_reducible rfl
      rotate_left
      · simp only [Act.put, List.setIfInBounds_toArray, List.set_cons_zero, List.set_cons_succ, i64_w, i32_w]
        rfl
      exact norm_ (by simp only [putAll, Act.put, List.setIfInBounds_toArray, List.set_cons_zero, List.set_cons_succ]) (hCont g11 _ ⟨hHeld, FS.out⟩)
  rintro g11 wj ⟨hS_, hF_⟩
  have FS := Aside0.mk hF_
  clear hF_ FR
  have hHeld : wj.cell? ⟨g3, 0, none⟩ = some (.int .i64 a0) ∧ wj.cell? ⟨g3, 1, none⟩ = some (.int .i64 a1) := hS_
  refine norm_ (a' := ?_) ?_ ?_
  rotate_left
  · simp only [putAll, Act.put, List.setIfInBounds_toArray, List.set_cons_zero, List.set_cons_succ]
    rfl
  refine one_ (i := 16) (N := none) #[true, true, true, true, true, true, true, true, true, true, true, true, true, true, true, true, true, false] rfl rfl (by kernel_rfl) (by decide) (fun K hK => ?_)
  have hs0 : wj.cell? ⟨g11, 0, none⟩ = some (.int .u64 0) := (blk_cell FS.out.b11 0).trans rfl
  have hs1 : wj.cell? ⟨g11, 1, none⟩ = some (.int .u64 0) := (blk_cell FS.out.b11 1).trans rfl
  have hf0 := blk_frozen FS.out.b11 0
  have hf1 := blk_frozen FS.out.b11 1
  refine skip_ (w1 := ?_) (by rfl) rfl ?_ ?_
  rotate_left
  · go_simp
    rfl
  replace FS := Aside0.mk (FS.out.put s1 s2)
  clear hs0 hs1 hf0 hf1
  refine hK.out _ _ ⟨(blk_cell FS.out.fr.b3 0).trans rfl, (blk_cell FS.out.fr.b3 1).trans rfl⟩ (fun hHeld => ?_)
  clear hK K
  refine pure_ (i := 17) (N := some 12) (v := ?_) (a' := ?_) #[true, true, true, true, true, true, true, true, true, true, true, true, true, true, true, true, true, true] rfl rfl (by kernel_rfl) (fun _ _ _ h => h) (Or.inl ⟨by rfl, ?_⟩) ?_ ?_
  rotate_left
  · intro w'
    go_simp
    with_reducible rfl
  rotate_left
  · simp only [Act.put, List.setIfInBounds_toArray, List.set_cons_zero, List.set_cons_succ, i64_w, i32_w]
    rfl
  refine done_ (by kernel_rfl) ?_
  generalize (wj.setCell ⟨g11, 0, none⟩ (.int .u64 s1)).setCell ⟨g11, 1, none⟩ (.int .u64 s2) = w11 at FS hHeld ⊢
  clear hHeld
  go_upto_region 9 with (fail)
  go_cut [64] (fun v wc => ∃ bb : Bool, v = .bool bb ∧ Aside0 (Fs w g3 g4 g9 g11 #[.int .i64 a0, .int .i64 a1, .int .i64 a2, .bool b3, .int .i64 a4, .bool b5, .int .i64 a6] a7 P s1 s2 wc) ∧ Aside0 ((bb = false ∧ t1 = s1 ∧ t2 = s2) ∨ (bb = true ∧ exact_Mul.f (IntKind.u64.wrap (IntKind.u64.wrap a4 * IntKind.u64.wrap a7)) P = some (t1, t2))))
  case first =>
    rcases HM.out with ⟨hbb, et1, et2⟩ | ⟨hbb, m1, m2, c, N1, N2, M3⟩
    · subst hbb
      have ht1 := Aside0.mk et1
      have ht2 := Aside0.mk et2
      clear et1 et2
      refine start_ (n := 11) (S := fun w' => w'.cell? ⟨g3, 3, none⟩ = some (.bool false) ∧ w'.cell? ⟨g3, 4, none⟩ = some (.int .i64 a4) ∧ w'.cell? ⟨g11, 0, none⟩ = some (.int .u64 s1) ∧ w'.cell? ⟨g11, 1, none⟩ = some (.int .u64 s2)) (ds := []) #[false, false, false, false, false, false, false, false, false, false, false] (by kernel_rfl) rfl rfl ⟨(blk_cell FS.out.drew.fr.b3 3).trans rfl, (blk_cell FS.out.drew.fr.b3 4).trans rfl, (blk_cell FS.out.drew.b11 0).trans rfl, (blk_cell FS.out.drew.b11 1).trans rfl⟩ (fun hHeld => ?_)
      replace FS := Aside0.mk FS.out.drew
      refine pure_ (i := 0) (N := some 54) (v := ?_) (a' := ?_) #[true, false, false, false, false, false, false, false, false, false, false] rfl rfl (by kernel_rfl) (fun _ _ _ h => h) (Or.inl ⟨by rfl, ?_⟩) ?_ ?_
      rotate_left
      · intro w'
        go_simp
        with_reducible rfl
      rotate_left
      · simp only [Act.put, List.setIfInBounds_toArray, List.set_cons_zero, List.set_cons_succ, i64_w, i32_w]
        rfl
      refine take_ (i := 1) (N := some 55) (v := ?_) (a' := ?_) #[true, true, false, false, false, false, false, false, false, false, false] rfl rfl (by kernel_rfl) (fun _ _ _ h => h) (Or.inl ⟨by rfl, ?_⟩) hHeld ?_ ?_
      rotate_left
      · rintro w' ⟨s0, s1, s2, s3⟩
        go_simp
        with_reducible rfl
      rotate_left
      · simp only [Act.put, List.setIfInBounds_toArray, List.set_cons_zero, List.set_cons_succ, i64_w, i32_w]
        rfl
      refine pure_ (i := 2) (N := some 56) (v := ?_) (a' := ?_) #[true, true, true, false, false, false, false, false, false, false, false] rfl rfl (by kernel_rfl) (fun _ _ _ h => h) (Or.inl ⟨by rfl, ?_⟩) ?_ ?_
      rotate_left
      · intro w'
        go_simp
        with_reducible rfl
      rotate_left
      · simp only [Act.put, List.setIfInBounds_toArray, List.set_cons_zero, List.set_cons_succ, i64_w, i32_w]
        rfl
      refine pure_ (i := 3) (N := some 57) (v := undef) (a' := ?_) #[true, true, true, true, false, false, false, false, false, false, false] rfl rfl (by kernel_rfl) (fun _ _ _ h => h) (Or.inr ⟨by rfl, rfl⟩) ?_ ?_
      rotate_left
      · simp only [Act.put, List.setIfInBounds_toArray, List.set_cons_zero, List.set_cons_succ, i64_w, i32_w]
        rfl
      refine pure_ (i := 4) (N := some 58) (v := undef) (a' := ?_) #[true, true, true, true, true, false, false, false, false, false, false] rfl rfl (by kernel_rfl) (fun _ _ _ h => h) (Or.inr ⟨by rfl, rfl⟩) ?_ ?_
      rotate_left
      · simp only [Act.put, List.setIfInBounds_toArray, List.set_cons_zero, List.set_cons_succ, i64_w, i32_w]
        rfl
      refine pure_ (i := 5) (N := some 59) (v := undef) (a' := ?_) #[true, true, true, true, true, true, false, false, false, false, false] rfl rfl (by kernel_rfl) (fun _ _ _ h => h) (Or.inr ⟨by rfl, rfl⟩) ?_ ?_
      rotate_left
      · simp only [Act.put, List.setIfInBounds_toArray, List.set_cons_zero, List.set_cons_succ, i64_w, i32_w]
        rfl
      refine pure_ (i := 6) (N := some 60) (v := undef) (a' := ?_) #[true, true, true, true, true, true, true, false, false, false, false] rfl rfl (by kernel_rfl) (fun _ _ _ h => h) (Or.inr ⟨by rfl, rfl⟩) ?_ ?_
      rotate_left
      · simp only [Act.put, List.setIfInBounds_toArray, List.set_cons_zero, List.set_cons_succ, i64_w, i32_w]
        rfl
      refine pure_ (i := 7) (N := some 61) (v := undef) (a' := ?_) #[true, true, true, true, true, true, true, true, false, false, false] rfl rfl (by kernel_rfl) (fun _ _ _ h => h) (Or.inr ⟨by rfl, rfl⟩) ?_ ?_
      rotate_left
      · simp only [Act.put, List.setIfInBounds_toArray, List.set_cons_zero, List.set_cons_succ, i64_w, i32_w]
        rfl
      refine pure_ (i := 8) (N := some 62) (v := undef) (a' := ?_) #[true, true, true, true, true, true, true, true, true, false, false] rfl rfl (by kernel_rfl) (fun _ _ _ h => h) (Or.inr ⟨by rfl, rfl⟩) ?_ ?_
      rotate_left
      · simp only [Act.put, List.setIfInBounds_toArray, List.set_cons_zero, List.set_cons_succ, i64_w, i32_w]
        rfl
      refine pure_ (i := 9) (N := some 63) (v := undef) (a' := ?_) #[true, true, true, true, true, true, true, true, true, true, false] rfl rfl (by kernel_rfl) (fun _ _ _ h => h) (Or.inr ⟨by rfl, rfl⟩) ?_ ?_
      rotate_left
      · simp only [Act.put, List.setIfInBounds_toArray, List.set_cons_zero, List.set_cons_succ, i64_w, i32_w]
        rfl
      refine pure_ (i := 10) (N := some 64) (v := ?_) (a' := ?_) #[true, true, true, true, true, true, true, true, true, true, true] rfl rfl (by kernel_rfl) (fun _ _ _ h => h) (Or.inl ⟨by rfl, ?_⟩) ?_ ?_
      rotate_left
      · intro w'
        go_simp
        with_reducible rfl
      rotate_left
      · simp only [Act.put, List.setIfInBounds_toArray, List.set_cons_zero, List.set_cons_succ, i64_w, i32_w]
        rfl
      refine done_ (by kernel_rfl) ?_
      try go_wp2
      go_meet
      case rel => exact ⟨false, rfl, FS, ⟨Or.inl ⟨rfl, ht1.out, ht2.out⟩⟩⟩
    · subst hbb
      have M1 := Aside0.mk N1
      have M2 := Aside0.mk N2
      clear N1 N2
      rcases M3 with ⟨hsg, hd, et1, et2⟩ | ⟨hsg, hd, et1, et2⟩ | ⟨hsg, hd, et1, et2⟩ | ⟨hsg, hd, et1, et2⟩
      · clear hsg
        have ht1 := Aside0.mk et1
        have ht2 := Aside0.mk et2
        clear et1 et2
        refine start_ (n := 11) (S := fun w' => w'.cell? ⟨g3, 3, none⟩ = some (.bool true) ∧ w'.cell? ⟨g3, 4, none⟩ = some (.int .i64 a4) ∧ w'.cell? ⟨g11, 0, none⟩ = some (.int .u64 s1) ∧ w'.cell? ⟨g11, 1, none⟩ = some (.int .u64 s2)) (ds := []) #[false, false, false, false, false, false, false, false, false, false, false] (by kernel_rfl) rfl rfl ⟨(blk_cell FS.out.drew.fr.b3 3).trans rfl, (blk_cell FS.out.drew.fr.b3 4).trans rfl, (blk_cell FS.out.drew.b11 0).trans rfl, (blk_cell FS.out.drew.b11 1).trans rfl⟩ (fun hHeld => ?_)
        replace FS := Aside0.mk FS.out.drew
        refine pure_ (i := 0) (N := some 54) (v := ?_) (a' := ?_) #[true, false, false, false, false, false, false, false, false, false, false] rfl rfl (by kernel_rfl) (fun _ _ _ h => h) (Or.inl ⟨by rfl, ?_⟩) ?_ ?_
        rotate_left
        · intro w'
          go_simp
          with_reducible rfl
        rotate_left
        · simp only [Act.put, List.setIfInBounds_toArray, List.set_cons_zero, List.set_cons_succ, i64_w, i32_w]
          rfl
        refine take_ (i := 1) (N := some 55) (v := ?_) (a' := ?_) #[true, true, false, false, false, false, false, false, false, false, false] rfl rfl (by kernel_rfl) (fun _ _ _ h => h) (Or.inl ⟨by rfl, ?_⟩) hHeld ?_ ?_
        rotate_left
        · rintro w' ⟨s0, s1, s2, s3⟩
          go_simp
          with_reducible rfl
        rotate_left
        · simp only [Act.put, List.setIfInBounds_toArray, List.set_cons_zero, List.set_cons_succ, i64_w, i32_w]
          rfl
        refine pure_ (i := 2) (N := some 56) (v := ?_) (a' := ?_) #[true, true, true, false, false, false, false, false, false, false, false] rfl rfl (by kernel_rfl) (fun _ _ _ h => h) (Or.inl ⟨by rfl, ?_⟩) ?_ ?_
        rotate_left
        · intro w'
          go_simp
          with_reducible rfl
        rotate_left
        · simp only [Act.put, List.setIfInBounds_toArray, List.set_cons_zero, List.set_cons_succ, i64_w, i32_w]
          rfl
        refine pure_ (i := 4) (N := some 58) (v := ?_) (a' := ?_) #[true, true, true, false, true, false, false, false, false, false, false] rfl rfl (by kernel_rfl) (fun _ _ _ h => h) (Or.inl ⟨by rfl, ?_⟩) ?_ ?_
        rotate_left
        · intro w'
          go_simp
          with_reducible rfl
        rotate_left
        · simp only [Act.put, List.setIfInBounds_toArray, List.set_cons_zero, List.set_cons_succ, i64_w, i32_w]
          rfl
        refine pure_ (i := 5) (N := some 59) (v := ?_) (a' := ?_) #[true, true, true, false, true, true, false, false, false, false, false] rfl rfl (by kernel_rfl) (fun _ _ _ h => h) (Or.inl ⟨by rfl, ?_⟩) ?_ ?_
        rotate_left
        · intro w'
          go_simp
          with_reducible rfl
        rotate_left
        · simp only [Act.put, List.setIfInBounds_toArray, List.set_cons_zero, List.set_cons_succ, i64_w, i32_w]
          rfl
        refine take_ (i := 3) (N := some 57) (v := ?_) (a' := ?_) #[true, true, true, true, true, true, false, false, false, false, false] rfl rfl (by kernel_rfl) (fun _ _ _ h => h) (Or.inl ⟨by rfl, ?_⟩) hHeld ?_ ?_
        rotate_left
        · rintro w' ⟨s0, s1, s2, s3⟩
          go_simp
          with_reducible rfl
        rotate_left
        · simp only [Act.put, List.setIfInBounds_toArray, List.set_cons_zero, List.set_cons_succ, i64_w, i32_w]
          rfl
        refine take_ (i := 6) (N := some 60) (v := ?_) (a' := ?_) #[true, true, true, true, true, true, true, false, false, false, false] rfl rfl (by kernel_rfl) (fun _ _ _ h => h) (Or.inl ⟨by rfl, ?_⟩) hHeld ?_ ?_
        rotate_left
        · rintro w' ⟨s0, s1, s2, s3⟩
          go_simp
          with_reducible rfl
        rotate_left
        · simp only [Act.put, List.setIfInBounds_toArray, List.set_cons_zero, List.set_cons_succ, i64_w, i32_w]
          rfl
        refine one_ (i := 7) (N := some 61) #[true, true, true, true, true, true, true, true, false, false, false] rfl rfl (by kernel_rfl) (by decide) (fun K hK => ?_)
        refine goesV_ Tryd.func40 (by kernel_rfl) rfl #[.int .i64 a4] (by rfl) rfl rfl rfl (by simp only [List.map_toArray, List.map_cons, List.map_nil]; rfl) ?_
        refine calls_of_args (args' := #[.int .i64 a4, .pointer (some ⟨g4, 0, none⟩), .pointer (some ⟨g9, 0, none⟩)]) rfl ?_
        with_reducible refine (duty_share.calls a4 a7 P g4 g9 m1 m2 _ FS.out.fr.b4 FS.out.fr.b9 M1.out).mono ?_
        rintro r wq ⟨rfl, hb⟩
        refine ⟨_, rfl, ?_⟩
        replace FS := Aside0.mk (FS.out.step hb)
        clear hb
        refine hK.out _ _ ⟨(blk_cell FS.out.fr.b3 3).trans rfl, (blk_cell FS.out.fr.b3 4).trans rfl, (blk_cell FS.out.b11 0).trans rfl, (blk_cell FS.out.b11 1).trans rfl⟩ (fun hHeld => ?_)
        clear hK K
        refine norm_ (a' := ?_) ?_ ?_
        rotate_left
        · show Act.put _ (some 61) _ = _
          simp only [Act.put, List.setIfInBounds_toArray, List.set_cons_zero, List.set_cons_succ, i64_w, i32_w]
          rfl
        refine one_ (i := 8) (N := some 62) #[true, true, true, true, true, true, true, true, true, false, false] rfl rfl (by kernel_rfl) (by decide) (fun K hK => ?_)
        refine goes_ Tryd.func43 (by kernel_rfl) rfl #[.agg #[.int .u64 s1, .int .u64 s2], .agg #[.int .u64 m1, .int .u64 m2]] (by rfl) rfl rfl (by simp only [List.map_toArray, List.map_cons, List.map_nil]; rfl) ?_
        with_reducible refine (exact_CompareWide.calls s1 s2 m1 m2 c _ M2.out).mono ?_
        rintro r wq ⟨rfl, hb⟩
        refine ⟨_, rfl, ?_⟩
        replace FS := Aside0.mk (FS.out.step hb)
        clear hb
        refine hK.out _ _ ⟨(blk_cell FS.out.fr.b3 3).trans rfl, (blk_cell FS.out.fr.b3 4).trans rfl, (blk_cell FS.out.b11 0).trans rfl, (blk_cell FS.out.b11 1).trans rfl⟩ (fun hHeld => ?_)
        clear hK K
        refine norm_ (a' := ?_) ?_ ?_
        rotate_left
        · show Act.put _ (some 62) _ = _
          simp only [Act.put, List.setIfInBounds_toArray, List.set_cons_zero, List.set_cons_succ, i64_w, i32_w]
          rfl
        refine pure_ (i := 9) (N := some 63) (v := ?_) (a' := ?_) #[true, true, true, true, true, true, true, true, true, true, false] rfl rfl (by kernel_rfl) (fun _ _ _ h => h) (Or.inl ⟨by rfl, ?_⟩) ?_ ?_
        rotate_left
        · intro w'
          go_simp
          with_reducible rfl
        rotate_left
        · simp only [Act.put, List.setIfInBounds_toArray, List.set_cons_zero, List.set_cons_succ, i64_w, i32_w]
          rfl
        refine pure_ (i := 10) (N := some 64) (v := ?_) (a' := ?_) #[true, true, true, true, true, true, true, true, true, true, true] rfl rfl (by kernel_rfl) (fun _ _ _ h => h) (Or.inl ⟨by rfl, ?_⟩) ?_ ?_
        rotate_left
        · intro w'
          go_simp
          with_reducible rfl
        rotate_left
        · simp only [Act.put, List.setIfInBounds_toArray, List.set_cons_zero, List.set_cons_succ, i64_w, i32_w]
          rfl
        refine done_ (by kernel_rfl) ?_
        try go_wp2
        go_meet
        case rel => exact ⟨true, (by first | rfl | (rw [hd]) | (simp [hd]; done)), FS, ⟨Or.inr ⟨rfl, by rw [ht1.out, ht2.out]; exact M1.out⟩⟩⟩
      · clear hsg
        have ht1 := Aside0.mk et1
        have ht2 := Aside0.mk et2
        clear et1 et2
        refine start_ (n := 11) (S := fun w' => w'.cell? ⟨g3, 3, none⟩ = some (.bool true) ∧ w'.cell? ⟨g3, 4, none⟩ = some (.int .i64 a4) ∧ w'.cell? ⟨g11, 0, none⟩ = some (.int .u64 s1) ∧ w'.cell? ⟨g11, 1, none⟩ = some (.int .u64 s2)) (ds := []) #[false, false, false, false, false, false, false, false, false, false, false] (by kernel_rfl) rfl rfl ⟨(blk_cell FS.out.drew.fr.b3 3).trans rfl, (blk_cell FS.out.drew.fr.b3 4).trans rfl, (blk_cell FS.out.drew.b11 0).trans rfl, (blk_cell FS.out.drew.b11 1).trans rfl⟩ (fun hHeld => ?_)
        replace FS := Aside0.mk FS.out.drew
        refine pure_ (i := 0) (N := some 54) (v := ?_) (a' := ?_) #[true, false, false, false, false, false, false, false, false, false, false] rfl rfl (by kernel_rfl) (fun _ _ _ h => h) (Or.inl ⟨by rfl, ?_⟩) ?_ ?_
        rotate_left
        · intro w'
          go_simp
          with_reducible rfl
        rotate_left
        · simp only [Act.put, List.setIfInBounds_toArray, List.set_cons_zero, List.set_cons_succ, i64_w, i32_w]
          rfl
        refine take_ (i := 1) (N := some 55) (v := ?_) (a' := ?_) #[true, true, false, false, false, false, false, false, false, false, false] rfl rfl (by kernel_rfl) (fun _ _ _ h => h) (Or.inl ⟨by rfl, ?_⟩) hHeld ?_ ?_
        rotate_left
        · rintro w' ⟨s0, s1, s2, s3⟩
          go_simp
          with_reducible rfl
        rotate_left
        · simp only [Act.put, List.setIfInBounds_toArray, List.set_cons_zero, List.set_cons_succ, i64_w, i32_w]
          rfl
        refine pure_ (i := 2) (N := some 56) (v := ?_) (a' := ?_) #[true, true, true, false, false, false, false, false, false, false, false] rfl rfl (by kernel_rfl) (fun _ _ _ h => h) (Or.inl ⟨by rfl, ?_⟩) ?_ ?_
        rotate_left
        · intro w'
          go_simp
          with_reducible rfl
        rotate_left
        · simp only [Act.put, List.setIfInBounds_toArray, List.set_cons_zero, List.set_cons_succ, i64_w, i32_w]
          rfl
        refine pure_ (i := 4) (N := some 58) (v := ?_) (a' := ?_) #[true, true, true, false, true, false, false, false, false, false, false] rfl rfl (by kernel_rfl) (fun _ _ _ h => h) (Or.inl ⟨by rfl, ?_⟩) ?_ ?_
        rotate_left
        · intro w'
          go_simp
          with_reducible rfl
        rotate_left
        · simp only [Act.put, List.setIfInBounds_toArray, List.set_cons_zero, List.set_cons_succ, i64_w, i32_w]
          rfl
        refine pure_ (i := 5) (N := some 59) (v := ?_) (a' := ?_) #[true, true, true, false, true, true, false, false, false, false, false] rfl rfl (by kernel_rfl) (fun _ _ _ h => h) (Or.inl ⟨by rfl, ?_⟩) ?_ ?_
        rotate_left
        · intro w'
          go_simp
          with_reducible rfl
        rotate_left
        · simp only [Act.put, List.setIfInBounds_toArray, List.set_cons_zero, List.set_cons_succ, i64_w, i32_w]
          rfl
        refine take_ (i := 3) (N := some 57) (v := ?_) (a' := ?_) #[true, true, true, true, true, true, false, false, false, false, false] rfl rfl (by kernel_rfl) (fun _ _ _ h => h) (Or.inl ⟨by rfl, ?_⟩) hHeld ?_ ?_
        rotate_left
        · rintro w' ⟨s0, s1, s2, s3⟩
          go_simp
          with_reducible rfl
        rotate_left
        · simp only [Act.put, List.setIfInBounds_toArray, List.set_cons_zero, List.set_cons_succ, i64_w, i32_w]
          rfl
        refine take_ (i := 6) (N := some 60) (v := ?_) (a' := ?_) #[true, true, true, true, true, true, true, false, false, false, false] rfl rfl (by kernel_rfl) (fun _ _ _ h => h) (Or.inl ⟨by rfl, ?_⟩) hHeld ?_ ?_
        rotate_left
        · rintro w' ⟨s0, s1, s2, s3⟩
          go_simp
          with_reducible rfl
        rotate_left
        · simp only [Act.put, List.setIfInBounds_toArray, List.set_cons_zero, List.set_cons_succ, i64_w, i32_w]
          rfl
        refine one_ (i := 7) (N := some 61) #[true, true, true, true, true, true, true, true, false, false, false] rfl rfl (by kernel_rfl) (by decide) (fun K hK => ?_)
        refine goesV_ Tryd.func40 (by kernel_rfl) rfl #[.int .i64 a4] (by rfl) rfl rfl rfl (by simp only [List.map_toArray, List.map_cons, List.map_nil]; rfl) ?_
        refine calls_of_args (args' := #[.int .i64 a4, .pointer (some ⟨g4, 0, none⟩), .pointer (some ⟨g9, 0, none⟩)]) rfl ?_
        with_reducible refine (duty_share.calls a4 a7 P g4 g9 m1 m2 _ FS.out.fr.b4 FS.out.fr.b9 M1.out).mono ?_
        rintro r wq ⟨rfl, hb⟩
        refine ⟨_, rfl, ?_⟩
        replace FS := Aside0.mk (FS.out.step hb)
        clear hb
        refine hK.out _ _ ⟨(blk_cell FS.out.fr.b3 3).trans rfl, (blk_cell FS.out.fr.b3 4).trans rfl, (blk_cell FS.out.b11 0).trans rfl, (blk_cell FS.out.b11 1).trans rfl⟩ (fun hHeld => ?_)
        clear hK K
        refine norm_ (a' := ?_) ?_ ?_
        rotate_left
        · show Act.put _ (some 61) _ = _
          simp only [Act.put, List.setIfInBounds_toArray, List.set_cons_zero, List.set_cons_succ, i64_w, i32_w]
          rfl
        refine one_ (i := 8) (N := some 62) #[true, true, true, true, true, true, true, true, true, false, false] rfl rfl (by kernel_rfl) (by decide) (fun K hK => ?_)
        refine goes_ Tryd.func43 (by kernel_rfl) rfl #[.agg #[.int .u64 s1, .int .u64 s2], .agg #[.int .u64 m1, .int .u64 m2]] (by rfl) rfl rfl (by simp only [List.map_toArray, List.map_cons, List.map_nil]; rfl) ?_
        with_reducible refine (exact_CompareWide.calls s1 s2 m1 m2 c _ M2.out).mono ?_
        rintro r wq ⟨rfl, hb⟩
        refine ⟨_, rfl, ?_⟩
        replace FS := Aside0.mk (FS.out.step hb)
        clear hb
        refine hK.out _ _ ⟨(blk_cell FS.out.fr.b3 3).trans rfl, (blk_cell FS.out.fr.b3 4).trans rfl, (blk_cell FS.out.b11 0).trans rfl, (blk_cell FS.out.b11 1).trans rfl⟩ (fun hHeld => ?_)
        clear hK K
        refine norm_ (a' := ?_) ?_ ?_
        rotate_left
        · show Act.put _ (some 62) _ = _
          simp only [Act.put, List.setIfInBounds_toArray, List.set_cons_zero, List.set_cons_succ, i64_w, i32_w]
          rfl
        refine pure_ (i := 9) (N := some 63) (v := ?_) (a' := ?_) #[true, true, true, true, true, true, true, true, true, true, false] rfl rfl (by kernel_rfl) (fun _ _ _ h => h) (Or.inl ⟨by rfl, ?_⟩) ?_ ?_
        rotate_left
        · intro w'
          go_simp
          with_reducible rfl
        rotate_left
        · simp only [Act.put, List.setIfInBounds_toArray, List.set_cons_zero, List.set_cons_succ, i64_w, i32_w]
          rfl
        refine pure_ (i := 10) (N := some 64) (v := ?_) (a' := ?_) #[true, true, true, true, true, true, true, true, true, true, true] rfl rfl (by kernel_rfl) (fun _ _ _ h => h) (Or.inl ⟨by rfl, ?_⟩) ?_ ?_
        rotate_left
        · intro w'
          go_simp
          with_reducible rfl
        rotate_left
        · simp only [Act.put, List.setIfInBounds_toArray, List.set_cons_zero, List.set_cons_succ, i64_w, i32_w]
          rfl
        refine done_ (by kernel_rfl) ?_
        try go_wp2
        go_meet
        case rel => exact ⟨false, (by first | rfl | (rw [hd]) | (simp [hd]; done)), FS, ⟨Or.inl ⟨rfl, ht1.out, ht2.out⟩⟩⟩
      · cases hsg
      · cases hsg
  case rest =>
    obtain ⟨bb, rfl, FS, HB1⟩ := hcut
    go_upto_if 64 with (fail)
    go_cut [] (fun wc => Aside0 (Fs w g3 g4 g9 g11 #[.int .i64 a0, .int .i64 a1, .int .i64 a2, .bool b3, .int .i64 a4, .bool b5, .int .i64 a6] a7 P t1 t2 wc))
    case first =>
      rcases HB1.out with ⟨hbb, et1, et2⟩ | ⟨hbb, N1⟩
      · subst hbb
        have ht1 := Aside0.mk et1
        have ht2 := Aside0.mk et2
        clear et1 et2
        try go_wp2
        go_meet
        case rel => exact ⟨by rw [ht1.out, ht2.out]; exact FS.out⟩
      · subst hbb
        have M1 := Aside0.mk N1
        clear N1
        have hc0 := blk_cell FS.out.fr.b3 4
        go_wp2_with (first | (go_at_call 40; refine calls_of_args (args' := #[.int .i64 a4, .pointer (some ⟨g4, 0, none⟩), .pointer (some ⟨g9, 0, none⟩)]) rfl ?_; (with_reducible refine (duty_share.calls a4 a7 P g4 g9 t1 t2 _ FS.out.fr.b4 FS.out.fr.b9 M1.out).mono ?_); rintro r wq ⟨rfl, hb⟩; replace FS := Aside0.mk (FS.out.step hb); clear hb hc0; have hs0 := blk_cell FS.out.b11 0; have hs1 := blk_cell FS.out.b11 1; have hf0 := blk_frozen FS.out.b11 0; have hf1 := blk_frozen FS.out.b11 1))
        go_meet
        case rel => exact ⟨FS.out.put t1 t2⟩
    case rest =>
      have FS := hcut
      clear hcut HB1
      go_upto_region 11 with (fail)
      go_cut [79] (fun v wc => ∃ bb : Bool, v = .bool bb ∧ Aside0 (Fs w g3 g4 g9 g11 #[.int .i64 a0, .int .i64 a1, .int .i64 a2, .bool b3, .int .i64 a4, .bool b5, .int .i64 a6] a7 P t1 t2 wc) ∧ Aside0 ((bb = false ∧ u1 = t1 ∧ u2 = t2) ∨ (bb = true ∧ exact_Mul.f (IntKind.u64.wrap (IntKind.u64.wrap a6 * IntKind.u64.wrap a7)) P = some (u1, u2))))
      case first =>
        rcases HL.out with ⟨hbb, et1, et2⟩ | ⟨hbb, m1, m2, c, N1, N2, M3⟩
        · subst hbb
          have ht1 := Aside0.mk et1
          have ht2 := Aside0.mk et2
          clear et1 et2
          refine start_ (n := 11) (S := fun w' => w'.cell? ⟨g3, 5, none⟩ = some (.bool false) ∧ w'.cell? ⟨g3, 6, none⟩ = some (.int .i64 a6) ∧ w'.cell? ⟨g11, 0, none⟩ = some (.int .u64 t1) ∧ w'.cell? ⟨g11, 1, none⟩ = some (.int .u64 t2)) (ds := []) #[false, false, false, false, false, false, false, false, false, false, false] (by kernel_rfl) rfl rfl ⟨(blk_cell FS.out.drew.fr.b3 5).trans rfl, (blk_cell FS.out.drew.fr.b3 6).trans rfl, (blk_cell FS.out.drew.b11 0).trans rfl, (blk_cell FS.out.drew.b11 1).trans rfl⟩ (fun hHeld => ?_)
          replace FS := Aside0.mk FS.out.drew
          refine pure_ (i := 0) (N := some 69) (v := ?_) (a' := ?_) #[true, false, false, false, false, false, false, false, false, false, false] rfl rfl (by kernel_rfl) (fun _ _ _ h => h) (Or.inl ⟨by rfl, ?_⟩) ?_ ?_
          rotate_left
          · intro w'
            go_simp
            with_reducible rfl
          rotate_left
          · simp only [Act.put, List.setIfInBounds_toArray, List.set_cons_zero, List.set_cons_succ, i64_w, i32_w]
            rfl
          refine take_ (i := 1) (N := some 70) (v := ?_) (a' := ?_) #[true, true, false, false, false, false, false, false, false, false, false] rfl rfl (by kernel_rfl) (fun _ _ _ h => h) (Or.inl ⟨by rfl, ?_⟩) hHeld ?_ ?_
          rotate_left
          · rintro w' ⟨s0, s1, s2, s3⟩
            go_simp
            with_reducible rfl
          rotate_left
          · simp only [Act.put, List.setIfInBounds_toArray, List.set_cons_zero, List.set_cons_succ, i64_w, i32_w]
            rfl
          refine pure_ (i := 2) (N := some 71) (v := ?_) (a' := ?_) #[true, true, true, false, false, false, false, false, false, false, false] rfl rfl (by kernel_rfl) (fun _ _ _ h => h) (Or.inl ⟨by rfl, ?_⟩) ?_ ?_
          rotate_left
          · intro w'
            go_simp
            with_reducible rfl
          rotate_left
          · simp only [Act.put, List.setIfInBounds_toArray, List.set_cons_zero, List.set_cons_succ, i64_w, i32_w]
            rfl
          refine pure_ (i := 3) (N := some 72) (v := undef) (a' := ?_) #[true, true, true, true, false, false, false, false, false, false, false] rfl rfl (by kernel_rfl) (fun _ _ _ h => h) (Or.inr ⟨by rfl, rfl⟩) ?_ ?_
          rotate_left
          · simp only [Act.put, List.setIfInBounds_toArray, List.set_cons_zero, List.set_cons_succ, i64_w, i32_w]
            rfl
          refine pure_ (i := 4) (N := some 73) (v := undef) (a' := ?_) #[true, true, true, true, true, false, false, false, false, false, false] rfl rfl (by kernel_rfl) (fun _ _ _ h => h) (Or.inr ⟨by rfl, rfl⟩) ?_ ?_
          rotate_left
          · simp only [Act.put, List.setIfInBounds_toArray, List.set_cons_zero, List.set_cons_succ, i64_w, i32_w]
            rfl
          refine pure_ (i := 5) (N := some 74) (v := undef) (a' := ?_) #[true, true, true, true, true, true, false, false, false, false, false] rfl rfl (by kernel_rfl) (fun _ _ _ h => h) (Or.inr ⟨by rfl, rfl⟩) ?_ ?_
          rotate_left
          · simp only [Act.put, List.setIfInBounds_toArray, List.set_cons_zero, List.set_cons_succ, i64_w, i32_w]
            rfl
          refine pure_ (i := 6) (N := some 75) (v := undef) (a' := ?_) #[true, true, true, true, true, true, true, false, false, false, false] rfl rfl (by kernel_rfl) (fun _ _ _ h => h) (Or.inr ⟨by rfl, rfl⟩) ?_ ?_
          rotate_left
          · simp only [Act.put, List.setIfInBounds_toArray, List.set_cons_zero, List.set_cons_succ, i64_w, i32_w]
            rfl
          refine pure_ (i := 7) (N := some 76) (v := undef) (a' := ?_) #[true, true, true, true, true, true, true, true, false, false, false] rfl rfl (by kernel_rfl) (fun _ _ _ h => h) (Or.inr ⟨by rfl, rfl⟩) ?_ ?_
          rotate_left
          · simp only [Act.put, List.setIfInBounds_toArray, List.set_cons_zero, List.set_cons_succ, i64_w, i32_w]
            rfl
          refine pure_ (i := 8) (N := some 77) (v := undef) (a' := ?_) #[true, true, true, true, true, true, true, true, true, false, false] rfl rfl (by kernel_rfl) (fun _ _ _ h => h) (Or.inr ⟨by rfl, rfl⟩) ?_ ?_
          rotate_left
          · simp only [Act.put, List.setIfInBounds_toArray, List.set_cons_zero, List.set_cons_succ, i64_w, i32_w]
            rfl
          refine pure_ (i := 9) (N := some 78) (v := undef) (a' := ?_) #[true, true, true, true, true, true, true, true, true, true, false] rfl rfl (by kernel_rfl) (fun _ _ _ h => h) (Or.inr ⟨by rfl, rfl⟩) ?_ ?_
          rotate_left
          · simp only [Act.put, List.setIfInBounds_toArray, List.set_cons_zero, List.set_cons_succ, i64_w, i32_w]
            rfl
          refine pure_ (i := 10) (N := some 79) (v := ?_) (a' := ?_) #[true, true, true, true, true, true, true, true, true, true, true] rfl rfl (by kernel_rfl) (fun _ _ _ h => h) (Or.inl ⟨by rfl, ?_⟩) ?_ ?_
          rotate_left
          · intro w'
            go_simp
            with_reducible rfl
          rotate_left
          · simp only [Act.put, List.setIfInBounds_toArray, List.set_cons_zero, List.set_cons_succ, i64_w, i32_w]
            rfl
          refine done_ (by kernel_rfl) ?_
          try go_wp2
          go_meet
          case rel => exact ⟨false, rfl, FS, ⟨Or.inl ⟨rfl, ht1.out, ht2.out⟩⟩⟩
        · subst hbb
          have M1 := Aside0.mk N1
          have M2 := Aside0.mk N2
          clear N1 N2
          rcases M3 with ⟨hsg, hd, et1, et2⟩ | ⟨hsg, hd, et1, et2⟩ | ⟨hsg, hd, et1, et2⟩ | ⟨hsg, hd, et1, et2⟩
          · cases hsg
          · cases hsg
          · clear hsg
            have ht1 := Aside0.mk et1
            have ht2 := Aside0.mk et2
            clear et1 et2
            refine start_ (n := 11) (S := fun w' => w'.cell? ⟨g3, 5, none⟩ = some (.bool true) ∧ w'.cell? ⟨g3, 6, none⟩ = some (.int .i64 a6) ∧ w'.cell? ⟨g11, 0, none⟩ = some (.int .u64 t1) ∧ w'.cell? ⟨g11, 1, none⟩ = some (.int .u64 t2)) (ds := []) #[false, false, false, false, false, false, false, false, false, false, false] (by kernel_rfl) rfl rfl ⟨(blk_cell FS.out.drew.fr.b3 5).trans rfl, (blk_cell FS.out.drew.fr.b3 6).trans rfl, (blk_cell FS.out.drew.b11 0).trans rfl, (blk_cell FS.out.drew.b11 1).trans rfl⟩ (fun hHeld => ?_)
            replace FS := Aside0.mk FS.out.drew
            refine pure_ (i := 0) (N := some 69) (v := ?_) (a' := ?_) #[true, false, false, false, false, false, false, false, false, false, false] rfl rfl (by kernel_rfl) (fun _ _ _ h => h) (Or.inl ⟨by rfl, ?_⟩) ?_ ?_
            rotate_left
            · intro w'
              go_simp
              with_reducible rfl
            rotate_left
            · simp only [Act.put, List.setIfInBounds_toArray, List.set_cons_zero, List.set_cons_succ, i64_w, i32_w]
              rfl
            refine take_ (i := 1) (N := some 70) (v := ?_) (a' := ?_) #[true, true, false, false, false, false, false, false, false, false, false] rfl rfl (by kernel_rfl) (fun _ _ _ h => h) (Or.inl ⟨by rfl, ?_⟩) hHeld ?_ ?_
            rotate_left
            · rintro w' ⟨s0, s1, s2, s3⟩
              go_simp
              with_reducible rfl
            rotate_left
            · simp only [Act.put, List.setIfInBounds_toArray, List.set_cons_zero, List.set_cons_succ, i64_w, i32_w]
              rfl
            refine pure_ (i := 2) (N := some 71) (v := ?_) (a' := ?_) #[true, true, true, false, false, false, false, false, false, false, false] rfl rfl (by kernel_rfl) (fun _ _ _ h => h) (Or.inl ⟨by rfl, ?_⟩) ?_ ?_
            rotate_left
            · intro w'
              go_simp
              with_reducible rfl
            rotate_left
            · simp only [Act.put, List.setIfInBounds_toArray, List.set_cons_zero, List.set_cons_succ, i64_w, i32_w]
              rfl
            refine pure_ (i := 4) (N := some 73) (v := ?_) (a' := ?_) #[true, true, true, false, true, false, false, false, false, false, false] rfl rfl (by kernel_rfl) (fun _ _ _ h => h) (Or.inl ⟨by rfl, ?_⟩) ?_ ?_
            rotate_left
            · intro w'
              go_simp
              with_reducible rfl
            rotate_left
            · simp only [Act.put, List.setIfInBounds_toArray, List.set_cons_zero, List.set_cons_succ, i64_w, i32_w]
              rfl
            refine pure_ (i := 5) (N := some 74) (v := ?_) (a' := ?_) #[true, true, true, false, true, true, false, false, false, false, false] rfl rfl (by kernel_rfl) (fun _ _ _ h => h) (Or.inl ⟨by rfl, ?_⟩) ?_ ?_
            rotate_left
            · intro w'
              go_simp
              with_reducible rfl
            rotate_left
            · simp only [Act.put, List.setIfInBounds_toArray, List.set_cons_zero, List.set_cons_succ, i64_w, i32_w]
              rfl
            refine take_ (i := 3) (N := some 72) (v := ?_) (a' := ?_) #[true, true, true, true, true, true, false, false, false, false, false] rfl rfl (by kernel_rfl) (fun _ _ _ h => h) (Or.inl ⟨by rfl, ?_⟩) hHeld ?_ ?_
            rotate_left
            · rintro w' ⟨s0, s1, s2, s3⟩
              go_simp
              with_reducible rfl
            rotate_left
            · simp only [Act.put, List.setIfInBounds_toArray, List.set_cons_zero, List.set_cons_succ, i64_w, i32_w]
              rfl
            refine take_ (i := 6) (N := some 75) (v := ?_) (a' := ?_) #[true, true, true, true, true, true, true, false, false, false, false] rfl rfl (by kernel_rfl) (fun _ _ _ h => h) (Or.inl ⟨by rfl, ?_⟩) hHeld ?_ ?_
            rotate_left
            · rintro w' ⟨s0, s1, s2, s3⟩
              go_simp
              with_reducible rfl
            rotate_left
            · simp only [Act.put, List.setIfInBounds_toArray, List.set_cons_zero, List.set_cons_succ, i64_w, i32_w]
              rfl
            refine one_ (i := 7) (N := some 76) #[true, true, true, true, true, true, true, true, false, false, false] rfl rfl (by kernel_rfl) (by decide) (fun K hK => ?_)
            refine goesV_ Tryd.func40 (by kernel_rfl) rfl #[.int .i64 a6] (by rfl) rfl rfl rfl (by simp only [List.map_toArray, List.map_cons, List.map_nil]; rfl) ?_
            refine calls_of_args (args' := #[.int .i64 a6, .pointer (some ⟨g4, 0, none⟩), .pointer (some ⟨g9, 0, none⟩)]) rfl ?_
            with_reducible refine (duty_share.calls a6 a7 P g4 g9 m1 m2 _ FS.out.fr.b4 FS.out.fr.b9 M1.out).mono ?_
            rintro r wq ⟨rfl, hb⟩
            refine ⟨_, rfl, ?_⟩
            replace FS := Aside0.mk (FS.out.step hb)
            clear hb
            refine hK.out _ _ ⟨(blk_cell FS.out.fr.b3 5).trans rfl, (blk_cell FS.out.fr.b3 6).trans rfl, (blk_cell FS.out.b11 0).trans rfl, (blk_cell FS.out.b11 1).trans rfl⟩ (fun hHeld => ?_)
            clear hK K
            refine norm_ (a' := ?_) ?_ ?_
            rotate_left
            · show Act.put _ (some 76) _ = _
              simp only [Act.put, List.setIfInBounds_toArray, List.set_cons_zero, List.set_cons_succ, i64_w, i32_w]
              rfl
            refine one_ (i := 8) (N := some 77) #[true, true, true, true, true, true, true, true, true, false, false] rfl rfl (by kernel_rfl) (by decide) (fun K hK => ?_)
            refine goes_ Tryd.func43 (by kernel_rfl) rfl #[.agg #[.int .u64 t1, .int .u64 t2], .agg #[.int .u64 m1, .int .u64 m2]] (by rfl) rfl rfl (by simp only [List.map_toArray, List.map_cons, List.map_nil]; rfl) ?_
            with_reducible refine (exact_CompareWide.calls t1 t2 m1 m2 c _ M2.out).mono ?_
            rintro r wq ⟨rfl, hb⟩
            refine ⟨_, rfl, ?_⟩
            replace FS := Aside0.mk (FS.out.step hb)
            clear hb
            refine hK.out _ _ ⟨(blk_cell FS.out.fr.b3 5).trans rfl, (blk_cell FS.out.fr.b3 6).trans rfl, (blk_cell FS.out.b11 0).trans rfl, (blk_cell FS.out.b11 1).trans rfl⟩ (fun hHeld => ?_)
            clear hK K
            refine norm_ (a' := ?_) ?_ ?_
            rotate_left
            · show Act.put _ (some 77) _ = _
              simp only [Act.put, List.setIfInBounds_toArray, List.set_cons_zero, List.set_cons_succ, i64_w, i32_w]
              rfl
            refine pure_ (i := 9) (N := some 78) (v := ?_) (a' := ?_) #[true, true, true, true, true, true, true, true, true, true, false] rfl rfl (by kernel_rfl) (fun _ _ _ h => h) (Or.inl ⟨by rfl, ?_⟩) ?_ ?_
            rotate_left
            · intro w'
              go_simp
              with_reducible rfl
            rotate_left
            · simp only [Act.put, List.setIfInBounds_toArray, List.set_cons_zero, List.set_cons_succ, i64_w, i32_w]
              rfl
            refine pure_ (i := 10) (N := some 79) (v := ?_) (a' := ?_) #[true, true, true, true, true, true, true, true, true, true, true] rfl rfl (by kernel_rfl) (fun _ _ _ h => h) (Or.inl ⟨by rfl, ?_⟩) ?_ ?_
            rotate_left
            · intro w'
              go_simp
              with_reducible rfl
            rotate_left
            · simp only [Act.put, List.setIfInBounds_toArray, List.set_cons_zero, List.set_cons_succ, i64_w, i32_w]
              rfl
            refine done_ (by kernel_rfl) ?_
            try go_wp2
            go_meet
            case rel => exact ⟨true, (by first | rfl | (rw [hd]) | (simp [hd]; done)), FS, ⟨Or.inr ⟨rfl, by rw [ht1.out, ht2.out]; exact M1.out⟩⟩⟩
          · clear hsg
            have ht1 := Aside0.mk et1
            have ht2 := Aside0.mk et2
            clear et1 et2
            refine start_ (n := 11) (S := fun w' => w'.cell? ⟨g3, 5, none⟩ = some (.bool true) ∧ w'.cell? ⟨g3, 6, none⟩ = some (.int .i64 a6) ∧ w'.cell? ⟨g11, 0, none⟩ = some (.int .u64 t1) ∧ w'.cell? ⟨g11, 1, none⟩ = some (.int .u64 t2)) (ds := []) #[false, false, false, false, false, false, false, false, false, false, false] (by kernel_rfl) rfl rfl ⟨(blk_cell FS.out.drew.fr.b3 5).trans rfl, (blk_cell FS.out.drew.fr.b3 6).trans rfl, (blk_cell FS.out.drew.b11 0).trans rfl, (blk_cell FS.out.drew.b11 1).trans rfl⟩ (fun hHeld => ?_)
            replace FS := Aside0.mk FS.out.drew
            refine pure_ (i := 0) (N := some 69) (v := ?_) (a' := ?_) #[true, false, false, false, false, false, false, false, false, false, false] rfl rfl (by kernel_rfl) (fun _ _ _ h => h) (Or.inl ⟨by rfl, ?_⟩) ?_ ?_
            rotate_left
            · intro w'
              go_simp
              with_reducible rfl
            rotate_left
            · simp only [Act.put, List.setIfInBounds_toArray, List.set_cons_zero, List.set_cons_succ, i64_w, i32_w]
              rfl
            refine take_ (i := 1) (N := some 70) (v := ?_) (a' := ?_) #[true, true, false, false, false, false, false, false, false, false, false] rfl rfl (by kernel_rfl) (fun _ _ _ h => h) (Or.inl ⟨by rfl, ?_⟩) hHeld ?_ ?_
            rotate_left
            · rintro w' ⟨s0, s1, s2, s3⟩
              go_simp
              with_reducible rfl
            rotate_left
            · simp only [Act.put, List.setIfInBounds_toArray, List.set_cons_zero, List.set_cons_succ, i64_w, i32_w]
              rfl
            refine pure_ (i := 2) (N := some 71) (v := ?_) (a' := ?_) #[true, true, true, false, false, false, false, false, false, false, false] rfl rfl (by kernel_rfl) (fun _ _ _ h => h) (Or.inl ⟨by rfl, ?_⟩) ?_ ?_
            rotate_left
            · intro w'
              go_simp
              with_reducible rfl
            rotate_left
            · simp only [Act.put, List.setIfInBounds_toArray, List.set_cons_zero, List.set_cons_succ, i64_w, i32_w]
              rfl
            refine pure_ (i := 4) (N := some 73) (v := ?_) (a' := ?_) #[true, true, true, false, true, false, false, false, false, false, false] rfl rfl (by kernel_rfl) (fun _ _ _ h => h) (Or.inl ⟨by rfl, ?_⟩) ?_ ?_
            rotate_left
            · intro w'
              go_simp
              with_reducible rfl
            rotate_left
            · simp only [Act.put, List.setIfInBounds_toArray, List.set_cons_zero, List.set_cons_succ, i64_w, i32_w]
              rfl
            refine pure_ (i := 5) (N := some 74) (v := ?_) (a' := ?_) #[true, true, true, false, true, true, false, false, false, false, false] rfl rfl (by kernel_rfl) (fun _ _ _ h => h) (Or.inl ⟨by rfl, ?_⟩) ?_ ?_
            rotate_left
            · intro w'
              go_simp
              with_reducible rfl
            rotate_left
            · simp only [Act.put, List.setIfInBounds_toArray, List.set_cons_zero, List.set_cons_succ, i64_w, i32_w]
              rfl
            refine take_ (i := 3) (N := some 72) (v := ?_) (a' := ?_) #[true, true, true, true, true, true, false, false, false, false, false] rfl rfl (by kernel_rfl) (fun _ _ _ h => h) (Or.inl ⟨by rfl, ?_⟩) hHeld ?_ ?_
            rotate_left
            · rintro w' ⟨s0, s1, s2, s3⟩
              go_simp
              with_reducible rfl
            rotate_left
            · simp only [Act.put, List.setIfInBounds_toArray, List.set_cons_zero, List.set_cons_succ, i64_w, i32_w]
              rfl
            refine take_ (i := 6) (N := some 75) (v := ?_) (a' := ?_) #[true, true, true, true, true, true, true, false, false, false, false] rfl rfl (by kernel_rfl) (fun _ _ _ h => h) (Or.inl ⟨by rfl, ?_⟩) hHeld ?_ ?_
            rotate_left
            · rintro w' ⟨s0, s1, s2, s3⟩
              go_simp
              with_reducible rfl
            rotate_left
            · simp only [Act.put, List.setIfInBounds_toArray, List.set_cons_zero, List.set_cons_succ, i64_w, i32_w]
              rfl
            refine one_ (i := 7) (N := some 76) #[true, true, true, true, true, true, true, true, false, false, false] rfl rfl (by kernel_rfl) (by decide) (fun K hK => ?_)
            refine goesV_ Tryd.func40 (by kernel_rfl) rfl #[.int .i64 a6] (by rfl) rfl rfl rfl (by simp only [List.map_toArray, List.map_cons, List.map_nil]; rfl) ?_
            refine calls_of_args (args' := #[.int .i64 a6, .pointer (some ⟨g4, 0, none⟩), .pointer (some ⟨g9, 0, none⟩)]) rfl ?_
            with_reducible refine (duty_share.calls a6 a7 P g4 g9 m1 m2 _ FS.out.fr.b4 FS.out.fr.b9 M1.out).mono ?_
            rintro r wq ⟨rfl, hb⟩
            refine ⟨_, rfl, ?_⟩
            replace FS := Aside0.mk (FS.out.step hb)
            clear hb
            refine hK.out _ _ ⟨(blk_cell FS.out.fr.b3 5).trans rfl, (blk_cell FS.out.fr.b3 6).trans rfl, (blk_cell FS.out.b11 0).trans rfl, (blk_cell FS.out.b11 1).trans rfl⟩ (fun hHeld => ?_)
            clear hK K
            refine norm_ (a' := ?_) ?_ ?_
            rotate_left
            · show Act.put _ (some 76) _ = _
              simp only [Act.put, List.setIfInBounds_toArray, List.set_cons_zero, List.set_cons_succ, i64_w, i32_w]
              rfl
            refine one_ (i := 8) (N := some 77) #[true, true, true, true, true, true, true, true, true, false, false] rfl rfl (by kernel_rfl) (by decide) (fun K hK => ?_)
            refine goes_ Tryd.func43 (by kernel_rfl) rfl #[.agg #[.int .u64 t1, .int .u64 t2], .agg #[.int .u64 m1, .int .u64 m2]] (by rfl) rfl rfl (by simp only [List.map_toArray, List.map_cons, List.map_nil]; rfl) ?_
            with_reducible refine (exact_CompareWide.calls t1 t2 m1 m2 c _ M2.out).mono ?_
            rintro r wq ⟨rfl, hb⟩
            refine ⟨_, rfl, ?_⟩
            replace FS := Aside0.mk (FS.out.step hb)
            clear hb
            refine hK.out _ _ ⟨(blk_cell FS.out.fr.b3 5).trans rfl, (blk_cell FS.out.fr.b3 6).trans rfl, (blk_cell FS.out.b11 0).trans rfl, (blk_cell FS.out.b11 1).trans rfl⟩ (fun hHeld => ?_)
            clear hK K
            refine norm_ (a' := ?_) ?_ ?_
            rotate_left
            · show Act.put _ (some 77) _ = _
              simp only [Act.put, List.setIfInBounds_toArray, List.set_cons_zero, List.set_cons_succ, i64_w, i32_w]
              rfl
            refine pure_ (i := 9) (N := some 78) (v := ?_) (a' := ?_) #[true, true, true, true, true, true, true, true, true, true, false] rfl rfl (by kernel_rfl) (fun _ _ _ h => h) (Or.inl ⟨by rfl, ?_⟩) ?_ ?_
            rotate_left
            · intro w'
              go_simp
              with_reducible rfl
            rotate_left
            · simp only [Act.put, List.setIfInBounds_toArray, List.set_cons_zero, List.set_cons_succ, i64_w, i32_w]
              rfl
            refine pure_ (i := 10) (N := some 79) (v := ?_) (a' := ?_) #[true, true, true, true, true, true, true, true, true, true, true] rfl rfl (by kernel_rfl) (fun _ _ _ h => h) (Or.inl ⟨by rfl, ?_⟩) ?_ ?_
            rotate_left
            · intro w'
              go_simp
              with_reducible rfl
            rotate_left
            · simp only [Act.put, List.setIfInBounds_toArray, List.set_cons_zero, List.set_cons_succ, i64_w, i32_w]
              rfl
            refine done_ (by kernel_rfl) ?_
            try go_wp2
            go_meet
            case rel => exact ⟨false, (by first | rfl | (rw [hd]) | (simp [hd]; done)), FS, ⟨Or.inl ⟨rfl, ht1.out, ht2.out⟩⟩⟩
      case rest =>
        obtain ⟨bb, rfl, FS, HB1⟩ := hcut
        go_upto_if 79 with (fail)
        go_cut [] (fun wc => Aside0 (Fs w g3 g4 g9 g11 #[.int .i64 a0, .int .i64 a1, .int .i64 a2, .bool b3, .int .i64 a4, .bool b5, .int .i64 a6] a7 P u1 u2 wc))
        case first =>
          rcases HB1.out with ⟨hbb, et1, et2⟩ | ⟨hbb, N1⟩
          · subst hbb
            have ht1 := Aside0.mk et1
            have ht2 := Aside0.mk et2
            clear et1 et2
            try go_wp2
            go_meet
            case rel => exact ⟨by rw [ht1.out, ht2.out]; exact FS.out⟩
          · subst hbb
            have M1 := Aside0.mk N1
            clear N1
            have hc0 := blk_cell FS.out.fr.b3 6
            go_wp2_with (first | (go_at_call 40; refine calls_of_args (args' := #[.int .i64 a6, .pointer (some ⟨g4, 0, none⟩), .pointer (some ⟨g9, 0, none⟩)]) rfl ?_; (with_reducible refine (duty_share.calls a6 a7 P g4 g9 u1 u2 _ FS.out.fr.b4 FS.out.fr.b9 M1.out).mono ?_); rintro r wq ⟨rfl, hb⟩; replace FS := Aside0.mk (FS.out.step hb); clear hb hc0; have hs0 := blk_cell FS.out.b11 0; have hs1 := blk_cell FS.out.b11 1; have hf0 := blk_frozen FS.out.b11 0; have hf1 := blk_frozen FS.out.b11 1))
            go_meet
            case rel => exact ⟨FS.out.put u1 u2⟩
        case rest =>
          have FS := hcut
          clear hcut HB1
          have hs0 := blk_cell FS.out.b11 0
          have hs1 := blk_cell FS.out.b11 1
          have hc9 := blk_cell FS.out.fr.b9 0
          have hE : Aside0 (∃ bb : Bool, (e != 0) = bb) := ⟨⟨_, rfl⟩⟩
          by_cases he : e = 0
          · subst he
            by_cases hn : n > 1000000000000
            · have hd : decide (1000000000000 < n) = true := decide_eq_true hn
              have hx := Aside0.mk hn
              clear hn
              go_wp2_with (first | (go_at_call 44; (with_reducible refine (exact_Div.calls K u1 u2 (IntKind.u64.wrap (P * 1000000)) 2 n 0 _ A8.out).mono ?_); rintro r wq ⟨rfl, hb⟩; have HBq := Aside0.mk (below_step FS.out.fr.hb hb); clear hb hs0 hs1 hc9 FS))
              go_ret2
              obtain ⟨hr1, hr2⟩ := hres.out.1 (Or.inr hx.out)
              exact ⟨by rw [hr1, hr2]; rfl, HBq.out⟩
            · have hd : decide (1000000000000 < n) = false := decide_eq_false hn
              have hx := Aside0.mk (show ¬ ((0 : Int) ≠ 0 ∨ n > 1000000000000) by omega)
              clear hn
              go_wp2_with (first | (go_at_call 44; (with_reducible refine (exact_Div.calls K u1 u2 (IntKind.u64.wrap (P * 1000000)) 2 n 0 _ A8.out).mono ?_); rintro r wq ⟨rfl, hb⟩; have HBq := Aside0.mk (below_step FS.out.fr.hb hb); clear hb hs0 hs1 hc9 FS))
              go_ret2
              obtain ⟨hr1, hr2⟩ := hres.out.2 hx.out
              exact ⟨by rw [hr1, hr2]; rfl, HBq.out⟩
          · have hb0 : (e != 0) = true := by simp [he]
            have hb1 : (e == 0) = false := by simp [he]
            have hx := Aside0.mk he
            clear he
            go_wp2_with (first | (go_at_call 44; (with_reducible refine (exact_Div.calls K u1 u2 (IntKind.u64.wrap (P * 1000000)) 2 n e _ A8.out).mono ?_); rintro r wq ⟨rfl, hb⟩; have HBq := Aside0.mk (below_step FS.out.fr.hb hb); clear hb hs0 hs1 hc9 FS))
            go_ret2
            obtain ⟨hr1, hr2⟩ := hres.out.1 (Or.inl hx.out)
            exact ⟨by rw [hr1, hr2]; rfl, HBq.out⟩
end Go.Proofs.YtfpkgdkcllobiaaDoor.F
end
section
namespace Go.Proofs.YtfpkgdkcllobiaaDoor.F
open Go.RowKit Go.Proofs.YtfpkgdkcllobiaaDoorW.PrintWords Go.Proofs.YtfpkgdkcllobiaaDoorW.PrintLast Go.Proofs.YtfpkgdkcllobiaaDoorW.PrintMore
attribute [local go_sem] max2_int min2_int max_two min_two max_three min_three max_four min_four   -- for this text's walks alone
set_option linter.unusedVariables false
set_option linter.unusedSimpArgs false

/-! ### customsref17_in: function 25 -/
def customsref17_in.f (a0 : Int) (a1 : Int) : Option (Bool) := if a0 ≥ 0 then (some (decide (a0 ≤ a1))) else (some false)
set_option maxHeartbeats 8000000 in
set_option maxRecDepth 100000 in
theorem customsref17_in.calls (a0 : Int) (a1 : Int) (r : Bool) (w : World) (h : customsref17_in.f a0 a1 = some r) :
    Calls Tryd.prog 25 #[.int .i64 a0, .int .i64 a1] w fun e w' => e = .returned (.bool r) ∧ Drawn0 w w' := by
  have H : (if a0 ≥ 0 then (some (decide (a0 ≤ a1))) else (some false)) = some r := h
  clear h
  by_cases c3 : a0 ≥ 0
  · rw [if_pos c3] at H
    have c3b0 : decide (0 ≤ a0) = true := decide_eq_true c3
    clear c3
    obtain rfl := Option.some.inj H
    go_enter Tryd.func25, Tryd.ntmps25
    go_wp2
    go_ret
    exact ⟨by first | rfl | (simp; done) | (simp [*]; done), by repeat (first | exact Drawn0.refl _ | apply Drawn0.step)⟩
  · rw [if_neg c3] at H
    have c3b0 : decide (0 ≤ a0) = false := decide_eq_false c3
    clear c3
    obtain rfl := Option.some.inj H
    go_enter Tryd.func25, Tryd.ntmps25
    go_wp2
    go_ret
    exact ⟨by first | rfl | (simp; done) | (simp [*]; done), by repeat (first | exact Drawn0.refl _ | apply Drawn0.step)⟩

end Go.Proofs.YtfpkgdkcllobiaaDoor.F
end
section
namespace Go.Proofs.YtfpkgdkcllobiaaDoor.F
open Go.RowKit Go.Proofs.YtfpkgdkcllobiaaDoorW.PrintWords Go.Proofs.YtfpkgdkcllobiaaDoorW.PrintLast Go.Proofs.YtfpkgdkcllobiaaDoorW.PrintMore
attribute [local go_sem] max2_int min2_int max_two min_two max_three min_three max_four min_four
set_option linter.unusedVariables false
set_option linter.unusedSimpArgs false
/-! ### customsref17_Duty: function 12 -/
def customsref17_Duty.j0 : Nat → Bool → Int → Int → Int → Bool → Int → Bool → Int → Option (Int)
  | 0, _, _, _, _, _, _, _, _ => none
  | k + 1, x49, x149000, x149001, x149002, x149003, x149004, x149005, x149006 => if x49 = true then (some 2) else (if x149004 = 0 then (if x149006 = 0 then (if x149003 = true then (if x149005 = true then (if x149006 > x149004 then (some 1) else (some 0)) else (some 0)) else (some 0)) else (if x149005 = true then (if x149003 = true then (if x149006 > x149004 then (some 1) else (some 0)) else (some 0)) else (some 1))) else (if x149003 = true then (if x149006 = 0 then (if x149005 = true then (if x149006 > x149004 then (some 1) else (some 0)) else (some 0)) else (if x149005 = true then (if x149006 > x149004 then (some 1) else (some 0)) else (some 1))) else (some 1)))
def customsref17_Duty.f (k : Nat) (a0_0 : Int) (a0_1 : Int) (a0_2 : Int) (a0_3 : Bool) (a0_4 : Int) (a0_5 : Bool) (a0_6 : Int) : Option (Int) := (customsref17_in.f a0_0 10000000).bind fun t149 => (if t149 = true then ((customsref17_in.f a0_1 100000000).bind fun t150 => (if t150 = true then (if a0_1 > 0 then (if a0_2 < 1 then (customsref17_Duty.j0 k true a0_0 a0_1 a0_2 a0_3 a0_4 a0_5 a0_6) else (if a0_2 > 1000000 then (customsref17_Duty.j0 k true a0_0 a0_1 a0_2 a0_3 a0_4 a0_5 a0_6) else (if a0_1 = 0 then (if a0_2 = 0 then ((customsref17_in.f a0_4 10000000).bind fun t151 => (if t151 = true then ((customsref17_in.f a0_6 10000000).bind fun t152 => (customsref17_Duty.j0 k (!t152) a0_0 a0_1 a0_2 a0_3 a0_4 a0_5 a0_6)) else (customsref17_Duty.j0 k true a0_0 a0_1 a0_2 a0_3 a0_4 a0_5 a0_6))) else (customsref17_Duty.j0 k true a0_0 a0_1 a0_2 a0_3 a0_4 a0_5 a0_6)) else ((customsref17_in.f a0_4 10000000).bind fun t153 => (if t153 = true then ((customsref17_in.f a0_6 10000000).bind fun t154 => (customsref17_Duty.j0 k (!t154) a0_0 a0_1 a0_2 a0_3 a0_4 a0_5 a0_6)) else (customsref17_Duty.j0 k true a0_0 a0_1 a0_2 a0_3 a0_4 a0_5 a0_6)))))) else (if a0_1 = 0 then (if a0_2 = 0 then ((customsref17_in.f a0_4 10000000).bind fun t155 => (if t155 = true then ((customsref17_in.f a0_6 10000000).bind fun t156 => (customsref17_Duty.j0 k (!t156) a0_0 a0_1 a0_2 a0_3 a0_4 a0_5 a0_6)) else (customsref17_Duty.j0 k true a0_0 a0_1 a0_2 a0_3 a0_4 a0_5 a0_6))) else (customsref17_Duty.j0 k true a0_0 a0_1 a0_2 a0_3 a0_4 a0_5 a0_6)) else ((customsref17_in.f a0_4 10000000).bind fun t157 => (if t157 = true then ((customsref17_in.f a0_6 10000000).bind fun t158 => (customsref17_Duty.j0 k (!t158) a0_0 a0_1 a0_2 a0_3 a0_4 a0_5 a0_6)) else (customsref17_Duty.j0 k true a0_0 a0_1 a0_2 a0_3 a0_4 a0_5 a0_6))))) else (customsref17_Duty.j0 k true a0_0 a0_1 a0_2 a0_3 a0_4 a0_5 a0_6))) else (customsref17_Duty.j0 k true a0_0 a0_1 a0_2 a0_3 a0_4 a0_5 a0_6))
theorem customsref17_Duty.mono_l : ∀ k, (∀ y0 y1 y2 y3 y4 y5 y6 y7, LeO (customsref17_Duty.j0 k y0 y1 y2 y3 y4 y5 y6 y7) (customsref17_Duty.j0 (k + 1) y0 y1 y2 y3 y4 y5 y6 y7))
  | 0 => fun _ _ _ _ _ _ _ _ r h => by simp [customsref17_Duty.j0] at h
  | k + 1 => by
    have ih0 := customsref17_Duty.mono_l k
    · intro y0 y1 y2 y3 y4 y5 y6 y7
      unfold customsref17_Duty.j0
      repeat' first
      | (with_reducible exact ih0 _ _ _ _ _ _ _ _)
      | (with_reducible exact LeO.refl _)
      | (with_reducible exact LeO.none _)
      | (with_reducible refine LeO.ite ?_ ?_)
      | (with_reducible refine LeO.bind ?_ (fun _ => ?_))
      | exact ih0 _ _ _ _ _ _ _ _
      | exact LeO.none _
      | refine LeO.ite ?_ ?_
      | refine LeO.bind ?_ (fun _ => ?_)
theorem customsref17_Duty.mono : ∀ a0 a1 a2 a3 a4 a5 a6 k, LeO (customsref17_Duty.f k a0 a1 a2 a3 a4 a5 a6) (customsref17_Duty.f (k + 1) a0 a1 a2 a3 a4 a5 a6) := by
  intro a0 a1 a2 a3 a4 a5 a6 k; (have ih0 := customsref17_Duty.mono_l k); (unfold customsref17_Duty.f)
  repeat' first
      | (with_reducible exact ih0 _ _ _ _ _ _ _ _)
      | (with_reducible exact LeO.refl _)
      | (with_reducible exact LeO.none _)
      | (with_reducible refine LeO.ite ?_ ?_)
      | (with_reducible refine LeO.bind ?_ (fun _ => ?_))
      | exact ih0 _ _ _ _ _ _ _ _
      | exact LeO.none _
      | refine LeO.ite ?_ ?_
      | refine LeO.bind ?_ (fun _ => ?_)
set_option maxHeartbeats 8000000 in
set_option maxRecDepth 100000 in
theorem customsref17_Duty.calls (k : Nat) (a0_0 : Int) (a0_1 : Int) (a0_2 : Int) (a0_3 : Bool) (a0_4 : Int) (a0_5 : Bool) (a0_6 : Int) (r : Int) (w : World) (h : customsref17_Duty.f k a0_0 a0_1 a0_2 a0_3 a0_4 a0_5 a0_6 = some r) :
    Calls Tryd.prog 12 #[.agg #[.int .i64 a0_0, .int .i64 a0_1, .int .i64 a0_2, .bool a0_3, .int .i64 a0_4, .bool a0_5, .int .i64 a0_6]] w fun e w' => e = .returned (.int .i64 r) ∧ Below w.heap.size w w' := by
  have hu23 := Tryd.underlying23; (have HB := Aside0.mk (Below.refl w.heap.size w)); (have H : ((customsref17_in.f a0_0 10000000).bind fun t149 => (if t149 = true then ((customsref17_in.f a0_1 100000000).bind fun t150 => (if t150 = true then (if a0_1 > 0 then (if a0_2 < 1 then (customsref17_Duty.j0 k true a0_0 a0_1 a0_2 a0_3 a0_4 a0_5 a0_6) else (if a0_2 > 1000000 then (customsref17_Duty.j0 k true a0_0 a0_1 a0_2 a0_3 a0_4 a0_5 a0_6) else (if a0_1 = 0 then (if a0_2 = 0 then ((customsref17_in.f a0_4 10000000).bind fun t151 => (if t151 = true then ((customsref17_in.f a0_6 10000000).bind fun t152 => (customsref17_Duty.j0 k (!t152) a0_0 a0_1 a0_2 a0_3 a0_4 a0_5 a0_6)) else (customsref17_Duty.j0 k true a0_0 a0_1 a0_2 a0_3 a0_4 a0_5 a0_6))) else (customsref17_Duty.j0 k true a0_0 a0_1 a0_2 a0_3 a0_4 a0_5 a0_6)) else ((customsref17_in.f a0_4 10000000).bind fun t153 => (if t153 = true then ((customsref17_in.f a0_6 10000000).bind fun t154 => (customsref17_Duty.j0 k (!t154) a0_0 a0_1 a0_2 a0_3 a0_4 a0_5 a0_6)) else (customsref17_Duty.j0 k true a0_0 a0_1 a0_2 a0_3 a0_4 a0_5 a0_6)))))) else (if a0_1 = 0 then (if a0_2 = 0 then ((customsref17_in.f a0_4 10000000).bind fun t155 => (if t155 = true then ((customsref17_in.f a0_6 10000000).bind fun t156 => (customsref17_Duty.j0 k (!t156) a0_0 a0_1 a0_2 a0_3 a0_4 a0_5 a0_6)) else (customsref17_Duty.j0 k true a0_0 a0_1 a0_2 a0_3 a0_4 a0_5 a0_6))) else (customsref17_Duty.j0 k true a0_0 a0_1 a0_2 a0_3 a0_4 a0_5 a0_6)) else ((customsref17_in.f a0_4 10000000).bind fun t157 => (if t157 = true then ((customsref17_in.f a0_6 10000000).bind fun t158 => (customsref17_Duty.j0 k (!t158) a0_0 a0_1 a0_2 a0_3 a0_4 a0_5 a0_6)) else (customsref17_Duty.j0 k true a0_0 a0_1 a0_2 a0_3 a0_4 a0_5 a0_6))))) else (customsref17_Duty.j0 k true a0_0 a0_1 a0_2 a0_3 a0_4 a0_5 a0_6))) else (customsref17_Duty.j0 k true a0_0 a0_1 a0_2 a0_3 a0_4 a0_5 a0_6))) = some r := h); clear h; have HC2 := Aside0.mk H; clear H; (go_enter Tryd.func12, Tryd.ntmps12); (go_upto_region 1 with (first | ((with_reducible refine gate_dst (N := 1) rfl ?_); refine box_event ?hg (N := 1) ?hd (cs := #[.int .i64 a0_0, .int .i64 a0_1, .int .i64 a0_2, .bool a0_3, .int .i64 a0_4, .bool a0_5, .int .i64 a0_6]) (t := 23) ?hr ?_; (case hd => rfl); (case hg => rfl); (case hr => first | (go_simp; done) | (go_simp; rfl)); intro gb148 hg w3 hbox hb; have n0_ := Aside0.mk (below_step HB.out hb); have n1_ := Aside0.mk (hbox); have n2_ := Aside0.mk ((by rw [hg]; exact (below_size HB.out) : w.heap.size ≤ gb148)); have n3_ := Aside0.mk ((by rw [hg]; exact (below_size HB.out) : w.heap.size ≤ gb148)); clear HB; have HB := n0_; have BK148 := n1_; have GW148 := n2_; have GE148 := n3_; clear n0_ n1_ n2_ n3_; clear hb hbox hg))); (try simp only [Act.put, List.setIfInBounds_toArray, List.set_cons_zero, List.set_cons_succ]); (go_cut [49] (fun v49 wc => ∃ (kq : Nat) (x49_1 : Bool), v49 = .bool x49_1 ∧ Aside0 (customsref17_Duty.j0 kq x49_1 a0_0 a0_1 a0_2 a0_3 a0_4 a0_5 a0_6 = some r) ∧ Aside0 (kq ≤ k) ∧ Aside0 (wc.heap[gb148]? = some (.cells #[.int .i64 a0_0, .int .i64 a0_1, .int .i64 a0_2, .bool a0_3, .int .i64 a0_4, .bool a0_5, .int .i64 a0_6] 23 (0, 0))) ∧ Aside0 (Below w.heap.size w wc)))
  case first =>
    have H := HC2.out; clear HC2; (replace H := Option.bind_eq_some_iff.mp H); (obtain ⟨t149, A40, H⟩ := H); (replace H : (if t149 = true then ((customsref17_in.f a0_1 100000000).bind fun t150 => (if t150 = true then (if a0_1 > 0 then (if a0_2 < 1 then (customsref17_Duty.j0 k true a0_0 a0_1 a0_2 a0_3 a0_4 a0_5 a0_6) else (if a0_2 > 1000000 then (customsref17_Duty.j0 k true a0_0 a0_1 a0_2 a0_3 a0_4 a0_5 a0_6) else (if a0_1 = 0 then (if a0_2 = 0 then ((customsref17_in.f a0_4 10000000).bind fun t151 => (if t151 = true then ((customsref17_in.f a0_6 10000000).bind fun t152 => (customsref17_Duty.j0 k (!t152) a0_0 a0_1 a0_2 a0_3 a0_4 a0_5 a0_6)) else (customsref17_Duty.j0 k true a0_0 a0_1 a0_2 a0_3 a0_4 a0_5 a0_6))) else (customsref17_Duty.j0 k true a0_0 a0_1 a0_2 a0_3 a0_4 a0_5 a0_6)) else ((customsref17_in.f a0_4 10000000).bind fun t153 => (if t153 = true then ((customsref17_in.f a0_6 10000000).bind fun t154 => (customsref17_Duty.j0 k (!t154) a0_0 a0_1 a0_2 a0_3 a0_4 a0_5 a0_6)) else (customsref17_Duty.j0 k true a0_0 a0_1 a0_2 a0_3 a0_4 a0_5 a0_6)))))) else (if a0_1 = 0 then (if a0_2 = 0 then ((customsref17_in.f a0_4 10000000).bind fun t155 => (if t155 = true then ((customsref17_in.f a0_6 10000000).bind fun t156 => (customsref17_Duty.j0 k (!t156) a0_0 a0_1 a0_2 a0_3 a0_4 a0_5 a0_6)) else (customsref17_Duty.j0 k true a0_0 a0_1 a0_2 a0_3 a0_4 a0_5 a0_6))) else (customsref17_Duty.j0 k true a0_0 a0_1 a0_2 a0_3 a0_4 a0_5 a0_6)) else ((customsref17_in.f a0_4 10000000).bind fun t157 => (if t157 = true then ((customsref17_in.f a0_6 10000000).bind fun t158 => (customsref17_Duty.j0 k (!t158) a0_0 a0_1 a0_2 a0_3 a0_4 a0_5 a0_6)) else (customsref17_Duty.j0 k true a0_0 a0_1 a0_2 a0_3 a0_4 a0_5 a0_6))))) else (customsref17_Duty.j0 k true a0_0 a0_1 a0_2 a0_3 a0_4 a0_5 a0_6))) else (customsref17_Duty.j0 k true a0_0 a0_1 a0_2 a0_3 a0_4 a0_5 a0_6)) = some r := H); have A4 := Aside0.mk A40; clear A40; (by_cases c5 : t149 = true)
    · subst c5; (have H1 : ((customsref17_in.f a0_1 100000000).bind fun t150 => (if t150 = true then (if a0_1 > 0 then (if a0_2 < 1 then (customsref17_Duty.j0 k true a0_0 a0_1 a0_2 a0_3 a0_4 a0_5 a0_6) else (if a0_2 > 1000000 then (customsref17_Duty.j0 k true a0_0 a0_1 a0_2 a0_3 a0_4 a0_5 a0_6) else (if a0_1 = 0 then (if a0_2 = 0 then ((customsref17_in.f a0_4 10000000).bind fun t151 => (if t151 = true then ((customsref17_in.f a0_6 10000000).bind fun t152 => (customsref17_Duty.j0 k (!t152) a0_0 a0_1 a0_2 a0_3 a0_4 a0_5 a0_6)) else (customsref17_Duty.j0 k true a0_0 a0_1 a0_2 a0_3 a0_4 a0_5 a0_6))) else (customsref17_Duty.j0 k true a0_0 a0_1 a0_2 a0_3 a0_4 a0_5 a0_6)) else ((customsref17_in.f a0_4 10000000).bind fun t153 => (if t153 = true then ((customsref17_in.f a0_6 10000000).bind fun t154 => (customsref17_Duty.j0 k (!t154) a0_0 a0_1 a0_2 a0_3 a0_4 a0_5 a0_6)) else (customsref17_Duty.j0 k true a0_0 a0_1 a0_2 a0_3 a0_4 a0_5 a0_6)))))) else (if a0_1 = 0 then (if a0_2 = 0 then ((customsref17_in.f a0_4 10000000).bind fun t155 => (if t155 = true then ((customsref17_in.f a0_6 10000000).bind fun t156 => (customsref17_Duty.j0 k (!t156) a0_0 a0_1 a0_2 a0_3 a0_4 a0_5 a0_6)) else (customsref17_Duty.j0 k true a0_0 a0_1 a0_2 a0_3 a0_4 a0_5 a0_6))) else (customsref17_Duty.j0 k true a0_0 a0_1 a0_2 a0_3 a0_4 a0_5 a0_6)) else ((customsref17_in.f a0_4 10000000).bind fun t157 => (if t157 = true then ((customsref17_in.f a0_6 10000000).bind fun t158 => (customsref17_Duty.j0 k (!t158) a0_0 a0_1 a0_2 a0_3 a0_4 a0_5 a0_6)) else (customsref17_Duty.j0 k true a0_0 a0_1 a0_2 a0_3 a0_4 a0_5 a0_6))))) else (customsref17_Duty.j0 k true a0_0 a0_1 a0_2 a0_3 a0_4 a0_5 a0_6))) = some r := by rw [if_pos rfl] at H; exact H); clear H; have H := H1; clear H1; (replace H := Option.bind_eq_some_iff.mp H); (obtain ⟨t150, A60, H⟩ := H); (replace H : (if t150 = true then (if a0_1 > 0 then (if a0_2 < 1 then (customsref17_Duty.j0 k true a0_0 a0_1 a0_2 a0_3 a0_4 a0_5 a0_6) else (if a0_2 > 1000000 then (customsref17_Duty.j0 k true a0_0 a0_1 a0_2 a0_3 a0_4 a0_5 a0_6) else (if a0_1 = 0 then (if a0_2 = 0 then ((customsref17_in.f a0_4 10000000).bind fun t151 => (if t151 = true then ((customsref17_in.f a0_6 10000000).bind fun t152 => (customsref17_Duty.j0 k (!t152) a0_0 a0_1 a0_2 a0_3 a0_4 a0_5 a0_6)) else (customsref17_Duty.j0 k true a0_0 a0_1 a0_2 a0_3 a0_4 a0_5 a0_6))) else (customsref17_Duty.j0 k true a0_0 a0_1 a0_2 a0_3 a0_4 a0_5 a0_6)) else ((customsref17_in.f a0_4 10000000).bind fun t153 => (if t153 = true then ((customsref17_in.f a0_6 10000000).bind fun t154 => (customsref17_Duty.j0 k (!t154) a0_0 a0_1 a0_2 a0_3 a0_4 a0_5 a0_6)) else (customsref17_Duty.j0 k true a0_0 a0_1 a0_2 a0_3 a0_4 a0_5 a0_6)))))) else (if a0_1 = 0 then (if a0_2 = 0 then ((customsref17_in.f a0_4 10000000).bind fun t155 => (if t155 = true then ((customsref17_in.f a0_6 10000000).bind fun t156 => (customsref17_Duty.j0 k (!t156) a0_0 a0_1 a0_2 a0_3 a0_4 a0_5 a0_6)) else (customsref17_Duty.j0 k true a0_0 a0_1 a0_2 a0_3 a0_4 a0_5 a0_6))) else (customsref17_Duty.j0 k true a0_0 a0_1 a0_2 a0_3 a0_4 a0_5 a0_6)) else ((customsref17_in.f a0_4 10000000).bind fun t157 => (if t157 = true then ((customsref17_in.f a0_6 10000000).bind fun t158 => (customsref17_Duty.j0 k (!t158) a0_0 a0_1 a0_2 a0_3 a0_4 a0_5 a0_6)) else (customsref17_Duty.j0 k true a0_0 a0_1 a0_2 a0_3 a0_4 a0_5 a0_6))))) else (customsref17_Duty.j0 k true a0_0 a0_1 a0_2 a0_3 a0_4 a0_5 a0_6)) = some r := H); have A6 := Aside0.mk A60; clear A60; (by_cases c7 : t150 = true)
      · subst c7; (have H1 : (if a0_1 > 0 then (if a0_2 < 1 then (customsref17_Duty.j0 k true a0_0 a0_1 a0_2 a0_3 a0_4 a0_5 a0_6) else (if a0_2 > 1000000 then (customsref17_Duty.j0 k true a0_0 a0_1 a0_2 a0_3 a0_4 a0_5 a0_6) else (if a0_1 = 0 then (if a0_2 = 0 then ((customsref17_in.f a0_4 10000000).bind fun t151 => (if t151 = true then ((customsref17_in.f a0_6 10000000).bind fun t152 => (customsref17_Duty.j0 k (!t152) a0_0 a0_1 a0_2 a0_3 a0_4 a0_5 a0_6)) else (customsref17_Duty.j0 k true a0_0 a0_1 a0_2 a0_3 a0_4 a0_5 a0_6))) else (customsref17_Duty.j0 k true a0_0 a0_1 a0_2 a0_3 a0_4 a0_5 a0_6)) else ((customsref17_in.f a0_4 10000000).bind fun t153 => (if t153 = true then ((customsref17_in.f a0_6 10000000).bind fun t154 => (customsref17_Duty.j0 k (!t154) a0_0 a0_1 a0_2 a0_3 a0_4 a0_5 a0_6)) else (customsref17_Duty.j0 k true a0_0 a0_1 a0_2 a0_3 a0_4 a0_5 a0_6)))))) else (if a0_1 = 0 then (if a0_2 = 0 then ((customsref17_in.f a0_4 10000000).bind fun t155 => (if t155 = true then ((customsref17_in.f a0_6 10000000).bind fun t156 => (customsref17_Duty.j0 k (!t156) a0_0 a0_1 a0_2 a0_3 a0_4 a0_5 a0_6)) else (customsref17_Duty.j0 k true a0_0 a0_1 a0_2 a0_3 a0_4 a0_5 a0_6))) else (customsref17_Duty.j0 k true a0_0 a0_1 a0_2 a0_3 a0_4 a0_5 a0_6)) else ((customsref17_in.f a0_4 10000000).bind fun t157 => (if t157 = true then ((customsref17_in.f a0_6 10000000).bind fun t158 => (customsref17_Duty.j0 k (!t158) a0_0 a0_1 a0_2 a0_3 a0_4 a0_5 a0_6)) else (customsref17_Duty.j0 k true a0_0 a0_1 a0_2 a0_3 a0_4 a0_5 a0_6))))) = some r := by rw [if_pos rfl] at H; exact H); clear H; have H := H1; clear H1; (by_cases c8 : a0_1 > 0)
        · (rw [if_pos c8] at H); (have c8b0 : decide (0 < a0_1) = true := decide_eq_true c8); clear c8; (first | rw [c8b0] | (simp only [i64_w, i32_w]; rw [c8b0]) | skip); (by_cases c9 : a0_2 < 1)
          · (rw [if_pos c9] at H); (have c9b0 : decide (a0_2 < 1) = true := decide_eq_true c9); clear c9; have H' := Aside0.mk H; clear H; (have hcz10_0 : w3.cell? ⟨gb148, 0, none⟩ = some (.int .i64 a0_0) := (blk_cell BK148.out 0).trans rfl); (have hcz10_1 : w3.cell? ⟨gb148, 1, none⟩ = some (.int .i64 a0_1) := (blk_cell BK148.out 1).trans rfl); (have hcz10_2 : w3.cell? ⟨gb148, 2, none⟩ = some (.int .i64 a0_2) := (blk_cell BK148.out 2).trans rfl); (have hcz10_3 : w3.cell? ⟨gb148, 3, none⟩ = some (.bool a0_3) := (blk_cell BK148.out 3).trans rfl); (have hcz10_4 : w3.cell? ⟨gb148, 4, none⟩ = some (.int .i64 a0_4) := (blk_cell BK148.out 4).trans rfl); (have hcz10_5 : w3.cell? ⟨gb148, 5, none⟩ = some (.bool a0_5) := (blk_cell BK148.out 5).trans rfl); (have hcz10_6 : w3.cell? ⟨gb148, 6, none⟩ = some (.int .i64 a0_6) := (blk_cell BK148.out 6).trans rfl); (have hfz10_0 := blk_frozen BK148.out 0); (have hfz10_1 := blk_frozen BK148.out 1); (have hfz10_2 := blk_frozen BK148.out 2); (have hfz10_3 := blk_frozen BK148.out 3); (have hfz10_4 := blk_frozen BK148.out 4); (have hfz10_5 := blk_frozen BK148.out 5); (have hfz10_6 := blk_frozen BK148.out 6); (go_wp2_with (first | ((with_reducible refine gate_callee (f := 25) rfl ?_); refine goesL_ (some 5) rfl rfl Tryd.func25 (by kernel_rfl) rfl #[.int .i64 a0_0, .int .i64 10000000] rfl (by (try simp only [List.map_toArray, List.map_cons, List.map_nil]); first | done | rfl | (simp only [List.length_drop, List.length_take]; rfl)) ?_; (with_reducible refine (customsref17_in.calls a0_0 10000000 true _ A4.out).mono ?_); rintro e w' ⟨rfl, ⟨nd, rfl⟩⟩; refine ⟨_, rfl, ?_⟩) | (go_at_call 25; (with_reducible refine (customsref17_in.calls a0_1 100000000 true _ A6.out).mono ?_); rintro e w' ⟨rfl, ⟨nd, rfl⟩⟩))); (go_meet); (case rel => exact ⟨_, (true), (by first | rfl | (simp; done) | (simp [*]; done)), H', ⟨by first | omega | exact Nat.le_refl _⟩, ⟨by (with_reducible repeat (first | refine blk_drewN ?_ _ | refine blk_drew ?_ | refine blk_alloc ?_ _)); exact BK148.out⟩, ⟨by repeat (first | (with_reducible first | exact HB.out | apply below_alloc | apply pw_below_drewN | apply below_drew1 | refine below_set ?_ GE148.out) | exact HB.out)⟩⟩)
          · (rw [if_neg c9] at H); (have c9b0 : decide (a0_2 < 1) = false := decide_eq_false c9); clear c9; (by_cases c11 : a0_2 > 1000000)
            · (rw [if_pos c11] at H); (have c11b0 : decide (1000000 < a0_2) = true := decide_eq_true c11); clear c11; have H' := Aside0.mk H; clear H; (have hcz12_0 : w3.cell? ⟨gb148, 0, none⟩ = some (.int .i64 a0_0) := (blk_cell BK148.out 0).trans rfl); (have hcz12_1 : w3.cell? ⟨gb148, 1, none⟩ = some (.int .i64 a0_1) := (blk_cell BK148.out 1).trans rfl); (have hcz12_2 : w3.cell? ⟨gb148, 2, none⟩ = some (.int .i64 a0_2) := (blk_cell BK148.out 2).trans rfl); (have hcz12_3 : w3.cell? ⟨gb148, 3, none⟩ = some (.bool a0_3) := (blk_cell BK148.out 3).trans rfl); (have hcz12_4 : w3.cell? ⟨gb148, 4, none⟩ = some (.int .i64 a0_4) := (blk_cell BK148.out 4).trans rfl); (have hcz12_5 : w3.cell? ⟨gb148, 5, none⟩ = some (.bool a0_5) := (blk_cell BK148.out 5).trans rfl); (have hcz12_6 : w3.cell? ⟨gb148, 6, none⟩ = some (.int .i64 a0_6) := (blk_cell BK148.out 6).trans rfl); (have hfz12_0 := blk_frozen BK148.out 0); (have hfz12_1 := blk_frozen BK148.out 1); (have hfz12_2 := blk_frozen BK148.out 2); (have hfz12_3 := blk_frozen BK148.out 3); (have hfz12_4 := blk_frozen BK148.out 4); (have hfz12_5 := blk_frozen BK148.out 5); (have hfz12_6 := blk_frozen BK148.out 6); (go_wp2_with (first | ((with_reducible refine gate_callee (f := 25) rfl ?_); refine goesL_ (some 5) rfl rfl Tryd.func25 (by kernel_rfl) rfl #[.int .i64 a0_0, .int .i64 10000000] rfl (by (try simp only [List.map_toArray, List.map_cons, List.map_nil]); first | done | rfl | (simp only [List.length_drop, List.length_take]; rfl)) ?_; (with_reducible refine (customsref17_in.calls a0_0 10000000 true _ A4.out).mono ?_); rintro e w' ⟨rfl, ⟨nd, rfl⟩⟩; refine ⟨_, rfl, ?_⟩) | (go_at_call 25; (with_reducible refine (customsref17_in.calls a0_1 100000000 true _ A6.out).mono ?_); rintro e w' ⟨rfl, ⟨nd, rfl⟩⟩))); (go_meet); (case rel => exact ⟨_, (true), (by first | rfl | (simp; done) | (simp [*]; done)), H', ⟨by first | omega | exact Nat.le_refl _⟩, ⟨by (with_reducible repeat (first | refine blk_drewN ?_ _ | refine blk_drew ?_ | refine blk_alloc ?_ _)); exact BK148.out⟩, ⟨by repeat (first | (with_reducible first | exact HB.out | apply below_alloc | apply pw_below_drewN | apply below_drew1 | refine below_set ?_ GE148.out) | exact HB.out)⟩⟩)
            · (rw [if_neg c11] at H); (have c11b0 : decide (1000000 < a0_2) = false := decide_eq_false c11); clear c11; (by_cases c13 : a0_1 = 0)
              · (rw [if_pos c13] at H); (have c13b0 : (a0_1 == 0) = true := beq_iff_eq.mpr c13); (have c13b1 : (a0_1 != 0) = false := bne_eq_false_iff_eq.mpr c13); clear c13; (by_cases c14 : a0_2 = 0)
                · (rw [if_pos c14] at H); (have c14b0 : (a0_2 == 0) = true := beq_iff_eq.mpr c14); (have c14b1 : (a0_2 != 0) = false := bne_eq_false_iff_eq.mpr c14); clear c14; (replace H := Option.bind_eq_some_iff.mp H); (obtain ⟨t151, A150, H⟩ := H); (replace H : (if t151 = true then ((customsref17_in.f a0_6 10000000).bind fun t152 => (customsref17_Duty.j0 k (!t152) a0_0 a0_1 a0_2 a0_3 a0_4 a0_5 a0_6)) else (customsref17_Duty.j0 k true a0_0 a0_1 a0_2 a0_3 a0_4 a0_5 a0_6)) = some r := H); have A15 := Aside0.mk A150; clear A150; (by_cases c16 : t151 = true)
                  · subst c16; (have H1 : ((customsref17_in.f a0_6 10000000).bind fun t152 => (customsref17_Duty.j0 k (!t152) a0_0 a0_1 a0_2 a0_3 a0_4 a0_5 a0_6)) = some r := by rw [if_pos rfl] at H; exact H); clear H; have H := H1; clear H1; (replace H := Option.bind_eq_some_iff.mp H); (obtain ⟨t152, A170, H⟩ := H); (replace H : (customsref17_Duty.j0 k (!t152) a0_0 a0_1 a0_2 a0_3 a0_4 a0_5 a0_6) = some r := H); have A17 := Aside0.mk A170; clear A170; have H' := Aside0.mk H; clear H; (have hcz18_0 : w3.cell? ⟨gb148, 0, none⟩ = some (.int .i64 a0_0) := (blk_cell BK148.out 0).trans rfl); (have hcz18_1 : w3.cell? ⟨gb148, 1, none⟩ = some (.int .i64 a0_1) := (blk_cell BK148.out 1).trans rfl); (have hcz18_2 : w3.cell? ⟨gb148, 2, none⟩ = some (.int .i64 a0_2) := (blk_cell BK148.out 2).trans rfl); (have hcz18_3 : w3.cell? ⟨gb148, 3, none⟩ = some (.bool a0_3) := (blk_cell BK148.out 3).trans rfl); (have hcz18_4 : w3.cell? ⟨gb148, 4, none⟩ = some (.int .i64 a0_4) := (blk_cell BK148.out 4).trans rfl); (have hcz18_5 : w3.cell? ⟨gb148, 5, none⟩ = some (.bool a0_5) := (blk_cell BK148.out 5).trans rfl); (have hcz18_6 : w3.cell? ⟨gb148, 6, none⟩ = some (.int .i64 a0_6) := (blk_cell BK148.out 6).trans rfl); (have hfz18_0 := blk_frozen BK148.out 0); (have hfz18_1 := blk_frozen BK148.out 1); (have hfz18_2 := blk_frozen BK148.out 2); (have hfz18_3 := blk_frozen BK148.out 3); (have hfz18_4 := blk_frozen BK148.out 4); (have hfz18_5 := blk_frozen BK148.out 5); (have hfz18_6 := blk_frozen BK148.out 6); (go_wp2_with (first | ((with_reducible refine gate_callee (f := 25) rfl ?_); refine goesL_ (some 5) rfl rfl Tryd.func25 (by kernel_rfl) rfl #[.int .i64 a0_0, .int .i64 10000000] rfl (by (try simp only [List.map_toArray, List.map_cons, List.map_nil]); first | done | rfl | (simp only [List.length_drop, List.length_take]; rfl)) ?_; (with_reducible refine (customsref17_in.calls a0_0 10000000 true _ A4.out).mono ?_); rintro e w' ⟨rfl, ⟨nd, rfl⟩⟩; refine ⟨_, rfl, ?_⟩) | (go_at_call 25; (with_reducible refine (customsref17_in.calls a0_1 100000000 true _ A6.out).mono ?_); rintro e w' ⟨rfl, ⟨nd, rfl⟩⟩) | (go_at_call 25; (with_reducible refine (customsref17_in.calls a0_4 10000000 true _ A15.out).mono ?_); rintro e w' ⟨rfl, ⟨nd, rfl⟩⟩) | (go_at_call 25; (with_reducible refine (customsref17_in.calls a0_6 10000000 t152 _ A17.out).mono ?_); rintro e w' ⟨rfl, ⟨nd, rfl⟩⟩))); (go_meet); (case rel => exact ⟨_, (!t152), (by first | rfl | (simp; done) | (simp [*]; done)), H', ⟨by first | omega | exact Nat.le_refl _⟩, ⟨by (with_reducible repeat (first | refine blk_drewN ?_ _ | refine blk_drew ?_ | refine blk_alloc ?_ _)); exact BK148.out⟩, ⟨by repeat (first | (with_reducible first | exact HB.out | apply below_alloc | apply pw_below_drewN | apply below_drew1 | refine below_set ?_ GE148.out) | exact HB.out)⟩⟩)
                  · (replace c16 := Bool.eq_false_iff.mpr c16); subst c16; (have H1 : (customsref17_Duty.j0 k true a0_0 a0_1 a0_2 a0_3 a0_4 a0_5 a0_6) = some r := by rw [if_neg (show ¬ (false = true) by decide)] at H; exact H); clear H; have H := H1; clear H1; have H' := Aside0.mk H; clear H; (have hcz19_0 : w3.cell? ⟨gb148, 0, none⟩ = some (.int .i64 a0_0) := (blk_cell BK148.out 0).trans rfl); (have hcz19_1 : w3.cell? ⟨gb148, 1, none⟩ = some (.int .i64 a0_1) := (blk_cell BK148.out 1).trans rfl); (have hcz19_2 : w3.cell? ⟨gb148, 2, none⟩ = some (.int .i64 a0_2) := (blk_cell BK148.out 2).trans rfl); (have hcz19_3 : w3.cell? ⟨gb148, 3, none⟩ = some (.bool a0_3) := (blk_cell BK148.out 3).trans rfl); (have hcz19_4 : w3.cell? ⟨gb148, 4, none⟩ = some (.int .i64 a0_4) := (blk_cell BK148.out 4).trans rfl); (have hcz19_5 : w3.cell? ⟨gb148, 5, none⟩ = some (.bool a0_5) := (blk_cell BK148.out 5).trans rfl); (have hcz19_6 : w3.cell? ⟨gb148, 6, none⟩ = some (.int .i64 a0_6) := (blk_cell BK148.out 6).trans rfl); (have hfz19_0 := blk_frozen BK148.out 0); (have hfz19_1 := blk_frozen BK148.out 1); (have hfz19_2 := blk_frozen BK148.out 2); (have hfz19_3 := blk_frozen BK148.out 3); (have hfz19_4 := blk_frozen BK148.out 4); (have hfz19_5 := blk_frozen BK148.out 5); (have hfz19_6 := blk_frozen BK148.out 6); (go_wp2_with (first | ((with_reducible refine gate_callee (f := 25) rfl ?_); refine goesL_ (some 5) rfl rfl Tryd.func25 (by kernel_rfl) rfl #[.int .i64 a0_0, .int .i64 10000000] rfl (by (try simp only [List.map_toArray, List.map_cons, List.map_nil]); first | done | rfl | (simp only [List.length_drop, List.length_take]; rfl)) ?_; (with_reducible refine (customsref17_in.calls a0_0 10000000 true _ A4.out).mono ?_); rintro e w' ⟨rfl, ⟨nd, rfl⟩⟩; refine ⟨_, rfl, ?_⟩) | (go_at_call 25; (with_reducible refine (customsref17_in.calls a0_1 100000000 true _ A6.out).mono ?_); rintro e w' ⟨rfl, ⟨nd, rfl⟩⟩) | (go_at_call 25; (with_reducible refine (customsref17_in.calls a0_4 10000000 false _ A15.out).mono ?_); rintro e w' ⟨rfl, ⟨nd, rfl⟩⟩))); (go_meet); (case rel => exact ⟨_, (true), (by first | rfl | (simp; done) | (simp [*]; done)), H', ⟨by first | omega | exact Nat.le_refl _⟩, ⟨by (with_reducible repeat (first | refine blk_drewN ?_ _ | refine blk_drew ?_ | refine blk_alloc ?_ _)); exact BK148.out⟩, ⟨by repeat (first | (with_reducible first | exact HB.out | apply below_alloc | apply pw_below_drewN | apply below_drew1 | refine below_set ?_ GE148.out) | exact HB.out)⟩⟩)
                · (rw [if_neg c14] at H); (have c14b0 : (a0_2 == 0) = false := beq_eq_false_iff_ne.mpr c14); (have c14b1 : (a0_2 != 0) = true := bne_iff_ne.mpr c14); have H' := Aside0.mk H; clear H; (have hcz20_0 : w3.cell? ⟨gb148, 0, none⟩ = some (.int .i64 a0_0) := (blk_cell BK148.out 0).trans rfl); (have hcz20_1 : w3.cell? ⟨gb148, 1, none⟩ = some (.int .i64 a0_1) := (blk_cell BK148.out 1).trans rfl); (have hcz20_2 : w3.cell? ⟨gb148, 2, none⟩ = some (.int .i64 a0_2) := (blk_cell BK148.out 2).trans rfl); (have hcz20_3 : w3.cell? ⟨gb148, 3, none⟩ = some (.bool a0_3) := (blk_cell BK148.out 3).trans rfl); (have hcz20_4 : w3.cell? ⟨gb148, 4, none⟩ = some (.int .i64 a0_4) := (blk_cell BK148.out 4).trans rfl); (have hcz20_5 : w3.cell? ⟨gb148, 5, none⟩ = some (.bool a0_5) := (blk_cell BK148.out 5).trans rfl); (have hcz20_6 : w3.cell? ⟨gb148, 6, none⟩ = some (.int .i64 a0_6) := (blk_cell BK148.out 6).trans rfl); (have hfz20_0 := blk_frozen BK148.out 0); (have hfz20_1 := blk_frozen BK148.out 1); (have hfz20_2 := blk_frozen BK148.out 2); (have hfz20_3 := blk_frozen BK148.out 3); (have hfz20_4 := blk_frozen BK148.out 4); (have hfz20_5 := blk_frozen BK148.out 5); (have hfz20_6 := blk_frozen BK148.out 6); (go_wp2_with (first | ((with_reducible refine gate_callee (f := 25) rfl ?_); refine goesL_ (some 5) rfl rfl Tryd.func25 (by kernel_rfl) rfl #[.int .i64 a0_0, .int .i64 10000000] rfl (by (try simp only [List.map_toArray, List.map_cons, List.map_nil]); first | done | rfl | (simp only [List.length_drop, List.length_take]; rfl)) ?_; (with_reducible refine (customsref17_in.calls a0_0 10000000 true _ A4.out).mono ?_); rintro e w' ⟨rfl, ⟨nd, rfl⟩⟩; refine ⟨_, rfl, ?_⟩) | (go_at_call 25; (with_reducible refine (customsref17_in.calls a0_1 100000000 true _ A6.out).mono ?_); rintro e w' ⟨rfl, ⟨nd, rfl⟩⟩))); (go_meet); (case rel => exact ⟨_, (true), (by first | rfl | (simp; done) | (simp [*]; done)), H', ⟨by first | omega | exact Nat.le_refl _⟩, ⟨by (with_reducible repeat (first | refine blk_drewN ?_ _ | refine blk_drew ?_ | refine blk_alloc ?_ _)); exact BK148.out⟩, ⟨by repeat (first | (with_reducible first | exact HB.out | apply below_alloc | apply pw_below_drewN | apply below_drew1 | refine below_set ?_ GE148.out) | exact HB.out)⟩⟩)
              · (rw [if_neg c13] at H); (have c13b0 : (a0_1 == 0) = false := beq_eq_false_iff_ne.mpr c13); (have c13b1 : (a0_1 != 0) = true := bne_iff_ne.mpr c13); (replace H := Option.bind_eq_some_iff.mp H); (obtain ⟨t153, A210, H⟩ := H); (replace H : (if t153 = true then ((customsref17_in.f a0_6 10000000).bind fun t154 => (customsref17_Duty.j0 k (!t154) a0_0 a0_1 a0_2 a0_3 a0_4 a0_5 a0_6)) else (customsref17_Duty.j0 k true a0_0 a0_1 a0_2 a0_3 a0_4 a0_5 a0_6)) = some r := H); have A21 := Aside0.mk A210; clear A210; (by_cases c22 : t153 = true)
                · subst c22; (have H1 : ((customsref17_in.f a0_6 10000000).bind fun t154 => (customsref17_Duty.j0 k (!t154) a0_0 a0_1 a0_2 a0_3 a0_4 a0_5 a0_6)) = some r := by rw [if_pos rfl] at H; exact H); clear H; have H := H1; clear H1; (replace H := Option.bind_eq_some_iff.mp H); (obtain ⟨t154, A230, H⟩ := H); (replace H : (customsref17_Duty.j0 k (!t154) a0_0 a0_1 a0_2 a0_3 a0_4 a0_5 a0_6) = some r := H); have A23 := Aside0.mk A230; clear A230; have H' := Aside0.mk H; clear H; (have hcz24_0 : w3.cell? ⟨gb148, 0, none⟩ = some (.int .i64 a0_0) := (blk_cell BK148.out 0).trans rfl); (have hcz24_1 : w3.cell? ⟨gb148, 1, none⟩ = some (.int .i64 a0_1) := (blk_cell BK148.out 1).trans rfl); (have hcz24_2 : w3.cell? ⟨gb148, 2, none⟩ = some (.int .i64 a0_2) := (blk_cell BK148.out 2).trans rfl); (have hcz24_3 : w3.cell? ⟨gb148, 3, none⟩ = some (.bool a0_3) := (blk_cell BK148.out 3).trans rfl); (have hcz24_4 : w3.cell? ⟨gb148, 4, none⟩ = some (.int .i64 a0_4) := (blk_cell BK148.out 4).trans rfl); (have hcz24_5 : w3.cell? ⟨gb148, 5, none⟩ = some (.bool a0_5) := (blk_cell BK148.out 5).trans rfl); (have hcz24_6 : w3.cell? ⟨gb148, 6, none⟩ = some (.int .i64 a0_6) := (blk_cell BK148.out 6).trans rfl); (have hfz24_0 := blk_frozen BK148.out 0); (have hfz24_1 := blk_frozen BK148.out 1); (have hfz24_2 := blk_frozen BK148.out 2); (have hfz24_3 := blk_frozen BK148.out 3); (have hfz24_4 := blk_frozen BK148.out 4); (have hfz24_5 := blk_frozen BK148.out 5); (have hfz24_6 := blk_frozen BK148.out 6); (go_wp2_with (first | ((with_reducible refine gate_callee (f := 25) rfl ?_); refine goesL_ (some 5) rfl rfl Tryd.func25 (by kernel_rfl) rfl #[.int .i64 a0_0, .int .i64 10000000] rfl (by (try simp only [List.map_toArray, List.map_cons, List.map_nil]); first | done | rfl | (simp only [List.length_drop, List.length_take]; rfl)) ?_; (with_reducible refine (customsref17_in.calls a0_0 10000000 true _ A4.out).mono ?_); rintro e w' ⟨rfl, ⟨nd, rfl⟩⟩; refine ⟨_, rfl, ?_⟩) | (go_at_call 25; (with_reducible refine (customsref17_in.calls a0_1 100000000 true _ A6.out).mono ?_); rintro e w' ⟨rfl, ⟨nd, rfl⟩⟩) | (go_at_call 25; (with_reducible refine (customsref17_in.calls a0_4 10000000 true _ A21.out).mono ?_); rintro e w' ⟨rfl, ⟨nd, rfl⟩⟩) | (go_at_call 25; (with_reducible refine (customsref17_in.calls a0_6 10000000 t154 _ A23.out).mono ?_); rintro e w' ⟨rfl, ⟨nd, rfl⟩⟩))); (go_meet); (case rel => exact ⟨_, (!t154), (by first | rfl | (simp; done) | (simp [*]; done)), H', ⟨by first | omega | exact Nat.le_refl _⟩, ⟨by (with_reducible repeat (first | refine blk_drewN ?_ _ | refine blk_drew ?_ | refine blk_alloc ?_ _)); exact BK148.out⟩, ⟨by repeat (first | (with_reducible first | exact HB.out | apply below_alloc | apply pw_below_drewN | apply below_drew1 | refine below_set ?_ GE148.out) | exact HB.out)⟩⟩)
                · (replace c22 := Bool.eq_false_iff.mpr c22); subst c22; (have H1 : (customsref17_Duty.j0 k true a0_0 a0_1 a0_2 a0_3 a0_4 a0_5 a0_6) = some r := by rw [if_neg (show ¬ (false = true) by decide)] at H; exact H); clear H; have H := H1; clear H1; have H' := Aside0.mk H; clear H; (have hcz25_0 : w3.cell? ⟨gb148, 0, none⟩ = some (.int .i64 a0_0) := (blk_cell BK148.out 0).trans rfl); (have hcz25_1 : w3.cell? ⟨gb148, 1, none⟩ = some (.int .i64 a0_1) := (blk_cell BK148.out 1).trans rfl); (have hcz25_2 : w3.cell? ⟨gb148, 2, none⟩ = some (.int .i64 a0_2) := (blk_cell BK148.out 2).trans rfl); (have hcz25_3 : w3.cell? ⟨gb148, 3, none⟩ = some (.bool a0_3) := (blk_cell BK148.out 3).trans rfl); (have hcz25_4 : w3.cell? ⟨gb148, 4, none⟩ = some (.int .i64 a0_4) := (blk_cell BK148.out 4).trans rfl); (have hcz25_5 : w3.cell? ⟨gb148, 5, none⟩ = some (.bool a0_5) := (blk_cell BK148.out 5).trans rfl); (have hcz25_6 : w3.cell? ⟨gb148, 6, none⟩ = some (.int .i64 a0_6) := (blk_cell BK148.out 6).trans rfl); (have hfz25_0 := blk_frozen BK148.out 0); (have hfz25_1 := blk_frozen BK148.out 1); (have hfz25_2 := blk_frozen BK148.out 2); (have hfz25_3 := blk_frozen BK148.out 3); (have hfz25_4 := blk_frozen BK148.out 4); (have hfz25_5 := blk_frozen BK148.out 5); (have hfz25_6 := blk_frozen BK148.out 6); (go_wp2_with (first | ((with_reducible refine gate_callee (f := 25) rfl ?_); refine goesL_ (some 5) rfl rfl Tryd.func25 (by kernel_rfl) rfl #[.int .i64 a0_0, .int .i64 10000000] rfl (by (try simp only [List.map_toArray, List.map_cons, List.map_nil]); first | done | rfl | (simp only [List.length_drop, List.length_take]; rfl)) ?_; (with_reducible refine (customsref17_in.calls a0_0 10000000 true _ A4.out).mono ?_); rintro e w' ⟨rfl, ⟨nd, rfl⟩⟩; refine ⟨_, rfl, ?_⟩) | (go_at_call 25; (with_reducible refine (customsref17_in.calls a0_1 100000000 true _ A6.out).mono ?_); rintro e w' ⟨rfl, ⟨nd, rfl⟩⟩) | (go_at_call 25; (with_reducible refine (customsref17_in.calls a0_4 10000000 false _ A21.out).mono ?_); rintro e w' ⟨rfl, ⟨nd, rfl⟩⟩))); (go_meet); (case rel => exact ⟨_, (true), (by first | rfl | (simp; done) | (simp [*]; done)), H', ⟨by first | omega | exact Nat.le_refl _⟩, ⟨by (with_reducible repeat (first | refine blk_drewN ?_ _ | refine blk_drew ?_ | refine blk_alloc ?_ _)); exact BK148.out⟩, ⟨by repeat (first | (with_reducible first | exact HB.out | apply below_alloc | apply pw_below_drewN | apply below_drew1 | refine below_set ?_ GE148.out) | exact HB.out)⟩⟩)
        · (rw [if_neg c8] at H); (have c8b0 : decide (0 < a0_1) = false := decide_eq_false c8); clear c8; (first | rw [c8b0] | (simp only [i64_w, i32_w]; rw [c8b0]) | skip); (by_cases c26 : a0_1 = 0)
          · (rw [if_pos c26] at H); (have c26b0 : (a0_1 == 0) = true := beq_iff_eq.mpr c26); (have c26b1 : (a0_1 != 0) = false := bne_eq_false_iff_eq.mpr c26); clear c26; (by_cases c27 : a0_2 = 0)
            · (rw [if_pos c27] at H); (have c27b0 : (a0_2 == 0) = true := beq_iff_eq.mpr c27); (have c27b1 : (a0_2 != 0) = false := bne_eq_false_iff_eq.mpr c27); clear c27; (replace H := Option.bind_eq_some_iff.mp H); (obtain ⟨t155, A280, H⟩ := H); (replace H : (if t155 = true then ((customsref17_in.f a0_6 10000000).bind fun t156 => (customsref17_Duty.j0 k (!t156) a0_0 a0_1 a0_2 a0_3 a0_4 a0_5 a0_6)) else (customsref17_Duty.j0 k true a0_0 a0_1 a0_2 a0_3 a0_4 a0_5 a0_6)) = some r := H); have A28 := Aside0.mk A280; clear A280; (by_cases c29 : t155 = true)
              · subst c29; (have H1 : ((customsref17_in.f a0_6 10000000).bind fun t156 => (customsref17_Duty.j0 k (!t156) a0_0 a0_1 a0_2 a0_3 a0_4 a0_5 a0_6)) = some r := by rw [if_pos rfl] at H; exact H); clear H; have H := H1; clear H1; (replace H := Option.bind_eq_some_iff.mp H); (obtain ⟨t156, A300, H⟩ := H); (replace H : (customsref17_Duty.j0 k (!t156) a0_0 a0_1 a0_2 a0_3 a0_4 a0_5 a0_6) = some r := H); have A30 := Aside0.mk A300; clear A300; have H' := Aside0.mk H; clear H; (have hcz31_0 : w3.cell? ⟨gb148, 0, none⟩ = some (.int .i64 a0_0) := (blk_cell BK148.out 0).trans rfl); (have hcz31_1 : w3.cell? ⟨gb148, 1, none⟩ = some (.int .i64 a0_1) := (blk_cell BK148.out 1).trans rfl); (have hcz31_2 : w3.cell? ⟨gb148, 2, none⟩ = some (.int .i64 a0_2) := (blk_cell BK148.out 2).trans rfl); (have hcz31_3 : w3.cell? ⟨gb148, 3, none⟩ = some (.bool a0_3) := (blk_cell BK148.out 3).trans rfl); (have hcz31_4 : w3.cell? ⟨gb148, 4, none⟩ = some (.int .i64 a0_4) := (blk_cell BK148.out 4).trans rfl); (have hcz31_5 : w3.cell? ⟨gb148, 5, none⟩ = some (.bool a0_5) := (blk_cell BK148.out 5).trans rfl); (have hcz31_6 : w3.cell? ⟨gb148, 6, none⟩ = some (.int .i64 a0_6) := (blk_cell BK148.out 6).trans rfl); (have hfz31_0 := blk_frozen BK148.out 0); (have hfz31_1 := blk_frozen BK148.out 1); (have hfz31_2 := blk_frozen BK148.out 2); (have hfz31_3 := blk_frozen BK148.out 3); (have hfz31_4 := blk_frozen BK148.out 4); (have hfz31_5 := blk_frozen BK148.out 5); (have hfz31_6 := blk_frozen BK148.out 6); (go_wp2_with (first | ((with_reducible refine gate_callee (f := 25) rfl ?_); refine goesL_ (some 5) rfl rfl Tryd.func25 (by kernel_rfl) rfl #[.int .i64 a0_0, .int .i64 10000000] rfl (by (try simp only [List.map_toArray, List.map_cons, List.map_nil]); first | done | rfl | (simp only [List.length_drop, List.length_take]; rfl)) ?_; (with_reducible refine (customsref17_in.calls a0_0 10000000 true _ A4.out).mono ?_); rintro e w' ⟨rfl, ⟨nd, rfl⟩⟩; refine ⟨_, rfl, ?_⟩) | (go_at_call 25; (with_reducible refine (customsref17_in.calls a0_1 100000000 true _ A6.out).mono ?_); rintro e w' ⟨rfl, ⟨nd, rfl⟩⟩) | (go_at_call 25; (with_reducible refine (customsref17_in.calls a0_4 10000000 true _ A28.out).mono ?_); rintro e w' ⟨rfl, ⟨nd, rfl⟩⟩) | (go_at_call 25; (with_reducible refine (customsref17_in.calls a0_6 10000000 t156 _ A30.out).mono ?_); rintro e w' ⟨rfl, ⟨nd, rfl⟩⟩))); (go_meet); (case rel => exact ⟨_, (!t156), (by first | rfl | (simp; done) | (simp [*]; done)), H', ⟨by first | omega | exact Nat.le_refl _⟩, ⟨by (with_reducible repeat (first | refine blk_drewN ?_ _ | refine blk_drew ?_ | refine blk_alloc ?_ _)); exact BK148.out⟩, ⟨by repeat (first | (with_reducible first | exact HB.out | apply below_alloc | apply pw_below_drewN | apply below_drew1 | refine below_set ?_ GE148.out) | exact HB.out)⟩⟩)
              · (replace c29 := Bool.eq_false_iff.mpr c29); subst c29; (have H1 : (customsref17_Duty.j0 k true a0_0 a0_1 a0_2 a0_3 a0_4 a0_5 a0_6) = some r := by rw [if_neg (show ¬ (false = true) by decide)] at H; exact H); clear H; have H := H1; clear H1; have H' := Aside0.mk H; clear H; (have hcz32_0 : w3.cell? ⟨gb148, 0, none⟩ = some (.int .i64 a0_0) := (blk_cell BK148.out 0).trans rfl); (have hcz32_1 : w3.cell? ⟨gb148, 1, none⟩ = some (.int .i64 a0_1) := (blk_cell BK148.out 1).trans rfl); (have hcz32_2 : w3.cell? ⟨gb148, 2, none⟩ = some (.int .i64 a0_2) := (blk_cell BK148.out 2).trans rfl); (have hcz32_3 : w3.cell? ⟨gb148, 3, none⟩ = some (.bool a0_3) := (blk_cell BK148.out 3).trans rfl); (have hcz32_4 : w3.cell? ⟨gb148, 4, none⟩ = some (.int .i64 a0_4) := (blk_cell BK148.out 4).trans rfl); (have hcz32_5 : w3.cell? ⟨gb148, 5, none⟩ = some (.bool a0_5) := (blk_cell BK148.out 5).trans rfl); (have hcz32_6 : w3.cell? ⟨gb148, 6, none⟩ = some (.int .i64 a0_6) := (blk_cell BK148.out 6).trans rfl); (have hfz32_0 := blk_frozen BK148.out 0); (have hfz32_1 := blk_frozen BK148.out 1); (have hfz32_2 := blk_frozen BK148.out 2); (have hfz32_3 := blk_frozen BK148.out 3); (have hfz32_4 := blk_frozen BK148.out 4); (have hfz32_5 := blk_frozen BK148.out 5); (have hfz32_6 := blk_frozen BK148.out 6); (go_wp2_with (first | ((with_reducible refine gate_callee (f := 25) rfl ?_); refine goesL_ (some 5) rfl rfl Tryd.func25 (by kernel_rfl) rfl #[.int .i64 a0_0, .int .i64 10000000] rfl (by (try simp only [List.map_toArray, List.map_cons, List.map_nil]); first | done | rfl | (simp only [List.length_drop, List.length_take]; rfl)) ?_; (with_reducible refine (customsref17_in.calls a0_0 10000000 true _ A4.out).mono ?_); rintro e w' ⟨rfl, ⟨nd, rfl⟩⟩; refine ⟨_, rfl, ?_⟩) | (go_at_call 25; (with_reducible refine (customsref17_in.calls a0_1 100000000 true _ A6.out).mono ?_); rintro e w' ⟨rfl, ⟨nd, rfl⟩⟩) | (go_at_call 25; (with_reducible refine (customsref17_in.calls a0_4 10000000 false _ A28.out).mono ?_); rintro e w' ⟨rfl, ⟨nd, rfl⟩⟩))); (go_meet); (case rel => exact ⟨_, (true), (by first | rfl | (simp; done) | (simp [*]; done)), H', ⟨by first | omega | exact Nat.le_refl _⟩, ⟨by (with_reducible repeat (first | refine blk_drewN ?_ _ | refine blk_drew ?_ | refine blk_alloc ?_ _)); exact BK148.out⟩, ⟨by repeat (first | (with_reducible first | exact HB.out | apply below_alloc | apply pw_below_drewN | apply below_drew1 | refine below_set ?_ GE148.out) | exact HB.out)⟩⟩)
            · (rw [if_neg c27] at H); (have c27b0 : (a0_2 == 0) = false := beq_eq_false_iff_ne.mpr c27); (have c27b1 : (a0_2 != 0) = true := bne_iff_ne.mpr c27); have H' := Aside0.mk H; clear H; (have hcz33_0 : w3.cell? ⟨gb148, 0, none⟩ = some (.int .i64 a0_0) := (blk_cell BK148.out 0).trans rfl); (have hcz33_1 : w3.cell? ⟨gb148, 1, none⟩ = some (.int .i64 a0_1) := (blk_cell BK148.out 1).trans rfl); (have hcz33_2 : w3.cell? ⟨gb148, 2, none⟩ = some (.int .i64 a0_2) := (blk_cell BK148.out 2).trans rfl); (have hcz33_3 : w3.cell? ⟨gb148, 3, none⟩ = some (.bool a0_3) := (blk_cell BK148.out 3).trans rfl); (have hcz33_4 : w3.cell? ⟨gb148, 4, none⟩ = some (.int .i64 a0_4) := (blk_cell BK148.out 4).trans rfl); (have hcz33_5 : w3.cell? ⟨gb148, 5, none⟩ = some (.bool a0_5) := (blk_cell BK148.out 5).trans rfl); (have hcz33_6 : w3.cell? ⟨gb148, 6, none⟩ = some (.int .i64 a0_6) := (blk_cell BK148.out 6).trans rfl); (have hfz33_0 := blk_frozen BK148.out 0); (have hfz33_1 := blk_frozen BK148.out 1); (have hfz33_2 := blk_frozen BK148.out 2); (have hfz33_3 := blk_frozen BK148.out 3); (have hfz33_4 := blk_frozen BK148.out 4); (have hfz33_5 := blk_frozen BK148.out 5); (have hfz33_6 := blk_frozen BK148.out 6); (go_wp2_with (first | ((with_reducible refine gate_callee (f := 25) rfl ?_); refine goesL_ (some 5) rfl rfl Tryd.func25 (by kernel_rfl) rfl #[.int .i64 a0_0, .int .i64 10000000] rfl (by (try simp only [List.map_toArray, List.map_cons, List.map_nil]); first | done | rfl | (simp only [List.length_drop, List.length_take]; rfl)) ?_; (with_reducible refine (customsref17_in.calls a0_0 10000000 true _ A4.out).mono ?_); rintro e w' ⟨rfl, ⟨nd, rfl⟩⟩; refine ⟨_, rfl, ?_⟩) | (go_at_call 25; (with_reducible refine (customsref17_in.calls a0_1 100000000 true _ A6.out).mono ?_); rintro e w' ⟨rfl, ⟨nd, rfl⟩⟩))); (go_meet); (case rel => exact ⟨_, (true), (by first | rfl | (simp; done) | (simp [*]; done)), H', ⟨by first | omega | exact Nat.le_refl _⟩, ⟨by (with_reducible repeat (first | refine blk_drewN ?_ _ | refine blk_drew ?_ | refine blk_alloc ?_ _)); exact BK148.out⟩, ⟨by repeat (first | (with_reducible first | exact HB.out | apply below_alloc | apply pw_below_drewN | apply below_drew1 | refine below_set ?_ GE148.out) | exact HB.out)⟩⟩)
          · (rw [if_neg c26] at H); (have c26b0 : (a0_1 == 0) = false := beq_eq_false_iff_ne.mpr c26); (have c26b1 : (a0_1 != 0) = true := bne_iff_ne.mpr c26); (replace H := Option.bind_eq_some_iff.mp H); (obtain ⟨t157, A340, H⟩ := H); (replace H : (if t157 = true then ((customsref17_in.f a0_6 10000000).bind fun t158 => (customsref17_Duty.j0 k (!t158) a0_0 a0_1 a0_2 a0_3 a0_4 a0_5 a0_6)) else (customsref17_Duty.j0 k true a0_0 a0_1 a0_2 a0_3 a0_4 a0_5 a0_6)) = some r := H); have A34 := Aside0.mk A340; clear A340; (by_cases c35 : t157 = true)
            · subst c35; (have H1 : ((customsref17_in.f a0_6 10000000).bind fun t158 => (customsref17_Duty.j0 k (!t158) a0_0 a0_1 a0_2 a0_3 a0_4 a0_5 a0_6)) = some r := by rw [if_pos rfl] at H; exact H); clear H; have H := H1; clear H1; (replace H := Option.bind_eq_some_iff.mp H); (obtain ⟨t158, A360, H⟩ := H); (replace H : (customsref17_Duty.j0 k (!t158) a0_0 a0_1 a0_2 a0_3 a0_4 a0_5 a0_6) = some r := H); have A36 := Aside0.mk A360; clear A360; have H' := Aside0.mk H; clear H; (have hcz37_0 : w3.cell? ⟨gb148, 0, none⟩ = some (.int .i64 a0_0) := (blk_cell BK148.out 0).trans rfl); (have hcz37_1 : w3.cell? ⟨gb148, 1, none⟩ = some (.int .i64 a0_1) := (blk_cell BK148.out 1).trans rfl); (have hcz37_2 : w3.cell? ⟨gb148, 2, none⟩ = some (.int .i64 a0_2) := (blk_cell BK148.out 2).trans rfl); (have hcz37_3 : w3.cell? ⟨gb148, 3, none⟩ = some (.bool a0_3) := (blk_cell BK148.out 3).trans rfl); (have hcz37_4 : w3.cell? ⟨gb148, 4, none⟩ = some (.int .i64 a0_4) := (blk_cell BK148.out 4).trans rfl); (have hcz37_5 : w3.cell? ⟨gb148, 5, none⟩ = some (.bool a0_5) := (blk_cell BK148.out 5).trans rfl); (have hcz37_6 : w3.cell? ⟨gb148, 6, none⟩ = some (.int .i64 a0_6) := (blk_cell BK148.out 6).trans rfl); (have hfz37_0 := blk_frozen BK148.out 0); (have hfz37_1 := blk_frozen BK148.out 1); (have hfz37_2 := blk_frozen BK148.out 2); (have hfz37_3 := blk_frozen BK148.out 3); (have hfz37_4 := blk_frozen BK148.out 4); (have hfz37_5 := blk_frozen BK148.out 5); (have hfz37_6 := blk_frozen BK148.out 6); (go_wp2_with (first | ((with_reducible refine gate_callee (f := 25) rfl ?_); refine goesL_ (some 5) rfl rfl Tryd.func25 (by kernel_rfl) rfl #[.int .i64 a0_0, .int .i64 10000000] rfl (by (try simp only [List.map_toArray, List.map_cons, List.map_nil]); first | done | rfl | (simp only [List.length_drop, List.length_take]; rfl)) ?_; (with_reducible refine (customsref17_in.calls a0_0 10000000 true _ A4.out).mono ?_); rintro e w' ⟨rfl, ⟨nd, rfl⟩⟩; refine ⟨_, rfl, ?_⟩) | (go_at_call 25; (with_reducible refine (customsref17_in.calls a0_1 100000000 true _ A6.out).mono ?_); rintro e w' ⟨rfl, ⟨nd, rfl⟩⟩) | (go_at_call 25; (with_reducible refine (customsref17_in.calls a0_4 10000000 true _ A34.out).mono ?_); rintro e w' ⟨rfl, ⟨nd, rfl⟩⟩) | (go_at_call 25; (with_reducible refine (customsref17_in.calls a0_6 10000000 t158 _ A36.out).mono ?_); rintro e w' ⟨rfl, ⟨nd, rfl⟩⟩))); (go_meet); (case rel => exact ⟨_, (!t158), (by first | rfl | (simp; done) | (simp [*]; done)), H', ⟨by first | omega | exact Nat.le_refl _⟩, ⟨by (with_reducible repeat (first | refine blk_drewN ?_ _ | refine blk_drew ?_ | refine blk_alloc ?_ _)); exact BK148.out⟩, ⟨by repeat (first | (with_reducible first | exact HB.out | apply below_alloc | apply pw_below_drewN | apply below_drew1 | refine below_set ?_ GE148.out) | exact HB.out)⟩⟩)
            · (replace c35 := Bool.eq_false_iff.mpr c35); subst c35; (have H1 : (customsref17_Duty.j0 k true a0_0 a0_1 a0_2 a0_3 a0_4 a0_5 a0_6) = some r := by rw [if_neg (show ¬ (false = true) by decide)] at H; exact H); clear H; have H := H1; clear H1; have H' := Aside0.mk H; clear H; (have hcz38_0 : w3.cell? ⟨gb148, 0, none⟩ = some (.int .i64 a0_0) := (blk_cell BK148.out 0).trans rfl); (have hcz38_1 : w3.cell? ⟨gb148, 1, none⟩ = some (.int .i64 a0_1) := (blk_cell BK148.out 1).trans rfl); (have hcz38_2 : w3.cell? ⟨gb148, 2, none⟩ = some (.int .i64 a0_2) := (blk_cell BK148.out 2).trans rfl); (have hcz38_3 : w3.cell? ⟨gb148, 3, none⟩ = some (.bool a0_3) := (blk_cell BK148.out 3).trans rfl); (have hcz38_4 : w3.cell? ⟨gb148, 4, none⟩ = some (.int .i64 a0_4) := (blk_cell BK148.out 4).trans rfl); (have hcz38_5 : w3.cell? ⟨gb148, 5, none⟩ = some (.bool a0_5) := (blk_cell BK148.out 5).trans rfl); (have hcz38_6 : w3.cell? ⟨gb148, 6, none⟩ = some (.int .i64 a0_6) := (blk_cell BK148.out 6).trans rfl); (have hfz38_0 := blk_frozen BK148.out 0); (have hfz38_1 := blk_frozen BK148.out 1); (have hfz38_2 := blk_frozen BK148.out 2); (have hfz38_3 := blk_frozen BK148.out 3); (have hfz38_4 := blk_frozen BK148.out 4); (have hfz38_5 := blk_frozen BK148.out 5); (have hfz38_6 := blk_frozen BK148.out 6); (go_wp2_with (first | ((with_reducible refine gate_callee (f := 25) rfl ?_); refine goesL_ (some 5) rfl rfl Tryd.func25 (by kernel_rfl) rfl #[.int .i64 a0_0, .int .i64 10000000] rfl (by (try simp only [List.map_toArray, List.map_cons, List.map_nil]); first | done | rfl | (simp only [List.length_drop, List.length_take]; rfl)) ?_; (with_reducible refine (customsref17_in.calls a0_0 10000000 true _ A4.out).mono ?_); rintro e w' ⟨rfl, ⟨nd, rfl⟩⟩; refine ⟨_, rfl, ?_⟩) | (go_at_call 25; (with_reducible refine (customsref17_in.calls a0_1 100000000 true _ A6.out).mono ?_); rintro e w' ⟨rfl, ⟨nd, rfl⟩⟩) | (go_at_call 25; (with_reducible refine (customsref17_in.calls a0_4 10000000 false _ A34.out).mono ?_); rintro e w' ⟨rfl, ⟨nd, rfl⟩⟩))); (go_meet); (case rel => exact ⟨_, (true), (by first | rfl | (simp; done) | (simp [*]; done)), H', ⟨by first | omega | exact Nat.le_refl _⟩, ⟨by (with_reducible repeat (first | refine blk_drewN ?_ _ | refine blk_drew ?_ | refine blk_alloc ?_ _)); exact BK148.out⟩, ⟨by repeat (first | (with_reducible first | exact HB.out | apply below_alloc | apply pw_below_drewN | apply below_drew1 | refine below_set ?_ GE148.out) | exact HB.out)⟩⟩)
      · (replace c7 := Bool.eq_false_iff.mpr c7); subst c7; (have H1 : (customsref17_Duty.j0 k true a0_0 a0_1 a0_2 a0_3 a0_4 a0_5 a0_6) = some r := by rw [if_neg (show ¬ (false = true) by decide)] at H; exact H); clear H; have H := H1; clear H1; have H' := Aside0.mk H; clear H; (have hcz39_0 : w3.cell? ⟨gb148, 0, none⟩ = some (.int .i64 a0_0) := (blk_cell BK148.out 0).trans rfl); (have hcz39_1 : w3.cell? ⟨gb148, 1, none⟩ = some (.int .i64 a0_1) := (blk_cell BK148.out 1).trans rfl); (have hcz39_2 : w3.cell? ⟨gb148, 2, none⟩ = some (.int .i64 a0_2) := (blk_cell BK148.out 2).trans rfl); (have hcz39_3 : w3.cell? ⟨gb148, 3, none⟩ = some (.bool a0_3) := (blk_cell BK148.out 3).trans rfl); (have hcz39_4 : w3.cell? ⟨gb148, 4, none⟩ = some (.int .i64 a0_4) := (blk_cell BK148.out 4).trans rfl); (have hcz39_5 : w3.cell? ⟨gb148, 5, none⟩ = some (.bool a0_5) := (blk_cell BK148.out 5).trans rfl); (have hcz39_6 : w3.cell? ⟨gb148, 6, none⟩ = some (.int .i64 a0_6) := (blk_cell BK148.out 6).trans rfl); (have hfz39_0 := blk_frozen BK148.out 0); (have hfz39_1 := blk_frozen BK148.out 1); (have hfz39_2 := blk_frozen BK148.out 2); (have hfz39_3 := blk_frozen BK148.out 3); (have hfz39_4 := blk_frozen BK148.out 4); (have hfz39_5 := blk_frozen BK148.out 5); (have hfz39_6 := blk_frozen BK148.out 6); (go_wp2_with (first | ((with_reducible refine gate_callee (f := 25) rfl ?_); refine goesL_ (some 5) rfl rfl Tryd.func25 (by kernel_rfl) rfl #[.int .i64 a0_0, .int .i64 10000000] rfl (by (try simp only [List.map_toArray, List.map_cons, List.map_nil]); first | done | rfl | (simp only [List.length_drop, List.length_take]; rfl)) ?_; (with_reducible refine (customsref17_in.calls a0_0 10000000 true _ A4.out).mono ?_); rintro e w' ⟨rfl, ⟨nd, rfl⟩⟩; refine ⟨_, rfl, ?_⟩) | (go_at_call 25; (with_reducible refine (customsref17_in.calls a0_1 100000000 false _ A6.out).mono ?_); rintro e w' ⟨rfl, ⟨nd, rfl⟩⟩))); (go_meet); (case rel => exact ⟨_, (true), (by first | rfl | (simp; done) | (simp [*]; done)), H', ⟨by first | omega | exact Nat.le_refl _⟩, ⟨by (with_reducible repeat (first | refine blk_drewN ?_ _ | refine blk_drew ?_ | refine blk_alloc ?_ _)); exact BK148.out⟩, ⟨by repeat (first | (with_reducible first | exact HB.out | apply below_alloc | apply pw_below_drewN | apply below_drew1 | refine below_set ?_ GE148.out) | exact HB.out)⟩⟩)
    · (replace c5 := Bool.eq_false_iff.mpr c5); subst c5; (have H1 : (customsref17_Duty.j0 k true a0_0 a0_1 a0_2 a0_3 a0_4 a0_5 a0_6) = some r := by rw [if_neg (show ¬ (false = true) by decide)] at H; exact H); clear H; have H := H1; clear H1; have H' := Aside0.mk H; clear H; (have hcz40_0 : w3.cell? ⟨gb148, 0, none⟩ = some (.int .i64 a0_0) := (blk_cell BK148.out 0).trans rfl); (have hcz40_1 : w3.cell? ⟨gb148, 1, none⟩ = some (.int .i64 a0_1) := (blk_cell BK148.out 1).trans rfl); (have hcz40_2 : w3.cell? ⟨gb148, 2, none⟩ = some (.int .i64 a0_2) := (blk_cell BK148.out 2).trans rfl); (have hcz40_3 : w3.cell? ⟨gb148, 3, none⟩ = some (.bool a0_3) := (blk_cell BK148.out 3).trans rfl); (have hcz40_4 : w3.cell? ⟨gb148, 4, none⟩ = some (.int .i64 a0_4) := (blk_cell BK148.out 4).trans rfl); (have hcz40_5 : w3.cell? ⟨gb148, 5, none⟩ = some (.bool a0_5) := (blk_cell BK148.out 5).trans rfl); (have hcz40_6 : w3.cell? ⟨gb148, 6, none⟩ = some (.int .i64 a0_6) := (blk_cell BK148.out 6).trans rfl); (have hfz40_0 := blk_frozen BK148.out 0); (have hfz40_1 := blk_frozen BK148.out 1); (have hfz40_2 := blk_frozen BK148.out 2); (have hfz40_3 := blk_frozen BK148.out 3); (have hfz40_4 := blk_frozen BK148.out 4); (have hfz40_5 := blk_frozen BK148.out 5); (have hfz40_6 := blk_frozen BK148.out 6); (go_wp2_with (first | ((with_reducible refine gate_callee (f := 25) rfl ?_); refine goesL_ (some 5) rfl rfl Tryd.func25 (by kernel_rfl) rfl #[.int .i64 a0_0, .int .i64 10000000] rfl (by (try simp only [List.map_toArray, List.map_cons, List.map_nil]); first | done | rfl | (simp only [List.length_drop, List.length_take]; rfl)) ?_; (with_reducible refine (customsref17_in.calls a0_0 10000000 false _ A4.out).mono ?_); rintro e w' ⟨rfl, ⟨nd, rfl⟩⟩; refine ⟨_, rfl, ?_⟩))); (go_meet); (case rel => exact ⟨_, (true), (by first | rfl | (simp; done) | (simp [*]; done)), H', ⟨by first | omega | exact Nat.le_refl _⟩, ⟨by (with_reducible repeat (first | refine blk_drewN ?_ _ | refine blk_drew ?_ | refine blk_alloc ?_ _)); exact BK148.out⟩, ⟨by repeat (first | (with_reducible first | exact HB.out | apply below_alloc | apply pw_below_drewN | apply below_drew1 | refine below_set ?_ GE148.out) | exact HB.out)⟩⟩)
  case rest =>
    clear HC2; (try clear c1); (try clear c2); (try clear p2); (try clear c3); (try clear c5); (try clear c7); (try clear c8); (try clear c8b0); (try clear c9); (try clear c9b0); (try clear c11); (try clear c11b0); (try clear c12); (try clear c13); (try clear c13b0); (try clear c13b1); (try clear c14); (try clear c14b0); (try clear c14b1); (try clear c16); (try clear c22); (try clear c25); (try clear c26); (try clear c26b0); (try clear c26b1); (try clear c27); (try clear c27b0); (try clear c27b1); (try clear c29); (try clear c35); (try clear hcz10_0); (try clear hcz10_1); (try clear hcz10_2); (try clear hcz10_3); (try clear hcz10_4); (try clear hcz10_5); (try clear hcz10_6); (try clear hcz12_0); (try clear hcz12_1); (try clear hcz12_2); (try clear hcz12_3); (try clear hcz12_4); (try clear hcz12_5); (try clear hcz12_6); (try clear hcz18_0); (try clear hcz18_1); (try clear hcz18_2); (try clear hcz18_3); (try clear hcz18_4); (try clear hcz18_5); (try clear hcz18_6); (try clear hcz19_0); (try clear hcz19_1); (try clear hcz19_2); (try clear hcz19_3); (try clear hcz19_4); (try clear hcz19_5); (try clear hcz19_6); (try clear hcz20_0); (try clear hcz20_1); (try clear hcz20_2); (try clear hcz20_3); (try clear hcz20_4); (try clear hcz20_5); (try clear hcz20_6); (try clear hcz24_0); (try clear hcz24_1); (try clear hcz24_2); (try clear hcz24_3); (try clear hcz24_4); (try clear hcz24_5); (try clear hcz24_6); (try clear hcz25_0); (try clear hcz25_1); (try clear hcz25_2); (try clear hcz25_3); (try clear hcz25_4); (try clear hcz25_5); (try clear hcz25_6); (try clear hcz31_0); (try clear hcz31_1); (try clear hcz31_2); (try clear hcz31_3); (try clear hcz31_4); (try clear hcz31_5); (try clear hcz31_6); (try clear hcz32_0); (try clear hcz32_1); (try clear hcz32_2); (try clear hcz32_3); (try clear hcz32_4); (try clear hcz32_5); (try clear hcz32_6); (try clear hcz33_0); (try clear hcz33_1); (try clear hcz33_2); (try clear hcz33_3); (try clear hcz33_4); (try clear hcz33_5); (try clear hcz33_6); (try clear hcz37_0); (try clear hcz37_1); (try clear hcz37_2); (try clear hcz37_3); (try clear hcz37_4); (try clear hcz37_5); (try clear hcz37_6); (try clear hcz38_0); (try clear hcz38_1); (try clear hcz38_2); (try clear hcz38_3); (try clear hcz38_4); (try clear hcz38_5); (try clear hcz38_6); (try clear hcz39_0); (try clear hcz39_1); (try clear hcz39_2); (try clear hcz39_3); (try clear hcz39_4); (try clear hcz39_5); (try clear hcz39_6); (try clear hcz40_0); (try clear hcz40_1); (try clear hcz40_2); (try clear hcz40_3); (try clear hcz40_4); (try clear hcz40_5); (try clear hcz40_6); (try clear hfz10_0); (try clear hfz10_1); (try clear hfz10_2); (try clear hfz10_3); (try clear hfz10_4); (try clear hfz10_5); (try clear hfz10_6); (try clear hfz12_0); (try clear hfz12_1); (try clear hfz12_2); (try clear hfz12_3); (try clear hfz12_4); (try clear hfz12_5); (try clear hfz12_6); (try clear hfz18_0); (try clear hfz18_1); (try clear hfz18_2); (try clear hfz18_3); (try clear hfz18_4); (try clear hfz18_5); (try clear hfz18_6); (try clear hfz19_0); (try clear hfz19_1); (try clear hfz19_2); (try clear hfz19_3); (try clear hfz19_4); (try clear hfz19_5); (try clear hfz19_6); (try clear hfz20_0); (try clear hfz20_1); (try clear hfz20_2); (try clear hfz20_3); (try clear hfz20_4); (try clear hfz20_5); (try clear hfz20_6); (try clear hfz24_0); (try clear hfz24_1); (try clear hfz24_2); (try clear hfz24_3); (try clear hfz24_4); (try clear hfz24_5); (try clear hfz24_6); (try clear hfz25_0); (try clear hfz25_1); (try clear hfz25_2); (try clear hfz25_3); (try clear hfz25_4); (try clear hfz25_5); (try clear hfz25_6); (try clear hfz31_0); (try clear hfz31_1); (try clear hfz31_2); (try clear hfz31_3); (try clear hfz31_4); (try clear hfz31_5); (try clear hfz31_6); (try clear hfz32_0); (try clear hfz32_1); (try clear hfz32_2); (try clear hfz32_3); (try clear hfz32_4); (try clear hfz32_5); (try clear hfz32_6); (try clear hfz33_0); (try clear hfz33_1); (try clear hfz33_2); (try clear hfz33_3); (try clear hfz33_4); (try clear hfz33_5); (try clear hfz33_6); (try clear hfz37_0); (try clear hfz37_1); (try clear hfz37_2); (try clear hfz37_3); (try clear hfz37_4); (try clear hfz37_5); (try clear hfz37_6); (try clear hfz38_0); (try clear hfz38_1); (try clear hfz38_2); (try clear hfz38_3); (try clear hfz38_4); (try clear hfz38_5); (try clear hfz38_6); (try clear hfz39_0); (try clear hfz39_1); (try clear hfz39_2); (try clear hfz39_3); (try clear hfz39_4); (try clear hfz39_5); (try clear hfz39_6); (try clear hfz40_0); (try clear hfz40_1); (try clear hfz40_2); (try clear hfz40_3); (try clear hfz40_4); (try clear hfz40_5); (try clear hfz40_6); (obtain ⟨kq, x49_1, rfl, HA, HJ1, BK148, HB⟩ := hcut)
    cases kq with
    | zero => exact absurd HA.out (by simp [customsref17_Duty.j0])
    | succ kj1 =>
      have H := HA.out; clear HA; (simp only [customsref17_Duty.j0] at H); (by_cases c41 : x49_1 = true)
      · subst c41; (have H1 : (some 2) = some r := by rw [if_pos rfl] at H; exact H); clear H; have H := H1; clear H1; (obtain rfl := Option.some.inj H); go_wp2; go_ret; (exact ⟨by first | rfl | (simp [errW_none, errW_some] <;> rfl) | (simp [*, errW_none, errW_some] <;> rfl), by repeat (first | (with_reducible first | exact HB.out | apply below_alloc | apply pw_below_drewN | apply below_drew1 | refine below_set ?_ GE148.out) | exact HB.out)⟩)
      · (replace c41 := Bool.eq_false_iff.mpr c41); subst c41; (have H1 : (if a0_4 = 0 then (if a0_6 = 0 then (if a0_3 = true then (if a0_5 = true then (if a0_6 > a0_4 then (some 1) else (some 0)) else (some 0)) else (some 0)) else (if a0_5 = true then (if a0_3 = true then (if a0_6 > a0_4 then (some 1) else (some 0)) else (some 0)) else (some 1))) else (if a0_3 = true then (if a0_6 = 0 then (if a0_5 = true then (if a0_6 > a0_4 then (some 1) else (some 0)) else (some 0)) else (if a0_5 = true then (if a0_6 > a0_4 then (some 1) else (some 0)) else (some 1))) else (some 1))) = some r := by rw [if_neg (show ¬ (false = true) by decide)] at H; exact H); clear H; have H := H1; clear H1; (by_cases c42 : a0_4 = 0)
        · (rw [if_pos c42] at H); (have c42b0 : (a0_4 == 0) = true := beq_iff_eq.mpr c42); (have c42b1 : (a0_4 != 0) = false := bne_eq_false_iff_eq.mpr c42); clear c42; (by_cases c43 : a0_6 = 0)
          · (rw [if_pos c43] at H); (have c43b0 : (a0_6 == 0) = true := beq_iff_eq.mpr c43); (have c43b1 : (a0_6 != 0) = false := bne_eq_false_iff_eq.mpr c43); clear c43; (by_cases c44 : a0_3 = true)
            · subst c44; (have H1 : (if a0_5 = true then (if a0_6 > a0_4 then (some 1) else (some 0)) else (some 0)) = some r := by rw [if_pos rfl] at H; exact H); clear H; have H := H1; clear H1; (by_cases c45 : a0_5 = true)
              · subst c45; (have H1 : (if a0_6 > a0_4 then (some 1) else (some 0)) = some r := by rw [if_pos rfl] at H; exact H); clear H; have H := H1; clear H1; (by_cases c46 : a0_6 > a0_4)
                · (rw [if_pos c46] at H); (have c46b0 : decide (a0_4 < a0_6) = true := decide_eq_true c46); clear c46; (obtain rfl := Option.some.inj H); (have hcz47_0 : wc.cell? ⟨gb148, 0, none⟩ = some (.int .i64 a0_0) := (blk_cell BK148.out 0).trans rfl); (have hcz47_1 : wc.cell? ⟨gb148, 1, none⟩ = some (.int .i64 a0_1) := (blk_cell BK148.out 1).trans rfl); (have hcz47_2 : wc.cell? ⟨gb148, 2, none⟩ = some (.int .i64 a0_2) := (blk_cell BK148.out 2).trans rfl); (have hcz47_3 : wc.cell? ⟨gb148, 3, none⟩ = some (.bool true) := (blk_cell BK148.out 3).trans rfl); (have hcz47_4 : wc.cell? ⟨gb148, 4, none⟩ = some (.int .i64 a0_4) := (blk_cell BK148.out 4).trans rfl); (have hcz47_5 : wc.cell? ⟨gb148, 5, none⟩ = some (.bool true) := (blk_cell BK148.out 5).trans rfl); (have hcz47_6 : wc.cell? ⟨gb148, 6, none⟩ = some (.int .i64 a0_6) := (blk_cell BK148.out 6).trans rfl); (have hfz47_0 := blk_frozen BK148.out 0); (have hfz47_1 := blk_frozen BK148.out 1); (have hfz47_2 := blk_frozen BK148.out 2); (have hfz47_3 := blk_frozen BK148.out 3); (have hfz47_4 := blk_frozen BK148.out 4); (have hfz47_5 := blk_frozen BK148.out 5); (have hfz47_6 := blk_frozen BK148.out 6); go_wp2; go_ret; (exact ⟨by first | rfl | (simp [errW_none, errW_some] <;> rfl) | (simp [*, errW_none, errW_some] <;> rfl), by repeat (first | (with_reducible first | exact HB.out | apply below_alloc | apply pw_below_drewN | apply below_drew1 | refine below_set ?_ GE148.out) | exact HB.out)⟩)
                · (rw [if_neg c46] at H); (have c46b0 : decide (a0_4 < a0_6) = false := decide_eq_false c46); clear c46; (obtain rfl := Option.some.inj H); (have hcz48_0 : wc.cell? ⟨gb148, 0, none⟩ = some (.int .i64 a0_0) := (blk_cell BK148.out 0).trans rfl); (have hcz48_1 : wc.cell? ⟨gb148, 1, none⟩ = some (.int .i64 a0_1) := (blk_cell BK148.out 1).trans rfl); (have hcz48_2 : wc.cell? ⟨gb148, 2, none⟩ = some (.int .i64 a0_2) := (blk_cell BK148.out 2).trans rfl); (have hcz48_3 : wc.cell? ⟨gb148, 3, none⟩ = some (.bool true) := (blk_cell BK148.out 3).trans rfl); (have hcz48_4 : wc.cell? ⟨gb148, 4, none⟩ = some (.int .i64 a0_4) := (blk_cell BK148.out 4).trans rfl); (have hcz48_5 : wc.cell? ⟨gb148, 5, none⟩ = some (.bool true) := (blk_cell BK148.out 5).trans rfl); (have hcz48_6 : wc.cell? ⟨gb148, 6, none⟩ = some (.int .i64 a0_6) := (blk_cell BK148.out 6).trans rfl); (have hfz48_0 := blk_frozen BK148.out 0); (have hfz48_1 := blk_frozen BK148.out 1); (have hfz48_2 := blk_frozen BK148.out 2); (have hfz48_3 := blk_frozen BK148.out 3); (have hfz48_4 := blk_frozen BK148.out 4); (have hfz48_5 := blk_frozen BK148.out 5); (have hfz48_6 := blk_frozen BK148.out 6); go_wp2; go_ret; (exact ⟨by first | rfl | (simp [errW_none, errW_some] <;> rfl) | (simp [*, errW_none, errW_some] <;> rfl), by repeat (first | (with_reducible first | exact HB.out | apply below_alloc | apply pw_below_drewN | apply below_drew1 | refine below_set ?_ GE148.out) | exact HB.out)⟩)
              · (replace c45 := Bool.eq_false_iff.mpr c45); subst c45; (have H1 : (some 0) = some r := by rw [if_neg (show ¬ (false = true) by decide)] at H; exact H); clear H; have H := H1; clear H1; (obtain rfl := Option.some.inj H); (have hcz49_0 : wc.cell? ⟨gb148, 0, none⟩ = some (.int .i64 a0_0) := (blk_cell BK148.out 0).trans rfl); (have hcz49_1 : wc.cell? ⟨gb148, 1, none⟩ = some (.int .i64 a0_1) := (blk_cell BK148.out 1).trans rfl); (have hcz49_2 : wc.cell? ⟨gb148, 2, none⟩ = some (.int .i64 a0_2) := (blk_cell BK148.out 2).trans rfl); (have hcz49_3 : wc.cell? ⟨gb148, 3, none⟩ = some (.bool true) := (blk_cell BK148.out 3).trans rfl); (have hcz49_4 : wc.cell? ⟨gb148, 4, none⟩ = some (.int .i64 a0_4) := (blk_cell BK148.out 4).trans rfl); (have hcz49_5 : wc.cell? ⟨gb148, 5, none⟩ = some (.bool false) := (blk_cell BK148.out 5).trans rfl); (have hcz49_6 : wc.cell? ⟨gb148, 6, none⟩ = some (.int .i64 a0_6) := (blk_cell BK148.out 6).trans rfl); (have hfz49_0 := blk_frozen BK148.out 0); (have hfz49_1 := blk_frozen BK148.out 1); (have hfz49_2 := blk_frozen BK148.out 2); (have hfz49_3 := blk_frozen BK148.out 3); (have hfz49_4 := blk_frozen BK148.out 4); (have hfz49_5 := blk_frozen BK148.out 5); (have hfz49_6 := blk_frozen BK148.out 6); go_wp2; go_ret; (exact ⟨by first | rfl | (simp [errW_none, errW_some] <;> rfl) | (simp [*, errW_none, errW_some] <;> rfl), by repeat (first | (with_reducible first | exact HB.out | apply below_alloc | apply pw_below_drewN | apply below_drew1 | refine below_set ?_ GE148.out) | exact HB.out)⟩)
            · (replace c44 := Bool.eq_false_iff.mpr c44); subst c44; (have H1 : (some 0) = some r := by rw [if_neg (show ¬ (false = true) by decide)] at H; exact H); clear H; have H := H1; clear H1; (obtain rfl := Option.some.inj H); (have hcz50_0 : wc.cell? ⟨gb148, 0, none⟩ = some (.int .i64 a0_0) := (blk_cell BK148.out 0).trans rfl); (have hcz50_1 : wc.cell? ⟨gb148, 1, none⟩ = some (.int .i64 a0_1) := (blk_cell BK148.out 1).trans rfl); (have hcz50_2 : wc.cell? ⟨gb148, 2, none⟩ = some (.int .i64 a0_2) := (blk_cell BK148.out 2).trans rfl); (have hcz50_3 : wc.cell? ⟨gb148, 3, none⟩ = some (.bool false) := (blk_cell BK148.out 3).trans rfl); (have hcz50_4 : wc.cell? ⟨gb148, 4, none⟩ = some (.int .i64 a0_4) := (blk_cell BK148.out 4).trans rfl); (have hcz50_5 : wc.cell? ⟨gb148, 5, none⟩ = some (.bool a0_5) := (blk_cell BK148.out 5).trans rfl); (have hcz50_6 : wc.cell? ⟨gb148, 6, none⟩ = some (.int .i64 a0_6) := (blk_cell BK148.out 6).trans rfl); (have hfz50_0 := blk_frozen BK148.out 0); (have hfz50_1 := blk_frozen BK148.out 1); (have hfz50_2 := blk_frozen BK148.out 2); (have hfz50_3 := blk_frozen BK148.out 3); (have hfz50_4 := blk_frozen BK148.out 4); (have hfz50_5 := blk_frozen BK148.out 5); (have hfz50_6 := blk_frozen BK148.out 6); go_wp2; go_ret; (exact ⟨by first | rfl | (simp [errW_none, errW_some] <;> rfl) | (simp [*, errW_none, errW_some] <;> rfl), by repeat (first | (with_reducible first | exact HB.out | apply below_alloc | apply pw_below_drewN | apply below_drew1 | refine below_set ?_ GE148.out) | exact HB.out)⟩)
          · (rw [if_neg c43] at H); (have c43b0 : (a0_6 == 0) = false := beq_eq_false_iff_ne.mpr c43); (have c43b1 : (a0_6 != 0) = true := bne_iff_ne.mpr c43); (by_cases c51 : a0_5 = true)
            · subst c51; (have H1 : (if a0_3 = true then (if a0_6 > a0_4 then (some 1) else (some 0)) else (some 0)) = some r := by rw [if_pos rfl] at H; exact H); clear H; have H := H1; clear H1; (by_cases c52 : a0_3 = true)
              · subst c52; (have H1 : (if a0_6 > a0_4 then (some 1) else (some 0)) = some r := by rw [if_pos rfl] at H; exact H); clear H; have H := H1; clear H1; (by_cases c53 : a0_6 > a0_4)
                · (rw [if_pos c53] at H); (have c53b0 : decide (a0_4 < a0_6) = true := decide_eq_true c53); clear c53; (obtain rfl := Option.some.inj H); (have hcz54_0 : wc.cell? ⟨gb148, 0, none⟩ = some (.int .i64 a0_0) := (blk_cell BK148.out 0).trans rfl); (have hcz54_1 : wc.cell? ⟨gb148, 1, none⟩ = some (.int .i64 a0_1) := (blk_cell BK148.out 1).trans rfl); (have hcz54_2 : wc.cell? ⟨gb148, 2, none⟩ = some (.int .i64 a0_2) := (blk_cell BK148.out 2).trans rfl); (have hcz54_3 : wc.cell? ⟨gb148, 3, none⟩ = some (.bool true) := (blk_cell BK148.out 3).trans rfl); (have hcz54_4 : wc.cell? ⟨gb148, 4, none⟩ = some (.int .i64 a0_4) := (blk_cell BK148.out 4).trans rfl); (have hcz54_5 : wc.cell? ⟨gb148, 5, none⟩ = some (.bool true) := (blk_cell BK148.out 5).trans rfl); (have hcz54_6 : wc.cell? ⟨gb148, 6, none⟩ = some (.int .i64 a0_6) := (blk_cell BK148.out 6).trans rfl); (have hfz54_0 := blk_frozen BK148.out 0); (have hfz54_1 := blk_frozen BK148.out 1); (have hfz54_2 := blk_frozen BK148.out 2); (have hfz54_3 := blk_frozen BK148.out 3); (have hfz54_4 := blk_frozen BK148.out 4); (have hfz54_5 := blk_frozen BK148.out 5); (have hfz54_6 := blk_frozen BK148.out 6); go_wp2; go_ret; (exact ⟨by first | rfl | (simp [errW_none, errW_some] <;> rfl) | (simp [*, errW_none, errW_some] <;> rfl), by repeat (first | (with_reducible first | exact HB.out | apply below_alloc | apply pw_below_drewN | apply below_drew1 | refine below_set ?_ GE148.out) | exact HB.out)⟩)
                · (rw [if_neg c53] at H); (have c53b0 : decide (a0_4 < a0_6) = false := decide_eq_false c53); clear c53; (obtain rfl := Option.some.inj H); (have hcz55_0 : wc.cell? ⟨gb148, 0, none⟩ = some (.int .i64 a0_0) := (blk_cell BK148.out 0).trans rfl); (have hcz55_1 : wc.cell? ⟨gb148, 1, none⟩ = some (.int .i64 a0_1) := (blk_cell BK148.out 1).trans rfl); (have hcz55_2 : wc.cell? ⟨gb148, 2, none⟩ = some (.int .i64 a0_2) := (blk_cell BK148.out 2).trans rfl); (have hcz55_3 : wc.cell? ⟨gb148, 3, none⟩ = some (.bool true) := (blk_cell BK148.out 3).trans rfl); (have hcz55_4 : wc.cell? ⟨gb148, 4, none⟩ = some (.int .i64 a0_4) := (blk_cell BK148.out 4).trans rfl); (have hcz55_5 : wc.cell? ⟨gb148, 5, none⟩ = some (.bool true) := (blk_cell BK148.out 5).trans rfl); (have hcz55_6 : wc.cell? ⟨gb148, 6, none⟩ = some (.int .i64 a0_6) := (blk_cell BK148.out 6).trans rfl); (have hfz55_0 := blk_frozen BK148.out 0); (have hfz55_1 := blk_frozen BK148.out 1); (have hfz55_2 := blk_frozen BK148.out 2); (have hfz55_3 := blk_frozen BK148.out 3); (have hfz55_4 := blk_frozen BK148.out 4); (have hfz55_5 := blk_frozen BK148.out 5); (have hfz55_6 := blk_frozen BK148.out 6); go_wp2; go_ret; (exact ⟨by first | rfl | (simp [errW_none, errW_some] <;> rfl) | (simp [*, errW_none, errW_some] <;> rfl), by repeat (first | (with_reducible first | exact HB.out | apply below_alloc | apply pw_below_drewN | apply below_drew1 | refine below_set ?_ GE148.out) | exact HB.out)⟩)
              · (replace c52 := Bool.eq_false_iff.mpr c52); subst c52; (have H1 : (some 0) = some r := by rw [if_neg (show ¬ (false = true) by decide)] at H; exact H); clear H; have H := H1; clear H1; (obtain rfl := Option.some.inj H); (have hcz56_0 : wc.cell? ⟨gb148, 0, none⟩ = some (.int .i64 a0_0) := (blk_cell BK148.out 0).trans rfl); (have hcz56_1 : wc.cell? ⟨gb148, 1, none⟩ = some (.int .i64 a0_1) := (blk_cell BK148.out 1).trans rfl); (have hcz56_2 : wc.cell? ⟨gb148, 2, none⟩ = some (.int .i64 a0_2) := (blk_cell BK148.out 2).trans rfl); (have hcz56_3 : wc.cell? ⟨gb148, 3, none⟩ = some (.bool false) := (blk_cell BK148.out 3).trans rfl); (have hcz56_4 : wc.cell? ⟨gb148, 4, none⟩ = some (.int .i64 a0_4) := (blk_cell BK148.out 4).trans rfl); (have hcz56_5 : wc.cell? ⟨gb148, 5, none⟩ = some (.bool true) := (blk_cell BK148.out 5).trans rfl); (have hcz56_6 : wc.cell? ⟨gb148, 6, none⟩ = some (.int .i64 a0_6) := (blk_cell BK148.out 6).trans rfl); (have hfz56_0 := blk_frozen BK148.out 0); (have hfz56_1 := blk_frozen BK148.out 1); (have hfz56_2 := blk_frozen BK148.out 2); (have hfz56_3 := blk_frozen BK148.out 3); (have hfz56_4 := blk_frozen BK148.out 4); (have hfz56_5 := blk_frozen BK148.out 5); (have hfz56_6 := blk_frozen BK148.out 6); go_wp2; go_ret; (exact ⟨by first | rfl | (simp [errW_none, errW_some] <;> rfl) | (simp [*, errW_none, errW_some] <;> rfl), by repeat (first | (with_reducible first | exact HB.out | apply below_alloc | apply pw_below_drewN | apply below_drew1 | refine below_set ?_ GE148.out) | exact HB.out)⟩)
            · (replace c51 := Bool.eq_false_iff.mpr c51); subst c51; (have H1 : (some 1) = some r := by rw [if_neg (show ¬ (false = true) by decide)] at H; exact H); clear H; have H := H1; clear H1; (obtain rfl := Option.some.inj H); (have hcz57_0 : wc.cell? ⟨gb148, 0, none⟩ = some (.int .i64 a0_0) := (blk_cell BK148.out 0).trans rfl); (have hcz57_1 : wc.cell? ⟨gb148, 1, none⟩ = some (.int .i64 a0_1) := (blk_cell BK148.out 1).trans rfl); (have hcz57_2 : wc.cell? ⟨gb148, 2, none⟩ = some (.int .i64 a0_2) := (blk_cell BK148.out 2).trans rfl); (have hcz57_3 : wc.cell? ⟨gb148, 3, none⟩ = some (.bool a0_3) := (blk_cell BK148.out 3).trans rfl); (have hcz57_4 : wc.cell? ⟨gb148, 4, none⟩ = some (.int .i64 a0_4) := (blk_cell BK148.out 4).trans rfl); (have hcz57_5 : wc.cell? ⟨gb148, 5, none⟩ = some (.bool false) := (blk_cell BK148.out 5).trans rfl); (have hcz57_6 : wc.cell? ⟨gb148, 6, none⟩ = some (.int .i64 a0_6) := (blk_cell BK148.out 6).trans rfl); (have hfz57_0 := blk_frozen BK148.out 0); (have hfz57_1 := blk_frozen BK148.out 1); (have hfz57_2 := blk_frozen BK148.out 2); (have hfz57_3 := blk_frozen BK148.out 3); (have hfz57_4 := blk_frozen BK148.out 4); (have hfz57_5 := blk_frozen BK148.out 5); (have hfz57_6 := blk_frozen BK148.out 6); go_wp2; go_ret; (exact ⟨by first | rfl | (simp [errW_none, errW_some] <;> rfl) | (simp [*, errW_none, errW_some] <;> rfl), by repeat (first | (with_reducible first | exact HB.out | apply below_alloc | apply pw_below_drewN | apply below_drew1 | refine below_set ?_ GE148.out) | exact HB.out)⟩)
        · (rw [if_neg c42] at H); (have c42b0 : (a0_4 == 0) = false := beq_eq_false_iff_ne.mpr c42); (have c42b1 : (a0_4 != 0) = true := bne_iff_ne.mpr c42); (by_cases c58 : a0_3 = true)
          · subst c58; (have H1 : (if a0_6 = 0 then (if a0_5 = true then (if a0_6 > a0_4 then (some 1) else (some 0)) else (some 0)) else (if a0_5 = true then (if a0_6 > a0_4 then (some 1) else (some 0)) else (some 1))) = some r := by rw [if_pos rfl] at H; exact H); clear H; have H := H1; clear H1; (by_cases c59 : a0_6 = 0)
            · (rw [if_pos c59] at H); (have c59b0 : (a0_6 == 0) = true := beq_iff_eq.mpr c59); (have c59b1 : (a0_6 != 0) = false := bne_eq_false_iff_eq.mpr c59); clear c59; (by_cases c60 : a0_5 = true)
              · subst c60; (have H1 : (if a0_6 > a0_4 then (some 1) else (some 0)) = some r := by rw [if_pos rfl] at H; exact H); clear H; have H := H1; clear H1; (by_cases c61 : a0_6 > a0_4)
                · (rw [if_pos c61] at H); (have c61b0 : decide (a0_4 < a0_6) = true := decide_eq_true c61); clear c61; (obtain rfl := Option.some.inj H); (have hcz62_0 : wc.cell? ⟨gb148, 0, none⟩ = some (.int .i64 a0_0) := (blk_cell BK148.out 0).trans rfl); (have hcz62_1 : wc.cell? ⟨gb148, 1, none⟩ = some (.int .i64 a0_1) := (blk_cell BK148.out 1).trans rfl); (have hcz62_2 : wc.cell? ⟨gb148, 2, none⟩ = some (.int .i64 a0_2) := (blk_cell BK148.out 2).trans rfl); (have hcz62_3 : wc.cell? ⟨gb148, 3, none⟩ = some (.bool true) := (blk_cell BK148.out 3).trans rfl); (have hcz62_4 : wc.cell? ⟨gb148, 4, none⟩ = some (.int .i64 a0_4) := (blk_cell BK148.out 4).trans rfl); (have hcz62_5 : wc.cell? ⟨gb148, 5, none⟩ = some (.bool true) := (blk_cell BK148.out 5).trans rfl); (have hcz62_6 : wc.cell? ⟨gb148, 6, none⟩ = some (.int .i64 a0_6) := (blk_cell BK148.out 6).trans rfl); (have hfz62_0 := blk_frozen BK148.out 0); (have hfz62_1 := blk_frozen BK148.out 1); (have hfz62_2 := blk_frozen BK148.out 2); (have hfz62_3 := blk_frozen BK148.out 3); (have hfz62_4 := blk_frozen BK148.out 4); (have hfz62_5 := blk_frozen BK148.out 5); (have hfz62_6 := blk_frozen BK148.out 6); go_wp2; go_ret; (exact ⟨by first | rfl | (simp [errW_none, errW_some] <;> rfl) | (simp [*, errW_none, errW_some] <;> rfl), by repeat (first | (with_reducible first | exact HB.out | apply below_alloc | apply pw_below_drewN | apply below_drew1 | refine below_set ?_ GE148.out) | exact HB.out)⟩)
                · (rw [if_neg c61] at H); (have c61b0 : decide (a0_4 < a0_6) = false := decide_eq_false c61); clear c61; (obtain rfl := Option.some.inj H); (have hcz63_0 : wc.cell? ⟨gb148, 0, none⟩ = some (.int .i64 a0_0) := (blk_cell BK148.out 0).trans rfl); (have hcz63_1 : wc.cell? ⟨gb148, 1, none⟩ = some (.int .i64 a0_1) := (blk_cell BK148.out 1).trans rfl); (have hcz63_2 : wc.cell? ⟨gb148, 2, none⟩ = some (.int .i64 a0_2) := (blk_cell BK148.out 2).trans rfl); (have hcz63_3 : wc.cell? ⟨gb148, 3, none⟩ = some (.bool true) := (blk_cell BK148.out 3).trans rfl); (have hcz63_4 : wc.cell? ⟨gb148, 4, none⟩ = some (.int .i64 a0_4) := (blk_cell BK148.out 4).trans rfl); (have hcz63_5 : wc.cell? ⟨gb148, 5, none⟩ = some (.bool true) := (blk_cell BK148.out 5).trans rfl); (have hcz63_6 : wc.cell? ⟨gb148, 6, none⟩ = some (.int .i64 a0_6) := (blk_cell BK148.out 6).trans rfl); (have hfz63_0 := blk_frozen BK148.out 0); (have hfz63_1 := blk_frozen BK148.out 1); (have hfz63_2 := blk_frozen BK148.out 2); (have hfz63_3 := blk_frozen BK148.out 3); (have hfz63_4 := blk_frozen BK148.out 4); (have hfz63_5 := blk_frozen BK148.out 5); (have hfz63_6 := blk_frozen BK148.out 6); go_wp2; go_ret; (exact ⟨by first | rfl | (simp [errW_none, errW_some] <;> rfl) | (simp [*, errW_none, errW_some] <;> rfl), by repeat (first | (with_reducible first | exact HB.out | apply below_alloc | apply pw_below_drewN | apply below_drew1 | refine below_set ?_ GE148.out) | exact HB.out)⟩)
              · (replace c60 := Bool.eq_false_iff.mpr c60); subst c60; (have H1 : (some 0) = some r := by rw [if_neg (show ¬ (false = true) by decide)] at H; exact H); clear H; have H := H1; clear H1; (obtain rfl := Option.some.inj H); (have hcz64_0 : wc.cell? ⟨gb148, 0, none⟩ = some (.int .i64 a0_0) := (blk_cell BK148.out 0).trans rfl); (have hcz64_1 : wc.cell? ⟨gb148, 1, none⟩ = some (.int .i64 a0_1) := (blk_cell BK148.out 1).trans rfl); (have hcz64_2 : wc.cell? ⟨gb148, 2, none⟩ = some (.int .i64 a0_2) := (blk_cell BK148.out 2).trans rfl); (have hcz64_3 : wc.cell? ⟨gb148, 3, none⟩ = some (.bool true) := (blk_cell BK148.out 3).trans rfl); (have hcz64_4 : wc.cell? ⟨gb148, 4, none⟩ = some (.int .i64 a0_4) := (blk_cell BK148.out 4).trans rfl); (have hcz64_5 : wc.cell? ⟨gb148, 5, none⟩ = some (.bool false) := (blk_cell BK148.out 5).trans rfl); (have hcz64_6 : wc.cell? ⟨gb148, 6, none⟩ = some (.int .i64 a0_6) := (blk_cell BK148.out 6).trans rfl); (have hfz64_0 := blk_frozen BK148.out 0); (have hfz64_1 := blk_frozen BK148.out 1); (have hfz64_2 := blk_frozen BK148.out 2); (have hfz64_3 := blk_frozen BK148.out 3); (have hfz64_4 := blk_frozen BK148.out 4); (have hfz64_5 := blk_frozen BK148.out 5); (have hfz64_6 := blk_frozen BK148.out 6); go_wp2; go_ret; (exact ⟨by first | rfl | (simp [errW_none, errW_some] <;> rfl) | (simp [*, errW_none, errW_some] <;> rfl), by repeat (first | (with_reducible first | exact HB.out | apply below_alloc | apply pw_below_drewN | apply below_drew1 | refine below_set ?_ GE148.out) | exact HB.out)⟩)
            · (rw [if_neg c59] at H); (have c59b0 : (a0_6 == 0) = false := beq_eq_false_iff_ne.mpr c59); (have c59b1 : (a0_6 != 0) = true := bne_iff_ne.mpr c59); (by_cases c65 : a0_5 = true)
              · subst c65; (have H1 : (if a0_6 > a0_4 then (some 1) else (some 0)) = some r := by rw [if_pos rfl] at H; exact H); clear H; have H := H1; clear H1; (by_cases c66 : a0_6 > a0_4)
                · (rw [if_pos c66] at H); (have c66b0 : decide (a0_4 < a0_6) = true := decide_eq_true c66); clear c66; (obtain rfl := Option.some.inj H); (have hcz67_0 : wc.cell? ⟨gb148, 0, none⟩ = some (.int .i64 a0_0) := (blk_cell BK148.out 0).trans rfl); (have hcz67_1 : wc.cell? ⟨gb148, 1, none⟩ = some (.int .i64 a0_1) := (blk_cell BK148.out 1).trans rfl); (have hcz67_2 : wc.cell? ⟨gb148, 2, none⟩ = some (.int .i64 a0_2) := (blk_cell BK148.out 2).trans rfl); (have hcz67_3 : wc.cell? ⟨gb148, 3, none⟩ = some (.bool true) := (blk_cell BK148.out 3).trans rfl); (have hcz67_4 : wc.cell? ⟨gb148, 4, none⟩ = some (.int .i64 a0_4) := (blk_cell BK148.out 4).trans rfl); (have hcz67_5 : wc.cell? ⟨gb148, 5, none⟩ = some (.bool true) := (blk_cell BK148.out 5).trans rfl); (have hcz67_6 : wc.cell? ⟨gb148, 6, none⟩ = some (.int .i64 a0_6) := (blk_cell BK148.out 6).trans rfl); (have hfz67_0 := blk_frozen BK148.out 0); (have hfz67_1 := blk_frozen BK148.out 1); (have hfz67_2 := blk_frozen BK148.out 2); (have hfz67_3 := blk_frozen BK148.out 3); (have hfz67_4 := blk_frozen BK148.out 4); (have hfz67_5 := blk_frozen BK148.out 5); (have hfz67_6 := blk_frozen BK148.out 6); go_wp2; go_ret; (exact ⟨by first | rfl | (simp [errW_none, errW_some] <;> rfl) | (simp [*, errW_none, errW_some] <;> rfl), by repeat (first | (with_reducible first | exact HB.out | apply below_alloc | apply pw_below_drewN | apply below_drew1 | refine below_set ?_ GE148.out) | exact HB.out)⟩)
                · (rw [if_neg c66] at H); (have c66b0 : decide (a0_4 < a0_6) = false := decide_eq_false c66); clear c66; (obtain rfl := Option.some.inj H); (have hcz68_0 : wc.cell? ⟨gb148, 0, none⟩ = some (.int .i64 a0_0) := (blk_cell BK148.out 0).trans rfl); (have hcz68_1 : wc.cell? ⟨gb148, 1, none⟩ = some (.int .i64 a0_1) := (blk_cell BK148.out 1).trans rfl); (have hcz68_2 : wc.cell? ⟨gb148, 2, none⟩ = some (.int .i64 a0_2) := (blk_cell BK148.out 2).trans rfl); (have hcz68_3 : wc.cell? ⟨gb148, 3, none⟩ = some (.bool true) := (blk_cell BK148.out 3).trans rfl); (have hcz68_4 : wc.cell? ⟨gb148, 4, none⟩ = some (.int .i64 a0_4) := (blk_cell BK148.out 4).trans rfl); (have hcz68_5 : wc.cell? ⟨gb148, 5, none⟩ = some (.bool true) := (blk_cell BK148.out 5).trans rfl); (have hcz68_6 : wc.cell? ⟨gb148, 6, none⟩ = some (.int .i64 a0_6) := (blk_cell BK148.out 6).trans rfl); (have hfz68_0 := blk_frozen BK148.out 0); (have hfz68_1 := blk_frozen BK148.out 1); (have hfz68_2 := blk_frozen BK148.out 2); (have hfz68_3 := blk_frozen BK148.out 3); (have hfz68_4 := blk_frozen BK148.out 4); (have hfz68_5 := blk_frozen BK148.out 5); (have hfz68_6 := blk_frozen BK148.out 6); go_wp2; go_ret; (exact ⟨by first | rfl | (simp [errW_none, errW_some] <;> rfl) | (simp [*, errW_none, errW_some] <;> rfl), by repeat (first | (with_reducible first | exact HB.out | apply below_alloc | apply pw_below_drewN | apply below_drew1 | refine below_set ?_ GE148.out) | exact HB.out)⟩)
              · (replace c65 := Bool.eq_false_iff.mpr c65); subst c65; (have H1 : (some 1) = some r := by rw [if_neg (show ¬ (false = true) by decide)] at H; exact H); clear H; have H := H1; clear H1; (obtain rfl := Option.some.inj H); (have hcz69_0 : wc.cell? ⟨gb148, 0, none⟩ = some (.int .i64 a0_0) := (blk_cell BK148.out 0).trans rfl); (have hcz69_1 : wc.cell? ⟨gb148, 1, none⟩ = some (.int .i64 a0_1) := (blk_cell BK148.out 1).trans rfl); (have hcz69_2 : wc.cell? ⟨gb148, 2, none⟩ = some (.int .i64 a0_2) := (blk_cell BK148.out 2).trans rfl); (have hcz69_3 : wc.cell? ⟨gb148, 3, none⟩ = some (.bool true) := (blk_cell BK148.out 3).trans rfl); (have hcz69_4 : wc.cell? ⟨gb148, 4, none⟩ = some (.int .i64 a0_4) := (blk_cell BK148.out 4).trans rfl); (have hcz69_5 : wc.cell? ⟨gb148, 5, none⟩ = some (.bool false) := (blk_cell BK148.out 5).trans rfl); (have hcz69_6 : wc.cell? ⟨gb148, 6, none⟩ = some (.int .i64 a0_6) := (blk_cell BK148.out 6).trans rfl); (have hfz69_0 := blk_frozen BK148.out 0); (have hfz69_1 := blk_frozen BK148.out 1); (have hfz69_2 := blk_frozen BK148.out 2); (have hfz69_3 := blk_frozen BK148.out 3); (have hfz69_4 := blk_frozen BK148.out 4); (have hfz69_5 := blk_frozen BK148.out 5); (have hfz69_6 := blk_frozen BK148.out 6); go_wp2; go_ret; (exact ⟨by first | rfl | (simp [errW_none, errW_some] <;> rfl) | (simp [*, errW_none, errW_some] <;> rfl), by repeat (first | (with_reducible first | exact HB.out | apply below_alloc | apply pw_below_drewN | apply below_drew1 | refine below_set ?_ GE148.out) | exact HB.out)⟩)
          · (replace c58 := Bool.eq_false_iff.mpr c58); subst c58; (have H1 : (some 1) = some r := by rw [if_neg (show ¬ (false = true) by decide)] at H; exact H); clear H; have H := H1; clear H1; (obtain rfl := Option.some.inj H); (have hcz70_0 : wc.cell? ⟨gb148, 0, none⟩ = some (.int .i64 a0_0) := (blk_cell BK148.out 0).trans rfl); (have hcz70_1 : wc.cell? ⟨gb148, 1, none⟩ = some (.int .i64 a0_1) := (blk_cell BK148.out 1).trans rfl); (have hcz70_2 : wc.cell? ⟨gb148, 2, none⟩ = some (.int .i64 a0_2) := (blk_cell BK148.out 2).trans rfl); (have hcz70_3 : wc.cell? ⟨gb148, 3, none⟩ = some (.bool false) := (blk_cell BK148.out 3).trans rfl); (have hcz70_4 : wc.cell? ⟨gb148, 4, none⟩ = some (.int .i64 a0_4) := (blk_cell BK148.out 4).trans rfl); (have hcz70_5 : wc.cell? ⟨gb148, 5, none⟩ = some (.bool a0_5) := (blk_cell BK148.out 5).trans rfl); (have hcz70_6 : wc.cell? ⟨gb148, 6, none⟩ = some (.int .i64 a0_6) := (blk_cell BK148.out 6).trans rfl); (have hfz70_0 := blk_frozen BK148.out 0); (have hfz70_1 := blk_frozen BK148.out 1); (have hfz70_2 := blk_frozen BK148.out 2); (have hfz70_3 := blk_frozen BK148.out 3); (have hfz70_4 := blk_frozen BK148.out 4); (have hfz70_5 := blk_frozen BK148.out 5); (have hfz70_6 := blk_frozen BK148.out 6); go_wp2; go_ret; (exact ⟨by first | rfl | (simp [errW_none, errW_some] <;> rfl) | (simp [*, errW_none, errW_some] <;> rfl), by repeat (first | (with_reducible first | exact HB.out | apply below_alloc | apply pw_below_drewN | apply below_drew1 | refine below_set ?_ GE148.out) | exact HB.out)⟩)
end Go.Proofs.YtfpkgdkcllobiaaDoor.F
end
section
namespace Go.Proofs.YtfpkgdkcllobiaaDoor.F
open Go.RowKit Go.Proofs.YtfpkgdkcllobiaaDoorW.PrintWords Go.Proofs.YtfpkgdkcllobiaaDoorW.PrintLast Go.Proofs.YtfpkgdkcllobiaaDoorW.PrintMore
attribute [local go_sem] max2_int min2_int max_two min_two max_three min_three max_four min_four
set_option linter.unusedVariables false
set_option linter.unusedSimpArgs false
/-! ### customsref02_Digits: function 32 -/
def customsref02_Digits.l0 : Nat → Int → ByteArray → Option (ByteArray)
  | 0, _, _ => none
  | k + 1, x0, x3 => (some (([(wrap64 (48 + (Int.tmod x0 10))) % 256] : List Int) : List Int)).bind fun y296 => (if (strOfNums y296).size + x3.size ≤ 9223372036854775807 then (if (wrap64 (Int.tdiv x0 10)) = 0 then (some ((strOfNums y296) ++ x3)) else (customsref02_Digits.l0 k (wrap64 (Int.tdiv x0 10)) ((strOfNums y296) ++ x3))) else (none))
def customsref02_Digits.f (k : Nat) (a0 : Int) : Option (ByteArray) := customsref02_Digits.l0 k a0 (⟨#[]⟩ : ByteArray)
theorem customsref02_Digits.mono_l : ∀ k, (∀ y0 y1, LeO (customsref02_Digits.l0 k y0 y1) (customsref02_Digits.l0 (k + 1) y0 y1))
  | 0 => fun _ _ r h => by simp [customsref02_Digits.l0] at h
  | k + 1 => by
    have ih0 := customsref02_Digits.mono_l k
    · intro y0 y1
      unfold customsref02_Digits.l0
      repeat' first
      | (with_reducible exact ih0 _ _)
      | (with_reducible exact LeO.refl _)
      | (with_reducible exact LeO.none _)
      | (with_reducible refine LeO.ite ?_ ?_)
      | (with_reducible refine LeO.bind ?_ (fun _ => ?_))
      | exact ih0 _ _
      | exact LeO.none _
      | refine LeO.ite ?_ ?_
      | refine LeO.bind ?_ (fun _ => ?_)
theorem customsref02_Digits.mono : ∀ a0 k, LeO (customsref02_Digits.f k a0) (customsref02_Digits.f (k + 1) a0) := by
  intro a0 k; (have ih0 := customsref02_Digits.mono_l k); (unfold customsref02_Digits.f)
  repeat' first
      | (with_reducible exact ih0 _ _)
      | (with_reducible exact LeO.refl _)
      | (with_reducible exact LeO.none _)
      | (with_reducible refine LeO.ite ?_ ?_)
      | (with_reducible refine LeO.bind ?_ (fun _ => ?_))
      | exact ih0 _ _
      | exact LeO.none _
      | refine LeO.ite ?_ ?_
      | refine LeO.bind ?_ (fun _ => ?_)
set_option maxHeartbeats 8000000 in
set_option maxRecDepth 100000 in
theorem customsref02_Digits.calls (k : Nat) (a0 : Int) (r : ByteArray) (w : World) (h : customsref02_Digits.f k a0 = some r) :
    Calls Tryd.prog 32 #[.int .i64 a0] w fun e w' => e = .returned (.string r) ∧ Below w.heap.size w w' := by
  (have HB := Aside0.mk (Below.refl w.heap.size w)); (have H : (customsref02_Digits.l0 k a0 (⟨#[]⟩ : ByteArray)) = some r := h); clear h; have H' := Aside0.mk H; clear H; (go_enter Tryd.func32, Tryd.ntmps32); go_wp2; (go_loopg [0, 3] k (fun kq v0 v3 w' => ∃ (x0_1 : Int) (x3_1 : ByteArray), v0 = .int .i64 x0_1 ∧ v3 = .string x3_1 ∧ Aside0 (customsref02_Digits.l0 kq x0_1 x3_1 = some r) ∧ Aside0 (kq ≤ k) ∧ Aside0 (Below w.heap.size w w'))); (case atStart => exact ⟨(a0), ((⟨#[]⟩ : ByteArray)), (by first | rfl | (simp; done) | (simp [*]; done)), (by first | rfl | (simp; done) | (simp [*]; done)), H', ⟨Nat.le_refl _⟩, ⟨by repeat (first | (with_reducible first | exact HB.out | apply below_alloc | apply pw_below_drewN | apply below_drew1) | exact HB.out)⟩⟩)
  case round =>
    clear H'; (obtain ⟨x0_1, x3_1, rfl, rfl, HA, HK1, HB⟩ := hrel)
    cases gk with
    | zero => exact absurd HA.out (by simp [customsref02_Digits.l0])
    | succ k1 =>
      have H := HA.out; clear HA; (simp only [customsref02_Digits.l0] at H); (obtain ⟨y296, hy296⟩ : ∃ y_ : List Int, y_ = (([(wrap64 (48 + (Int.tmod x0_1 10))) % 256] : List Int)) := ⟨_, rfl⟩); (replace H : (if (strOfNums y296).size + x3_1.size ≤ 9223372036854775807 then (if (wrap64 (Int.tdiv x0_1 10)) = 0 then (some ((strOfNums y296) ++ x3_1)) else (customsref02_Digits.l0 k1 (wrap64 (Int.tdiv x0_1 10)) ((strOfNums y296) ++ x3_1))) else (none)) = some r := by first | (rw [hy296]; with_reducible exact H) | (have H2_ := (Option.bind_some _ _).symm.trans H; rw [hy296]; with_reducible exact H2_) | (have H2_ := (Option.bind_some _ _).symm.trans H; with_reducible exact H2_) | with_reducible exact H | (rw [hy296]; exact H) | exact H); have Ny296 := Aside0.mk hy296; clear hy296; (by_cases c2 : (strOfNums y296).size + x3_1.size ≤ 9223372036854775807)
      · (rw [if_pos c2] at H); (have c2b0 := eq_true c2); (have c2b1 : decide ((strOfNums y296).size + x3_1.size ≤ 9223372036854775807) = true := decide_eq_true c2); (try have c2b2 : (9223372036854775807 < (strOfNums y296).size + x3_1.size) = False := eq_false (Nat.not_lt.2 c2)); (by_cases c3 : (wrap64 (Int.tdiv x0_1 10)) = 0)
        · (rw [if_pos c3] at H); (have c3b0 : ((wrap64 (Int.tdiv x0_1 10)) == 0) = true := beq_iff_eq.mpr c3); (have c3b1 : ((wrap64 (Int.tdiv x0_1 10)) != 0) = false := bne_eq_false_iff_eq.mpr c3); clear c3; (obtain rfl := Option.some.inj H); (go_wp2_with (first | ((with_reducible refine gate_dst (N := 8) rfl ?_); refine Kd.R_lit (Kd.int .u8) _ 5 ?hg (N := 8) ?hd (xs := ([(wrap64 (48 + (Int.tmod x0_1 10))) % 256] : List Int)) (inner := [.int .u8 ((wrap64 (48 + (Int.tmod x0_1 10))) % 256)]) (ok := fun _ => True) (okp := fun _ => True) ?hr ?hp (fun _ hk => hk) trivial (Below.refl _ _) (Nat.le_refl _) (by simp) ?_; (case hd => rfl); (case hg => rfl); (case hr => first | (go_simp; done) | (go_simp; rfl)); (case hp => exact (Reps.one (show Kd.M (Kd.int .u8) _ _ _ ((wrap64 (48 + (Int.tmod x0_1 10))) % 256) [.int .u8 ((wrap64 (48 + (Int.tmod x0_1 10))) % 256)] from rfl) (Reps.none _ _))); intro v297 w4 ho5 hb hg_ hnew_; clear hg_ hnew_; (first | rw [← Ny296.out] at ho5 | (simp only [Int.reduceToNat] at ho5; rw [← Ny296.out] at ho5)); have n0_ := Aside0.mk (Kd.R_lower ho5 (below_size HB.out)); have n1_ := Aside0.mk (below_step HB.out hb); clear HB; have HO298 := n0_; have HB := n1_; clear n0_ n1_; clear hb ho5; have hcv6 := own_string (P := Tryd.prog) Tryd.underlying36 Tryd.underlying5 Tryd.underlying9 (Kd.own_of_R HO298.out)))); go_ret; (exact ⟨by first | rfl | (simp [errW_none, errW_some] <;> rfl) | (simp [*, errW_none, errW_some] <;> rfl), by repeat (first | (with_reducible first | exact HB.out | apply below_alloc | apply pw_below_drewN | apply below_drew1) | exact HB.out)⟩)
        · (rw [if_neg c3] at H); (have c3b0 : ((wrap64 (Int.tdiv x0_1 10)) == 0) = false := beq_eq_false_iff_ne.mpr c3); (have c3b1 : ((wrap64 (Int.tdiv x0_1 10)) != 0) = true := bne_iff_ne.mpr c3); have H' := Aside0.mk H; clear H; (go_wp2_with (first | ((with_reducible refine gate_dst (N := 8) rfl ?_); refine Kd.R_lit (Kd.int .u8) _ 5 ?hg (N := 8) ?hd (xs := ([(wrap64 (48 + (Int.tmod x0_1 10))) % 256] : List Int)) (inner := [.int .u8 ((wrap64 (48 + (Int.tmod x0_1 10))) % 256)]) (ok := fun _ => True) (okp := fun _ => True) ?hr ?hp (fun _ hk => hk) trivial (Below.refl _ _) (Nat.le_refl _) (by simp) ?_; (case hd => rfl); (case hg => rfl); (case hr => first | (go_simp; done) | (go_simp; rfl)); (case hp => exact (Reps.one (show Kd.M (Kd.int .u8) _ _ _ ((wrap64 (48 + (Int.tmod x0_1 10))) % 256) [.int .u8 ((wrap64 (48 + (Int.tmod x0_1 10))) % 256)] from rfl) (Reps.none _ _))); intro v297 w7 ho8 hb hg_ hnew_; clear hg_ hnew_; (first | rw [← Ny296.out] at ho8 | (simp only [Int.reduceToNat] at ho8; rw [← Ny296.out] at ho8)); have n0_ := Aside0.mk (Kd.R_lower ho8 (below_size HB.out)); have n1_ := Aside0.mk (below_step HB.out hb); clear HB; have HO298 := n0_; have HB := n1_; clear n0_ n1_; clear hb ho8; have hcv9 := own_string (P := Tryd.prog) Tryd.underlying36 Tryd.underlying5 Tryd.underlying9 (Kd.own_of_R HO298.out)))); (go_roundg k1); (case measure => have := HK1.out; omega); (case rel => exact ⟨(wrap64 (Int.tdiv x0_1 10)), ((strOfNums y296) ++ x3_1), (by first | rfl | (simp; done) | (simp [*]; done)), (by first | rfl | (simp; done) | (simp [*]; done)), H', ⟨by have := HK1.out; omega⟩, ⟨by repeat (first | (with_reducible first | exact HB.out | apply below_alloc | apply pw_below_drewN | apply below_drew1) | exact HB.out)⟩⟩)
      · (rw [if_neg c2] at H); (exact absurd H (by simp))
/-! ### customsref12_Percent: function 30 -/
def customsref12_Percent.l0 : Nat → ByteArray → Int → Int → Option (ByteArray)
  | 0, _, _, _ => none
  | k + 1, x3, x4, x5 => if x4 > 0 then (if x5 = 0 then (none) else ((customsref02_Digits.f k (wrap64 (Int.tdiv x4 x5))).bind fun t300 => (if x3.size + t300.size ≤ 9223372036854775807 then (customsref12_Percent.l0 k (x3 ++ t300) (Int.tmod x4 x5) (wrap64 (Int.tdiv x5 10))) else (none)))) else (if x3.size + 1 ≤ 9223372036854775807 then (some (x3 ++ (⟨#[37]⟩ : ByteArray))) else (none))
def customsref12_Percent.f (k : Nat) (a0 : Int) : Option (ByteArray) := (customsref02_Digits.f k (wrap64 (Int.tdiv a0 10000))).bind fun t299 => (if (Int.tmod a0 10000) > 0 then (if t299.size + 1 ≤ 9223372036854775807 then (customsref12_Percent.l0 k (t299 ++ (⟨#[46]⟩ : ByteArray)) (Int.tmod a0 10000) 1000) else (none)) else (if t299.size + 1 ≤ 9223372036854775807 then (some (t299 ++ (⟨#[37]⟩ : ByteArray))) else (none)))
theorem customsref12_Percent.mono_l : ∀ k, (∀ y0 y1 y2, LeO (customsref12_Percent.l0 k y0 y1 y2) (customsref12_Percent.l0 (k + 1) y0 y1 y2))
  | 0 => fun _ _ _ r h => by simp [customsref12_Percent.l0] at h
  | k + 1 => by
    have ih0 := customsref12_Percent.mono_l k
    · intro y0 y1 y2
      unfold customsref12_Percent.l0
      repeat' first
      | (with_reducible exact ih0 _ _ _)
      | (with_reducible exact customsref02_Digits.mono _ _)
      | (with_reducible exact LeO.refl _)
      | (with_reducible exact LeO.none _)
      | (with_reducible refine LeO.ite ?_ ?_)
      | (with_reducible refine LeO.bind ?_ (fun _ => ?_))
      | exact ih0 _ _ _
      | exact customsref02_Digits.mono _ _
      | exact LeO.none _
      | refine LeO.ite ?_ ?_
      | refine LeO.bind ?_ (fun _ => ?_)
theorem customsref12_Percent.mono : ∀ a0 k, LeO (customsref12_Percent.f k a0) (customsref12_Percent.f (k + 1) a0) := by
  intro a0 k; (have ih0 := customsref12_Percent.mono_l k); (unfold customsref12_Percent.f)
  repeat' first
      | (with_reducible exact ih0 _ _ _)
      | (with_reducible exact customsref02_Digits.mono _ _)
      | (with_reducible exact LeO.refl _)
      | (with_reducible exact LeO.none _)
      | (with_reducible refine LeO.ite ?_ ?_)
      | (with_reducible refine LeO.bind ?_ (fun _ => ?_))
      | exact ih0 _ _ _
      | exact customsref02_Digits.mono _ _
      | exact LeO.none _
      | refine LeO.ite ?_ ?_
      | refine LeO.bind ?_ (fun _ => ?_)
set_option maxHeartbeats 8000000 in
set_option maxRecDepth 100000 in
theorem customsref12_Percent.calls (k : Nat) (a0 : Int) (r : ByteArray) (w : World) (h : customsref12_Percent.f k a0 = some r) :
    Calls Tryd.prog 30 #[.int .i64 a0] w fun e w' => e = .returned (.string r) ∧ Below w.heap.size w w' := by
  (have HB := Aside0.mk (Below.refl w.heap.size w)); (have H : ((customsref02_Digits.f k (wrap64 (Int.tdiv a0 10000))).bind fun t299 => (if (Int.tmod a0 10000) > 0 then (if t299.size + 1 ≤ 9223372036854775807 then (customsref12_Percent.l0 k (t299 ++ (⟨#[46]⟩ : ByteArray)) (Int.tmod a0 10000) 1000) else (none)) else (if t299.size + 1 ≤ 9223372036854775807 then (some (t299 ++ (⟨#[37]⟩ : ByteArray))) else (none)))) = some r := h); clear h; (replace H := Option.bind_eq_some_iff.mp H); (obtain ⟨t299, A20, H⟩ := H); (replace H : (if (Int.tmod a0 10000) > 0 then (if t299.size + 1 ≤ 9223372036854775807 then (customsref12_Percent.l0 k (t299 ++ (⟨#[46]⟩ : ByteArray)) (Int.tmod a0 10000) 1000) else (none)) else (if t299.size + 1 ≤ 9223372036854775807 then (some (t299 ++ (⟨#[37]⟩ : ByteArray))) else (none))) = some r := H); have A2 := Aside0.mk A20; clear A20; (by_cases c3 : (Int.tmod a0 10000) > 0)
  · (rw [if_pos c3] at H); (have c3b0 : decide (0 < (Int.tmod a0 10000)) = true := decide_eq_true c3); clear c3; (by_cases c4 : t299.size + 1 ≤ 9223372036854775807)
    · (rw [if_pos c4] at H); (have c4b0 := eq_true c4); (have c4b1 : decide (t299.size + 1 ≤ 9223372036854775807) = true := decide_eq_true c4); (try have c4b2 : (9223372036854775807 < t299.size + 1) = False := eq_false (Nat.not_lt.2 c4)); have H' := Aside0.mk H; clear H; (go_enter Tryd.func30, Tryd.ntmps30); (go_wp2_with (first | ((with_reducible refine gate_callee (f := 32) rfl ?_); refine goesL_ (some 8) rfl rfl Tryd.func32 (by kernel_rfl) rfl #[.int .i64 (wrap64 (Int.tdiv a0 10000))] rfl (by (try simp only [List.map_toArray, List.map_cons, List.map_nil]); first | done | rfl | (simp only [List.length_drop, List.length_take]; rfl)) ?_; (with_reducible refine (customsref02_Digits.calls k (wrap64 (Int.tdiv a0 10000)) t299 _ A2.out).mono ?_); rintro e w5 ⟨rfl, hb⟩; refine ⟨_, rfl, ?_⟩; have n0_ := Aside0.mk (below_step HB.out hb); clear HB; have HB := n0_; clear n0_; (try clear hb); (try clear hb2); (try clear hk); (try clear hi)))); (go_loopg [3, 4, 5] k (fun kq v3 v4 v5 w' => ∃ (x3_1 : ByteArray) (x4_1 : Int) (x5_1 : Int), v3 = .string x3_1 ∧ v4 = .int .i64 x4_1 ∧ v5 = .int .i64 x5_1 ∧ Aside0 (customsref12_Percent.l0 kq x3_1 x4_1 x5_1 = some r) ∧ Aside0 (kq ≤ k) ∧ Aside0 (Below w.heap.size w w'))); (case atStart => exact ⟨(t299 ++ (⟨#[46]⟩ : ByteArray)), (Int.tmod a0 10000), (1000), (by first | rfl | (simp; done) | (simp [*]; done)), (by first | rfl | (simp; done) | (simp [*]; done)), (by first | rfl | (simp; done) | (simp [*]; done)), H', ⟨Nat.le_refl _⟩, ⟨by repeat (first | (with_reducible first | exact HB.out | apply below_alloc | apply pw_below_drewN | apply below_drew1) | exact HB.out)⟩⟩)
      case round =>
        clear H'; (try clear p2); (try clear c3); (try clear c3b0); (try clear c4); (try clear c4b0); (try clear c4b1); (try clear c4b2); (obtain ⟨x3_1, x4_1, x5_1, rfl, rfl, rfl, HA, HK1, HB⟩ := hrel)
        cases gk with
        | zero => exact absurd HA.out (by simp [customsref12_Percent.l0])
        | succ k1 =>
          have H := HA.out; clear HA; (simp only [customsref12_Percent.l0] at H); (by_cases c6 : x4_1 > 0)
          · (rw [if_pos c6] at H); (have c6b0 : decide (0 < x4_1) = true := decide_eq_true c6); clear c6; (by_cases c7 : x5_1 = 0)
            · (rw [if_pos c7] at H); (exact absurd H (by simp))
            · (rw [if_neg c7] at H); (have c7b0 : (x5_1 == 0) = false := beq_eq_false_iff_ne.mpr c7); (have c7b1 : (x5_1 != 0) = true := bne_iff_ne.mpr c7); (replace H := Option.bind_eq_some_iff.mp H); (obtain ⟨t300, A80, H⟩ := H); (replace H : (if x3_1.size + t300.size ≤ 9223372036854775807 then (customsref12_Percent.l0 k1 (x3_1 ++ t300) (Int.tmod x4_1 x5_1) (wrap64 (Int.tdiv x5_1 10))) else (none)) = some r := H); have A8 := Aside0.mk A80; clear A80; (by_cases c9 : x3_1.size + t300.size ≤ 9223372036854775807)
              · (rw [if_pos c9] at H); (have c9b0 := eq_true c9); (have c9b1 : decide (x3_1.size + t300.size ≤ 9223372036854775807) = true := decide_eq_true c9); (try have c9b2 : (9223372036854775807 < x3_1.size + t300.size) = False := eq_false (Nat.not_lt.2 c9)); have H' := Aside0.mk H; clear H; (go_wp2_with (first | ((with_reducible refine gate_callee (f := 32) rfl ?_); refine goesL_ (some 23) rfl rfl Tryd.func32 (by kernel_rfl) rfl #[.int .i64 (wrap64 (Int.tdiv x4_1 x5_1))] rfl (by (try simp only [List.map_toArray, List.map_cons, List.map_nil]); first | done | rfl | (simp only [List.length_drop, List.length_take]; rfl)) ?_; (with_reducible refine (customsref02_Digits.calls k1 (wrap64 (Int.tdiv x4_1 x5_1)) t300 _ A8.out).mono ?_); rintro e w10 ⟨rfl, hb⟩; refine ⟨_, rfl, ?_⟩; have n0_ := Aside0.mk (below_step HB.out hb); clear HB; have HB := n0_; clear n0_; (try clear hb); (try clear hb2); (try clear hk); (try clear hi)))); (go_roundg k1); (case measure => have := HK1.out; omega); (case rel => exact ⟨(x3_1 ++ t300), (Int.tmod x4_1 x5_1), (wrap64 (Int.tdiv x5_1 10)), (by first | rfl | (simp; done) | (simp [*]; done)), (by first | rfl | (simp; done) | (simp [*]; done)), (by first | rfl | (simp; done) | (simp [*]; done)), H', ⟨by have := HK1.out; omega⟩, ⟨by repeat (first | (with_reducible first | exact HB.out | apply below_alloc | apply pw_below_drewN | apply below_drew1) | exact HB.out)⟩⟩)
              · (rw [if_neg c9] at H); (exact absurd H (by simp))
          · (rw [if_neg c6] at H); (have c6b0 : decide (0 < x4_1) = false := decide_eq_false c6); clear c6; (by_cases c11 : x3_1.size + 1 ≤ 9223372036854775807)
            · (rw [if_pos c11] at H); (have c11b0 := eq_true c11); (have c11b1 : decide (x3_1.size + 1 ≤ 9223372036854775807) = true := decide_eq_true c11); (try have c11b2 : (9223372036854775807 < x3_1.size + 1) = False := eq_false (Nat.not_lt.2 c11)); (obtain rfl := Option.some.inj H); go_wp2; go_ret; (exact ⟨by first | rfl | (simp [errW_none, errW_some] <;> rfl) | (simp [*, errW_none, errW_some] <;> rfl), by repeat (first | (with_reducible first | exact HB.out | apply below_alloc | apply pw_below_drewN | apply below_drew1) | exact HB.out)⟩)
            · (rw [if_neg c11] at H); (exact absurd H (by simp))
    · (rw [if_neg c4] at H); (exact absurd H (by simp))
  · (rw [if_neg c3] at H); (have c3b0 : decide (0 < (Int.tmod a0 10000)) = false := decide_eq_false c3); clear c3; (by_cases c12 : t299.size + 1 ≤ 9223372036854775807)
    · (rw [if_pos c12] at H); (have c12b0 := eq_true c12); (have c12b1 : decide (t299.size + 1 ≤ 9223372036854775807) = true := decide_eq_true c12); (try have c12b2 : (9223372036854775807 < t299.size + 1) = False := eq_false (Nat.not_lt.2 c12)); (obtain rfl := Option.some.inj H); (go_enter Tryd.func30, Tryd.ntmps30); (go_wp2_with (first | ((with_reducible refine gate_callee (f := 32) rfl ?_); refine goesL_ (some 8) rfl rfl Tryd.func32 (by kernel_rfl) rfl #[.int .i64 (wrap64 (Int.tdiv a0 10000))] rfl (by (try simp only [List.map_toArray, List.map_cons, List.map_nil]); first | done | rfl | (simp only [List.length_drop, List.length_take]; rfl)) ?_; (with_reducible refine (customsref02_Digits.calls k (wrap64 (Int.tdiv a0 10000)) t299 _ A2.out).mono ?_); rintro e w13 ⟨rfl, hb⟩; refine ⟨_, rfl, ?_⟩; have n0_ := Aside0.mk (below_step HB.out hb); clear HB; have HB := n0_; clear n0_; (try clear hb); (try clear hb2); (try clear hk); (try clear hi)))); go_ret; (exact ⟨by first | rfl | (simp [errW_none, errW_some] <;> rfl) | (simp [*, errW_none, errW_some] <;> rfl), by repeat (first | (with_reducible first | exact HB.out | apply below_alloc | apply pw_below_drewN | apply below_drew1) | exact HB.out)⟩)
    · (rw [if_neg c12] at H); (exact absurd H (by simp))
/-! ### customsref02_Amount: function 55 -/
def customsref02_Amount.f (a0 : Int) : Option (Bool) := if a0 ≥ (-1000000000000) then (some (decide (a0 ≤ 1000000000000))) else (some false)
set_option maxHeartbeats 8000000 in
set_option maxRecDepth 100000 in
theorem customsref02_Amount.calls (a0 : Int) (r : Bool) (w : World) (h : customsref02_Amount.f a0 = some r) :
    Calls Tryd.prog 55 #[.int .i64 a0] w fun e w' => e = .returned (.bool r) ∧ Drawn0 w w' := by
  (have H : (if a0 ≥ (-1000000000000) then (some (decide (a0 ≤ 1000000000000))) else (some false)) = some r := h); clear h; (by_cases c2 : a0 ≥ (-1000000000000))
  · (rw [if_pos c2] at H); (have c2b0 : decide ((-1000000000000) ≤ a0) = true := decide_eq_true c2); clear c2; (obtain rfl := Option.some.inj H); (go_enter Tryd.func55, Tryd.ntmps55); go_wp2; go_ret; (exact ⟨by first | rfl | (simp; done) | (simp [*]; done), by repeat (first | exact Drawn0.refl _ | apply Drawn0.step)⟩)
  · (rw [if_neg c2] at H); (have c2b0 : decide ((-1000000000000) ≤ a0) = false := decide_eq_false c2); clear c2; (obtain rfl := Option.some.inj H); (go_enter Tryd.func55, Tryd.ntmps55); go_wp2; go_ret; (exact ⟨by first | rfl | (simp; done) | (simp [*]; done), by repeat (first | exact Drawn0.refl _ | apply Drawn0.step)⟩)
/-! ### customsref02_Format: function 31 -/
def customsref02_Format.f : Nat → Int → Option (ByteArray)
  | 0, _ => none
  | k + 1, a0 => (customsref02_Amount.f a0).bind fun t301 => (if t301 = true then (if a0 < 0 then ((customsref02_Format.f k (wrap64 (-a0))).bind fun t302 => (if 1 + t302.size ≤ 9223372036854775807 then (some ((⟨#[45]⟩ : ByteArray) ++ t302)) else (none))) else ((customsref02_Digits.f k (wrap64 (Int.tdiv a0 100))).bind fun t303 => (if t303.size + 1 ≤ 9223372036854775807 then ((customsref02_Digits.f k (Int.tmod (wrap64 (Int.tdiv a0 10)) 10)).bind fun t304 => (if t303.size + 1 + t304.size ≤ 9223372036854775807 then ((customsref02_Digits.f k (Int.tmod a0 10)).bind fun t305 => (if t303.size + 1 + t304.size + t305.size ≤ 9223372036854775807 then (some (((t303 ++ (⟨#[46]⟩ : ByteArray)) ++ t304) ++ t305)) else (none))) else (none))) else (none)))) else (some (⟨#[]⟩ : ByteArray)))
theorem customsref02_Format.mono_l : ∀ k, (∀ y0, LeO (customsref02_Format.f k y0) (customsref02_Format.f (k + 1) y0))
  | 0 => fun _ r h => by simp [customsref02_Format.f] at h
  | k + 1 => by
    have ih0 := customsref02_Format.mono_l k
    · intro y0
      unfold customsref02_Format.f
      repeat' first
      | (with_reducible exact ih0 _)
      | (with_reducible exact customsref02_Digits.mono _ _)
      | (with_reducible exact LeO.refl _)
      | (with_reducible exact LeO.none _)
      | (with_reducible refine LeO.ite ?_ ?_)
      | (with_reducible refine LeO.bind ?_ (fun _ => ?_))
      | exact ih0 _
      | exact customsref02_Digits.mono _ _
      | exact LeO.none _
      | refine LeO.ite ?_ ?_
      | refine LeO.bind ?_ (fun _ => ?_)
theorem customsref02_Format.mono : ∀ a0 k, LeO (customsref02_Format.f k a0) (customsref02_Format.f (k + 1) a0) := by
  intro a0 k; (have ih0 := customsref02_Format.mono_l k); (exact ih0 a0)
set_option maxHeartbeats 8000000 in
set_option maxRecDepth 100000 in
theorem customsref02_Format.calls (k : Nat) : ∀ (a0 : Int) (r : ByteArray) (w : World) (h : customsref02_Format.f k a0 = some r),
    Calls Tryd.prog 31 #[.int .i64 a0] w fun e w' => e = .returned (.string r) ∧ Below w.heap.size w w' := by
  induction k using Nat.strongRecOn with
  | _ k ih =>
  intro a0 r w h
  cases k with
  | zero => exact absurd h (by simp [customsref02_Format.f])
  | succ k =>
  (simp only [customsref02_Format.f] at h); (have HB := Aside0.mk (Below.refl w.heap.size w)); (have H : ((customsref02_Amount.f a0).bind fun t301 => (if t301 = true then (if a0 < 0 then ((customsref02_Format.f k (wrap64 (-a0))).bind fun t302 => (if 1 + t302.size ≤ 9223372036854775807 then (some ((⟨#[45]⟩ : ByteArray) ++ t302)) else (none))) else ((customsref02_Digits.f k (wrap64 (Int.tdiv a0 100))).bind fun t303 => (if t303.size + 1 ≤ 9223372036854775807 then ((customsref02_Digits.f k (Int.tmod (wrap64 (Int.tdiv a0 10)) 10)).bind fun t304 => (if t303.size + 1 + t304.size ≤ 9223372036854775807 then ((customsref02_Digits.f k (Int.tmod a0 10)).bind fun t305 => (if t303.size + 1 + t304.size + t305.size ≤ 9223372036854775807 then (some (((t303 ++ (⟨#[46]⟩ : ByteArray)) ++ t304) ++ t305)) else (none))) else (none))) else (none)))) else (some (⟨#[]⟩ : ByteArray)))) = some r := h); clear h; (replace H := Option.bind_eq_some_iff.mp H); (obtain ⟨t301, A20, H⟩ := H); (replace H : (if t301 = true then (if a0 < 0 then ((customsref02_Format.f k (wrap64 (-a0))).bind fun t302 => (if 1 + t302.size ≤ 9223372036854775807 then (some ((⟨#[45]⟩ : ByteArray) ++ t302)) else (none))) else ((customsref02_Digits.f k (wrap64 (Int.tdiv a0 100))).bind fun t303 => (if t303.size + 1 ≤ 9223372036854775807 then ((customsref02_Digits.f k (Int.tmod (wrap64 (Int.tdiv a0 10)) 10)).bind fun t304 => (if t303.size + 1 + t304.size ≤ 9223372036854775807 then ((customsref02_Digits.f k (Int.tmod a0 10)).bind fun t305 => (if t303.size + 1 + t304.size + t305.size ≤ 9223372036854775807 then (some (((t303 ++ (⟨#[46]⟩ : ByteArray)) ++ t304) ++ t305)) else (none))) else (none))) else (none)))) else (some (⟨#[]⟩ : ByteArray))) = some r := H); have A2 := Aside0.mk A20; clear A20; (by_cases c3 : t301 = true)
  · subst c3; (have H1 : (if a0 < 0 then ((customsref02_Format.f k (wrap64 (-a0))).bind fun t302 => (if 1 + t302.size ≤ 9223372036854775807 then (some ((⟨#[45]⟩ : ByteArray) ++ t302)) else (none))) else ((customsref02_Digits.f k (wrap64 (Int.tdiv a0 100))).bind fun t303 => (if t303.size + 1 ≤ 9223372036854775807 then ((customsref02_Digits.f k (Int.tmod (wrap64 (Int.tdiv a0 10)) 10)).bind fun t304 => (if t303.size + 1 + t304.size ≤ 9223372036854775807 then ((customsref02_Digits.f k (Int.tmod a0 10)).bind fun t305 => (if t303.size + 1 + t304.size + t305.size ≤ 9223372036854775807 then (some (((t303 ++ (⟨#[46]⟩ : ByteArray)) ++ t304) ++ t305)) else (none))) else (none))) else (none)))) = some r := by rw [if_pos rfl] at H; exact H); clear H; have H := H1; clear H1; (by_cases c4 : a0 < 0)
    · (rw [if_pos c4] at H); (have c4b0 : decide (a0 < 0) = true := decide_eq_true c4); clear c4; (replace H := Option.bind_eq_some_iff.mp H); (obtain ⟨t302, A50, H⟩ := H); (replace H : (if 1 + t302.size ≤ 9223372036854775807 then (some ((⟨#[45]⟩ : ByteArray) ++ t302)) else (none)) = some r := H); have A5 := Aside0.mk A50; clear A50; (by_cases c6 : 1 + t302.size ≤ 9223372036854775807)
      · (rw [if_pos c6] at H); (have c6b0 := eq_true c6); (have c6b1 : decide (1 + t302.size ≤ 9223372036854775807) = true := decide_eq_true c6); (try have c6b2 : (9223372036854775807 < 1 + t302.size) = False := eq_false (Nat.not_lt.2 c6)); (obtain rfl := Option.some.inj H); (go_enter Tryd.func31, Tryd.ntmps31); (go_wp2_with (first | ((with_reducible refine gate_callee (f := 55) rfl ?_); refine goesL_ (some 4) rfl rfl Tryd.func55 (by kernel_rfl) rfl #[.int .i64 a0] rfl (by (try simp only [List.map_toArray, List.map_cons, List.map_nil]); first | done | rfl | (simp only [List.length_drop, List.length_take]; rfl)) ?_; (with_reducible refine (customsref02_Amount.calls a0 true _ A2.out).mono ?_); rintro e w' ⟨rfl, ⟨nd, rfl⟩⟩; refine ⟨_, rfl, ?_⟩) | ((with_reducible refine gate_callee (f := 31) rfl ?_); refine goesL_ (some 10) rfl rfl Tryd.func31 (by kernel_rfl) rfl #[.int .i64 (wrap64 (-a0))] rfl (by (try simp only [List.map_toArray, List.map_cons, List.map_nil]); first | done | rfl | (simp only [List.length_drop, List.length_take]; rfl)) ?_; (with_reducible refine (ih k (by omega) (wrap64 (-a0)) t302 _ A5.out).mono ?_); rintro e w7 ⟨rfl, hb⟩; refine ⟨_, rfl, ?_⟩; have n0_ := Aside0.mk (below_step (by repeat (first | (with_reducible first | exact HB.out | apply below_alloc | apply pw_below_drewN | apply below_drew1) | exact HB.out)) hb); clear HB; have HB := n0_; clear n0_; (try clear hb); (try clear hb2); (try clear hk); (try clear hi)))); go_ret; (exact ⟨by first | rfl | (simp [errW_none, errW_some] <;> rfl) | (simp [*, errW_none, errW_some] <;> rfl), by repeat (first | (with_reducible first | exact HB.out | apply below_alloc | apply pw_below_drewN | apply below_drew1) | exact HB.out)⟩)
      · (rw [if_neg c6] at H); (exact absurd H (by simp))
    · (rw [if_neg c4] at H); (have c4b0 : decide (a0 < 0) = false := decide_eq_false c4); clear c4; (replace H := Option.bind_eq_some_iff.mp H); (obtain ⟨t303, A80, H⟩ := H); (replace H : (if t303.size + 1 ≤ 9223372036854775807 then ((customsref02_Digits.f k (Int.tmod (wrap64 (Int.tdiv a0 10)) 10)).bind fun t304 => (if t303.size + 1 + t304.size ≤ 9223372036854775807 then ((customsref02_Digits.f k (Int.tmod a0 10)).bind fun t305 => (if t303.size + 1 + t304.size + t305.size ≤ 9223372036854775807 then (some (((t303 ++ (⟨#[46]⟩ : ByteArray)) ++ t304) ++ t305)) else (none))) else (none))) else (none)) = some r := H); have A8 := Aside0.mk A80; clear A80; (by_cases c9 : t303.size + 1 ≤ 9223372036854775807)
      · (rw [if_pos c9] at H); (have c9b0 := eq_true c9); (have c9b1 : decide (t303.size + 1 ≤ 9223372036854775807) = true := decide_eq_true c9); (try have c9b2 : (9223372036854775807 < t303.size + 1) = False := eq_false (Nat.not_lt.2 c9)); (replace H := Option.bind_eq_some_iff.mp H); (obtain ⟨t304, A100, H⟩ := H); (replace H : (if t303.size + 1 + t304.size ≤ 9223372036854775807 then ((customsref02_Digits.f k (Int.tmod a0 10)).bind fun t305 => (if t303.size + 1 + t304.size + t305.size ≤ 9223372036854775807 then (some (((t303 ++ (⟨#[46]⟩ : ByteArray)) ++ t304) ++ t305)) else (none))) else (none)) = some r := H); have A10 := Aside0.mk A100; clear A100; (by_cases c11 : t303.size + 1 + t304.size ≤ 9223372036854775807)
        · (rw [if_pos c11] at H); (have c11b0 := eq_true c11); (have c11b1 : decide (t303.size + 1 + t304.size ≤ 9223372036854775807) = true := decide_eq_true c11); (try have c11b2 : (9223372036854775807 < t303.size + 1 + t304.size) = False := eq_false (Nat.not_lt.2 c11)); (replace H := Option.bind_eq_some_iff.mp H); (obtain ⟨t305, A120, H⟩ := H); (replace H : (if t303.size + 1 + t304.size + t305.size ≤ 9223372036854775807 then (some (((t303 ++ (⟨#[46]⟩ : ByteArray)) ++ t304) ++ t305)) else (none)) = some r := H); have A12 := Aside0.mk A120; clear A120; (by_cases c13 : t303.size + 1 + t304.size + t305.size ≤ 9223372036854775807)
          · (rw [if_pos c13] at H); (have c13b0 := eq_true c13); (have c13b1 : decide (t303.size + 1 + t304.size + t305.size ≤ 9223372036854775807) = true := decide_eq_true c13); (try have c13b2 : (9223372036854775807 < t303.size + 1 + t304.size + t305.size) = False := eq_false (Nat.not_lt.2 c13)); (obtain rfl := Option.some.inj H); (go_enter Tryd.func31, Tryd.ntmps31); (go_wp2_with (first | ((with_reducible refine gate_callee (f := 55) rfl ?_); refine goesL_ (some 4) rfl rfl Tryd.func55 (by kernel_rfl) rfl #[.int .i64 a0] rfl (by (try simp only [List.map_toArray, List.map_cons, List.map_nil]); first | done | rfl | (simp only [List.length_drop, List.length_take]; rfl)) ?_; (with_reducible refine (customsref02_Amount.calls a0 true _ A2.out).mono ?_); rintro e w' ⟨rfl, ⟨nd, rfl⟩⟩; refine ⟨_, rfl, ?_⟩) | ((with_reducible refine gate_callee (f := 32) rfl ?_); refine goesL_ (some 14) rfl rfl Tryd.func32 (by kernel_rfl) rfl #[.int .i64 (wrap64 (Int.tdiv a0 100))] rfl (by (try simp only [List.map_toArray, List.map_cons, List.map_nil]); first | done | rfl | (simp only [List.length_drop, List.length_take]; rfl)) ?_; (with_reducible refine (customsref02_Digits.calls k (wrap64 (Int.tdiv a0 100)) t303 _ A8.out).mono ?_); rintro e w14 ⟨rfl, hb⟩; refine ⟨_, rfl, ?_⟩; have n0_ := Aside0.mk (below_step (by repeat (first | (with_reducible first | exact HB.out | apply below_alloc | apply pw_below_drewN | apply below_drew1) | exact HB.out)) hb); clear HB; have HB := n0_; clear n0_; (try clear hb); (try clear hb2); (try clear hk); (try clear hi)) | ((with_reducible refine gate_callee (f := 32) rfl ?_); refine goesL_ (some 19) rfl rfl Tryd.func32 (by kernel_rfl) rfl #[.int .i64 (Int.tmod (wrap64 (Int.tdiv a0 10)) 10)] rfl (by (try simp only [List.map_toArray, List.map_cons, List.map_nil]); first | done | rfl | (simp only [List.length_drop, List.length_take]; rfl)) ?_; (with_reducible refine (customsref02_Digits.calls k (Int.tmod (wrap64 (Int.tdiv a0 10)) 10) t304 _ A10.out).mono ?_); rintro e w15 ⟨rfl, hb⟩; refine ⟨_, rfl, ?_⟩; have n0_ := Aside0.mk (below_step HB.out hb); clear HB; have HB := n0_; clear n0_; (try clear hb); (try clear hb2); (try clear hk); (try clear hi)) | ((with_reducible refine gate_callee (f := 32) rfl ?_); refine goesL_ (some 23) rfl rfl Tryd.func32 (by kernel_rfl) rfl #[.int .i64 (Int.tmod a0 10)] rfl (by (try simp only [List.map_toArray, List.map_cons, List.map_nil]); first | done | rfl | (simp only [List.length_drop, List.length_take]; rfl)) ?_; (with_reducible refine (customsref02_Digits.calls k (Int.tmod a0 10) t305 _ A12.out).mono ?_); rintro e w16 ⟨rfl, hb⟩; refine ⟨_, rfl, ?_⟩; have n0_ := Aside0.mk (below_step HB.out hb); clear HB; have HB := n0_; clear n0_; (try clear hb); (try clear hb2); (try clear hk); (try clear hi)))); go_ret; (exact ⟨by first | rfl | (simp [errW_none, errW_some] <;> rfl) | (simp [*, errW_none, errW_some] <;> rfl), by repeat (first | (with_reducible first | exact HB.out | apply below_alloc | apply pw_below_drewN | apply below_drew1) | exact HB.out)⟩)
          · (rw [if_neg c13] at H); (exact absurd H (by simp))
        · (rw [if_neg c11] at H); (exact absurd H (by simp))
      · (rw [if_neg c9] at H); (exact absurd H (by simp))
  · (replace c3 := Bool.eq_false_iff.mpr c3); subst c3; (have H1 : (some (⟨#[]⟩ : ByteArray)) = some r := by rw [if_neg (show ¬ (false = true) by decide)] at H; exact H); clear H; have H := H1; clear H1; (obtain rfl := Option.some.inj H); (go_enter Tryd.func31, Tryd.ntmps31); (go_wp2_with (first | ((with_reducible refine gate_callee (f := 55) rfl ?_); refine goesL_ (some 4) rfl rfl Tryd.func55 (by kernel_rfl) rfl #[.int .i64 a0] rfl (by (try simp only [List.map_toArray, List.map_cons, List.map_nil]); first | done | rfl | (simp only [List.length_drop, List.length_take]; rfl)) ?_; (with_reducible refine (customsref02_Amount.calls a0 false _ A2.out).mono ?_); rintro e w' ⟨rfl, ⟨nd, rfl⟩⟩; refine ⟨_, rfl, ?_⟩))); go_ret; (exact ⟨by first | rfl | (simp [errW_none, errW_some] <;> rfl) | (simp [*, errW_none, errW_some] <;> rfl), by repeat (first | (with_reducible first | exact HB.out | apply below_alloc | apply pw_below_drewN | apply below_drew1) | exact HB.out)⟩)
end Go.Proofs.YtfpkgdkcllobiaaDoor.F
end
section
namespace Go.Proofs.YtfpkgdkcllobiaaDoor.F
open Go.RowKit Go.Proofs.YtfpkgdkcllobiaaDoorW.PrintWords Go.Proofs.YtfpkgdkcllobiaaDoorW.PrintLast Go.Proofs.YtfpkgdkcllobiaaDoorW.PrintMore
attribute [local go_sem] max2_int min2_int max_two min_two max_three min_three max_four min_four
set_option linter.unusedVariables false
set_option linter.unusedSimpArgs false
/-! ### customsref17_FormatDuty: function 16 -/
def customsref17_FormatDuty.j0 : Nat → ByteArray → Int → Int → Int → Bool → Int → Bool → Int → Option (ByteArray)
  | 0, _, _, _, _, _, _, _, _ => none
  | k + 1, x3, x307000, x307001, x307002, x307003, x307004, x307005, x307006 => if x307003 = true then (if x3.size + 5 ≤ 9223372036854775807 then ((customsref12_Percent.f k x307004).bind fun t311 => (if x3.size + 5 + t311.size ≤ 9223372036854775807 then (if x307005 = true then (if x3.size + 5 + t311.size + 5 ≤ 9223372036854775807 then ((customsref12_Percent.f k x307006).bind fun t312 => (if x3.size + 5 + t311.size + 5 + t312.size ≤ 9223372036854775807 then (some ((((x3 ++ (⟨#[32, 109, 97, 120, 32]⟩ : ByteArray)) ++ t311) ++ (⟨#[32, 109, 105, 110, 32]⟩ : ByteArray)) ++ t312)) else (none))) else (none)) else (some ((x3 ++ (⟨#[32, 109, 97, 120, 32]⟩ : ByteArray)) ++ t311))) else (none))) else (none)) else (if x307005 = true then (if x3.size + 5 ≤ 9223372036854775807 then ((customsref12_Percent.f k x307006).bind fun t313 => (if x3.size + 5 + t313.size ≤ 9223372036854775807 then (some ((x3 ++ (⟨#[32, 109, 105, 110, 32]⟩ : ByteArray)) ++ t313)) else (none))) else (none)) else (some x3))
def customsref17_FormatDuty.f (k : Nat) (a0_0 : Int) (a0_1 : Int) (a0_2 : Int) (a0_3 : Bool) (a0_4 : Int) (a0_5 : Bool) (a0_6 : Int) : Option (ByteArray) := (customsref17_Duty.f k a0_0 a0_1 a0_2 a0_3 a0_4 a0_5 a0_6).bind fun t307 => (if t307 = 0 then ((customsref12_Percent.f k a0_0).bind fun t308 => (if a0_1 > 0 then ((customsref02_Format.f k a0_1).bind fun t309 => (if t309.size + 1 ≤ 9223372036854775807 then ((customsref02_Digits.f k a0_2).bind fun t310 => (if t309.size + 1 + t310.size ≤ 9223372036854775807 then (if a0_0 = 0 then (customsref17_FormatDuty.j0 k ((t309 ++ (⟨#[47]⟩ : ByteArray)) ++ t310) a0_0 a0_1 a0_2 a0_3 a0_4 a0_5 a0_6) else (if t308.size + 3 ≤ 9223372036854775807 then (if t308.size + 3 + (t309.size + 1 + t310.size) ≤ 9223372036854775807 then (customsref17_FormatDuty.j0 k ((t308 ++ (⟨#[32, 43, 32]⟩ : ByteArray)) ++ ((t309 ++ (⟨#[47]⟩ : ByteArray)) ++ t310)) a0_0 a0_1 a0_2 a0_3 a0_4 a0_5 a0_6) else (none)) else (none))) else (none))) else (none))) else (customsref17_FormatDuty.j0 k t308 a0_0 a0_1 a0_2 a0_3 a0_4 a0_5 a0_6))) else (some (⟨#[]⟩ : ByteArray)))
theorem customsref17_FormatDuty.mono_l : ∀ k, (∀ y0 y1 y2 y3 y4 y5 y6 y7, LeO (customsref17_FormatDuty.j0 k y0 y1 y2 y3 y4 y5 y6 y7) (customsref17_FormatDuty.j0 (k + 1) y0 y1 y2 y3 y4 y5 y6 y7))
  | 0 => fun _ _ _ _ _ _ _ _ r h => by simp [customsref17_FormatDuty.j0] at h
  | k + 1 => by
    have ih0 := customsref17_FormatDuty.mono_l k
    · intro y0 y1 y2 y3 y4 y5 y6 y7
      unfold customsref17_FormatDuty.j0
      repeat' first
      | (with_reducible exact ih0 _ _ _ _ _ _ _ _)
      | (with_reducible exact customsref02_Digits.mono _ _)
      | (with_reducible exact customsref02_Format.mono _ _)
      | (with_reducible exact customsref12_Percent.mono _ _)
      | (with_reducible exact customsref17_Duty.mono _ _ _ _ _ _ _ _)
      | (with_reducible exact LeO.refl _)
      | (with_reducible exact LeO.none _)
      | (with_reducible refine LeO.ite ?_ ?_)
      | (with_reducible refine LeO.bind ?_ (fun _ => ?_))
      | exact ih0 _ _ _ _ _ _ _ _
      | exact customsref02_Digits.mono _ _
      | exact customsref02_Format.mono _ _
      | exact customsref12_Percent.mono _ _
      | exact customsref17_Duty.mono _ _ _ _ _ _ _ _
      | exact LeO.none _
      | refine LeO.ite ?_ ?_
      | refine LeO.bind ?_ (fun _ => ?_)
theorem customsref17_FormatDuty.mono : ∀ a0 a1 a2 a3 a4 a5 a6 k, LeO (customsref17_FormatDuty.f k a0 a1 a2 a3 a4 a5 a6) (customsref17_FormatDuty.f (k + 1) a0 a1 a2 a3 a4 a5 a6) := by
  intro a0 a1 a2 a3 a4 a5 a6 k; (have ih0 := customsref17_FormatDuty.mono_l k); (unfold customsref17_FormatDuty.f)
  repeat' first
      | (with_reducible exact ih0 _ _ _ _ _ _ _ _)
      | (with_reducible exact customsref02_Digits.mono _ _)
      | (with_reducible exact customsref02_Format.mono _ _)
      | (with_reducible exact customsref12_Percent.mono _ _)
      | (with_reducible exact customsref17_Duty.mono _ _ _ _ _ _ _ _)
      | (with_reducible exact LeO.refl _)
      | (with_reducible exact LeO.none _)
      | (with_reducible refine LeO.ite ?_ ?_)
      | (with_reducible refine LeO.bind ?_ (fun _ => ?_))
      | exact ih0 _ _ _ _ _ _ _ _
      | exact customsref02_Digits.mono _ _
      | exact customsref02_Format.mono _ _
      | exact customsref12_Percent.mono _ _
      | exact customsref17_Duty.mono _ _ _ _ _ _ _ _
      | exact LeO.none _
      | refine LeO.ite ?_ ?_
      | refine LeO.bind ?_ (fun _ => ?_)
def customsref17_FormatDuty.T5 : Bool × List (List Nat × List Nat) := (true, [([], []), ([0], [0]), ([1], [1]), ([2], [2]), ([], []), ([4], [4]), ([5, 2], [5]), ([3, 6], [3, 6]), ([7, 6, 0, 1, 2, 3, 4, 5, 6, 7], [7])])
def customsref17_FormatDuty.B5 : List Nat := [0, 1, 3, 7, 0, 16, 55, 127, 255]
theorem customsref17_FormatDuty.tab5 : rtab .any (opsOf Tryd.f16 5) = customsref17_FormatDuty.T5 := by kernel_rfl
theorem customsref17_FormatDuty.bits5 : waitsOk customsref17_FormatDuty.T5.2 customsref17_FormatDuty.B5 = true := by kernel_rfl
set_option maxHeartbeats 8000000 in
set_option maxRecDepth 100000 in
theorem customsref17_FormatDuty.calls (k : Nat) (a0_0 : Int) (a0_1 : Int) (a0_2 : Int) (a0_3 : Bool) (a0_4 : Int) (a0_5 : Bool) (a0_6 : Int) (r : ByteArray) (w : World) (h : customsref17_FormatDuty.f k a0_0 a0_1 a0_2 a0_3 a0_4 a0_5 a0_6 = some r) :
    Calls Tryd.prog 16 #[.agg #[.int .i64 a0_0, .int .i64 a0_1, .int .i64 a0_2, .bool a0_3, .int .i64 a0_4, .bool a0_5, .int .i64 a0_6]] w fun e w' => e = .returned (.string r) ∧ Below w.heap.size w w' := by
  have hu23 := Tryd.underlying23; (have HB := Aside0.mk (Below.refl w.heap.size w)); (have H : ((customsref17_Duty.f k a0_0 a0_1 a0_2 a0_3 a0_4 a0_5 a0_6).bind fun t307 => (if t307 = 0 then ((customsref12_Percent.f k a0_0).bind fun t308 => (if a0_1 > 0 then ((customsref02_Format.f k a0_1).bind fun t309 => (if t309.size + 1 ≤ 9223372036854775807 then ((customsref02_Digits.f k a0_2).bind fun t310 => (if t309.size + 1 + t310.size ≤ 9223372036854775807 then (if a0_0 = 0 then (customsref17_FormatDuty.j0 k ((t309 ++ (⟨#[47]⟩ : ByteArray)) ++ t310) a0_0 a0_1 a0_2 a0_3 a0_4 a0_5 a0_6) else (if t308.size + 3 ≤ 9223372036854775807 then (if t308.size + 3 + (t309.size + 1 + t310.size) ≤ 9223372036854775807 then (customsref17_FormatDuty.j0 k ((t308 ++ (⟨#[32, 43, 32]⟩ : ByteArray)) ++ ((t309 ++ (⟨#[47]⟩ : ByteArray)) ++ t310)) a0_0 a0_1 a0_2 a0_3 a0_4 a0_5 a0_6) else (none)) else (none))) else (none))) else (none))) else (customsref17_FormatDuty.j0 k t308 a0_0 a0_1 a0_2 a0_3 a0_4 a0_5 a0_6))) else (some (⟨#[]⟩ : ByteArray)))) = some r := h); clear h; (replace H := Option.bind_eq_some_iff.mp H); (obtain ⟨t307, A20, H⟩ := H); (replace H : (if t307 = 0 then ((customsref12_Percent.f k a0_0).bind fun t308 => (if a0_1 > 0 then ((customsref02_Format.f k a0_1).bind fun t309 => (if t309.size + 1 ≤ 9223372036854775807 then ((customsref02_Digits.f k a0_2).bind fun t310 => (if t309.size + 1 + t310.size ≤ 9223372036854775807 then (if a0_0 = 0 then (customsref17_FormatDuty.j0 k ((t309 ++ (⟨#[47]⟩ : ByteArray)) ++ t310) a0_0 a0_1 a0_2 a0_3 a0_4 a0_5 a0_6) else (if t308.size + 3 ≤ 9223372036854775807 then (if t308.size + 3 + (t309.size + 1 + t310.size) ≤ 9223372036854775807 then (customsref17_FormatDuty.j0 k ((t308 ++ (⟨#[32, 43, 32]⟩ : ByteArray)) ++ ((t309 ++ (⟨#[47]⟩ : ByteArray)) ++ t310)) a0_0 a0_1 a0_2 a0_3 a0_4 a0_5 a0_6) else (none)) else (none))) else (none))) else (none))) else (customsref17_FormatDuty.j0 k t308 a0_0 a0_1 a0_2 a0_3 a0_4 a0_5 a0_6))) else (some (⟨#[]⟩ : ByteArray))) = some r := H); have A2 := Aside0.mk A20; clear A20; (by_cases c3 : t307 = 0)
  · (rw [if_pos c3] at H); (have c3b0 : (t307 == 0) = true := beq_iff_eq.mpr c3); (have c3b1 : (t307 != 0) = false := bne_eq_false_iff_eq.mpr c3); clear c3; (replace H := Option.bind_eq_some_iff.mp H); (obtain ⟨t308, A40, H⟩ := H); (replace H : (if a0_1 > 0 then ((customsref02_Format.f k a0_1).bind fun t309 => (if t309.size + 1 ≤ 9223372036854775807 then ((customsref02_Digits.f k a0_2).bind fun t310 => (if t309.size + 1 + t310.size ≤ 9223372036854775807 then (if a0_0 = 0 then (customsref17_FormatDuty.j0 k ((t309 ++ (⟨#[47]⟩ : ByteArray)) ++ t310) a0_0 a0_1 a0_2 a0_3 a0_4 a0_5 a0_6) else (if t308.size + 3 ≤ 9223372036854775807 then (if t308.size + 3 + (t309.size + 1 + t310.size) ≤ 9223372036854775807 then (customsref17_FormatDuty.j0 k ((t308 ++ (⟨#[32, 43, 32]⟩ : ByteArray)) ++ ((t309 ++ (⟨#[47]⟩ : ByteArray)) ++ t310)) a0_0 a0_1 a0_2 a0_3 a0_4 a0_5 a0_6) else (none)) else (none))) else (none))) else (none))) else (customsref17_FormatDuty.j0 k t308 a0_0 a0_1 a0_2 a0_3 a0_4 a0_5 a0_6)) = some r := H); have A4 := Aside0.mk A40; clear A40; have HC5 := Aside0.mk H; clear H; (go_enter Tryd.func16, Tryd.ntmps16); (go_upto_if 13 with (first | ((with_reducible refine gate_dst (N := 1) rfl ?_); refine box_event ?hg (N := 1) ?hd (cs := #[.int .i64 a0_0, .int .i64 a0_1, .int .i64 a0_2, .bool a0_3, .int .i64 a0_4, .bool a0_5, .int .i64 a0_6]) (t := 23) ?hr ?_; (case hd => rfl); (case hg => rfl); (case hr => first | (go_simp; done) | (go_simp; rfl)); intro gb306 hg w6 hbox hb; have n0_ := Aside0.mk (below_step HB.out hb); have n1_ := Aside0.mk (hbox); have n2_ := Aside0.mk ((by rw [hg]; exact (below_size HB.out) : w.heap.size ≤ gb306)); have n3_ := Aside0.mk ((by rw [hg]; exact (below_size HB.out) : w.heap.size ≤ gb306)); clear HB; have HB := n0_; have BK306 := n1_; have GW306 := n2_; have GE306 := n3_; clear n0_ n1_ n2_ n3_; clear hb hbox hg; have hcz7_0 : w6.cell? ⟨gb306, 0, none⟩ = some (.int .i64 a0_0) := (blk_cell BK306.out 0).trans rfl; have hcz7_1 : w6.cell? ⟨gb306, 1, none⟩ = some (.int .i64 a0_1) := (blk_cell BK306.out 1).trans rfl; have hcz7_2 : w6.cell? ⟨gb306, 2, none⟩ = some (.int .i64 a0_2) := (blk_cell BK306.out 2).trans rfl; have hcz7_3 : w6.cell? ⟨gb306, 3, none⟩ = some (.bool a0_3) := (blk_cell BK306.out 3).trans rfl; have hcz7_4 : w6.cell? ⟨gb306, 4, none⟩ = some (.int .i64 a0_4) := (blk_cell BK306.out 4).trans rfl; have hcz7_5 : w6.cell? ⟨gb306, 5, none⟩ = some (.bool a0_5) := (blk_cell BK306.out 5).trans rfl; have hcz7_6 : w6.cell? ⟨gb306, 6, none⟩ = some (.int .i64 a0_6) := (blk_cell BK306.out 6).trans rfl; have hfz7_0 := blk_frozen BK306.out 0; have hfz7_1 := blk_frozen BK306.out 1; have hfz7_2 := blk_frozen BK306.out 2; have hfz7_3 := blk_frozen BK306.out 3; have hfz7_4 := blk_frozen BK306.out 4; have hfz7_5 := blk_frozen BK306.out 5; have hfz7_6 := blk_frozen BK306.out 6) | ((with_reducible refine gate_callee (f := 12) rfl ?_); refine goesL_ (some 6) rfl rfl Tryd.func12 (by kernel_rfl) rfl #[.agg #[.int .i64 a0_0, .int .i64 a0_1, .int .i64 a0_2, .bool a0_3, .int .i64 a0_4, .bool a0_5, .int .i64 a0_6]] rfl (by (try simp only [List.map_toArray, List.map_cons, List.map_nil]); first | done | rfl | (simp only [List.length_drop, List.length_take]; rfl)) ?_; (with_reducible refine (customsref17_Duty.calls k a0_0 a0_1 a0_2 a0_3 a0_4 a0_5 a0_6 t307 _ A2.out).mono ?_); rintro e w8 ⟨rfl, hb⟩; refine ⟨_, rfl, ?_⟩; have n0_ := Aside0.mk (blk_below (g := gb306) (o := .cells #[.int .i64 a0_0, .int .i64 a0_1, .int .i64 a0_2, .bool a0_3, .int .i64 a0_4, .bool a0_5, .int .i64 a0_6] 23 (0, 0)) BK306.out hb); have n1_ := Aside0.mk (below_step HB.out hb); clear BK306; clear HB; have BK306 := n0_; have HB := n1_; clear n0_ n1_; (try clear hb); (try clear hb2); (try clear hk); (try clear hi); have hcz9_0 : w8.cell? ⟨gb306, 0, none⟩ = some (.int .i64 a0_0) := (blk_cell BK306.out 0).trans rfl; have hcz9_1 : w8.cell? ⟨gb306, 1, none⟩ = some (.int .i64 a0_1) := (blk_cell BK306.out 1).trans rfl; have hcz9_2 : w8.cell? ⟨gb306, 2, none⟩ = some (.int .i64 a0_2) := (blk_cell BK306.out 2).trans rfl; have hcz9_3 : w8.cell? ⟨gb306, 3, none⟩ = some (.bool a0_3) := (blk_cell BK306.out 3).trans rfl; have hcz9_4 : w8.cell? ⟨gb306, 4, none⟩ = some (.int .i64 a0_4) := (blk_cell BK306.out 4).trans rfl; have hcz9_5 : w8.cell? ⟨gb306, 5, none⟩ = some (.bool a0_5) := (blk_cell BK306.out 5).trans rfl; have hcz9_6 : w8.cell? ⟨gb306, 6, none⟩ = some (.int .i64 a0_6) := (blk_cell BK306.out 6).trans rfl; have hfz9_0 := blk_frozen BK306.out 0; have hfz9_1 := blk_frozen BK306.out 1; have hfz9_2 := blk_frozen BK306.out 2; have hfz9_3 := blk_frozen BK306.out 3; have hfz9_4 := blk_frozen BK306.out 4; have hfz9_5 := blk_frozen BK306.out 5; have hfz9_6 := blk_frozen BK306.out 6) | ((with_reducible refine gate_callee (f := 30) rfl ?_); refine goesL_ (some 10) rfl rfl Tryd.func30 (by kernel_rfl) rfl #[.int .i64 a0_0] rfl (by (try simp only [List.map_toArray, List.map_cons, List.map_nil]); first | done | rfl | (simp only [List.length_drop, List.length_take]; rfl)) ?_; (with_reducible refine (customsref12_Percent.calls k a0_0 t308 _ A4.out).mono ?_); rintro e w10 ⟨rfl, hb⟩; refine ⟨_, rfl, ?_⟩; have n0_ := Aside0.mk (blk_below (g := gb306) (o := .cells #[.int .i64 a0_0, .int .i64 a0_1, .int .i64 a0_2, .bool a0_3, .int .i64 a0_4, .bool a0_5, .int .i64 a0_6] 23 (0, 0)) BK306.out hb); have n1_ := Aside0.mk (below_step HB.out hb); clear BK306; clear HB; have BK306 := n0_; have HB := n1_; clear n0_ n1_; (try clear hb); (try clear hb2); (try clear hk); (try clear hi); have hcz11_0 : w10.cell? ⟨gb306, 0, none⟩ = some (.int .i64 a0_0) := (blk_cell BK306.out 0).trans rfl; have hcz11_1 : w10.cell? ⟨gb306, 1, none⟩ = some (.int .i64 a0_1) := (blk_cell BK306.out 1).trans rfl; have hcz11_2 : w10.cell? ⟨gb306, 2, none⟩ = some (.int .i64 a0_2) := (blk_cell BK306.out 2).trans rfl; have hcz11_3 : w10.cell? ⟨gb306, 3, none⟩ = some (.bool a0_3) := (blk_cell BK306.out 3).trans rfl; have hcz11_4 : w10.cell? ⟨gb306, 4, none⟩ = some (.int .i64 a0_4) := (blk_cell BK306.out 4).trans rfl; have hcz11_5 : w10.cell? ⟨gb306, 5, none⟩ = some (.bool a0_5) := (blk_cell BK306.out 5).trans rfl; have hcz11_6 : w10.cell? ⟨gb306, 6, none⟩ = some (.int .i64 a0_6) := (blk_cell BK306.out 6).trans rfl; have hfz11_0 := blk_frozen BK306.out 0; have hfz11_1 := blk_frozen BK306.out 1; have hfz11_2 := blk_frozen BK306.out 2; have hfz11_3 := blk_frozen BK306.out 3; have hfz11_4 := blk_frozen BK306.out 4; have hfz11_5 := blk_frozen BK306.out 5; have hfz11_6 := blk_frozen BK306.out 6))); (try simp only [Act.put, List.setIfInBounds_toArray, List.set_cons_zero, List.set_cons_succ]); (go_cut [3] (fun v3 wc => ∃ (kq : Nat) (x3_4 : ByteArray), v3 = .string x3_4 ∧ Aside0 (customsref17_FormatDuty.j0 kq x3_4 a0_0 a0_1 a0_2 a0_3 a0_4 a0_5 a0_6 = some r) ∧ Aside0 (kq ≤ k) ∧ Aside0 (wc.heap[gb306]? = some (.cells #[.int .i64 a0_0, .int .i64 a0_1, .int .i64 a0_2, .bool a0_3, .int .i64 a0_4, .bool a0_5, .int .i64 a0_6] 23 (0, 0))) ∧ Aside0 (Below w.heap.size w wc)))
    case first =>
      have H := HC5.out; clear HC5; (by_cases c12 : a0_1 > 0)
      · (rw [if_pos c12] at H); (have c12b0 : decide (0 < a0_1) = true := decide_eq_true c12); clear c12; (first | rw [c12b0] | (simp only [i64_w, i32_w]; rw [c12b0]) | skip); (replace H := Option.bind_eq_some_iff.mp H); (obtain ⟨t309, A130, H⟩ := H); (replace H : (if t309.size + 1 ≤ 9223372036854775807 then ((customsref02_Digits.f k a0_2).bind fun t310 => (if t309.size + 1 + t310.size ≤ 9223372036854775807 then (if a0_0 = 0 then (customsref17_FormatDuty.j0 k ((t309 ++ (⟨#[47]⟩ : ByteArray)) ++ t310) a0_0 a0_1 a0_2 a0_3 a0_4 a0_5 a0_6) else (if t308.size + 3 ≤ 9223372036854775807 then (if t308.size + 3 + (t309.size + 1 + t310.size) ≤ 9223372036854775807 then (customsref17_FormatDuty.j0 k ((t308 ++ (⟨#[32, 43, 32]⟩ : ByteArray)) ++ ((t309 ++ (⟨#[47]⟩ : ByteArray)) ++ t310)) a0_0 a0_1 a0_2 a0_3 a0_4 a0_5 a0_6) else (none)) else (none))) else (none))) else (none)) = some r := H); have A13 := Aside0.mk A130; clear A130; (by_cases c14 : t309.size + 1 ≤ 9223372036854775807)
        · (rw [if_pos c14] at H); (have c14b0 := eq_true c14); (have c14b1 : decide (t309.size + 1 ≤ 9223372036854775807) = true := decide_eq_true c14); (try have c14b2 : (9223372036854775807 < t309.size + 1) = False := eq_false (Nat.not_lt.2 c14)); (replace H := Option.bind_eq_some_iff.mp H); (obtain ⟨t310, A150, H⟩ := H); (replace H : (if t309.size + 1 + t310.size ≤ 9223372036854775807 then (if a0_0 = 0 then (customsref17_FormatDuty.j0 k ((t309 ++ (⟨#[47]⟩ : ByteArray)) ++ t310) a0_0 a0_1 a0_2 a0_3 a0_4 a0_5 a0_6) else (if t308.size + 3 ≤ 9223372036854775807 then (if t308.size + 3 + (t309.size + 1 + t310.size) ≤ 9223372036854775807 then (customsref17_FormatDuty.j0 k ((t308 ++ (⟨#[32, 43, 32]⟩ : ByteArray)) ++ ((t309 ++ (⟨#[47]⟩ : ByteArray)) ++ t310)) a0_0 a0_1 a0_2 a0_3 a0_4 a0_5 a0_6) else (none)) else (none))) else (none)) = some r := H); have A15 := Aside0.mk A150; clear A150; (by_cases c16 : t309.size + 1 + t310.size ≤ 9223372036854775807)
          · (rw [if_pos c16] at H); (have c16b0 := eq_true c16); (have c16b1 : decide (t309.size + 1 + t310.size ≤ 9223372036854775807) = true := decide_eq_true c16); (try have c16b2 : (9223372036854775807 < t309.size + 1 + t310.size) = False := eq_false (Nat.not_lt.2 c16)); (by_cases c17 : a0_0 = 0)
            · (rw [if_pos c17] at H); (have c17b0 : (a0_0 == 0) = true := beq_iff_eq.mpr c17); (have c17b1 : (a0_0 != 0) = false := bne_eq_false_iff_eq.mpr c17); clear c17; have H' := Aside0.mk H; clear H; (try go_wp2); (have n0_ := Aside0.mk (blk_drew BK306.out)); (have n1_ := Aside0.mk (below_drew1 HB.out)); clear BK306; clear HB; have BK306 := n0_; have HB := n1_; clear n0_ n1_; (refine start_ (n := 9) (S := fun w' => w'.cell? ⟨gb306, 0, none⟩ = some (.int .i64 a0_0) ∧ w'.cell? ⟨gb306, 1, none⟩ = some (.int .i64 a0_1) ∧ w'.cell? ⟨gb306, 2, none⟩ = some (.int .i64 a0_2) ∧ w'.cell? ⟨gb306, 3, none⟩ = some (.bool a0_3) ∧ w'.cell? ⟨gb306, 4, none⟩ = some (.int .i64 a0_4) ∧ w'.cell? ⟨gb306, 5, none⟩ = some (.bool a0_5) ∧ w'.cell? ⟨gb306, 6, none⟩ = some (.int .i64 a0_6)) (ds := []) #[false, false, false, false, false, false, false, false, false] (by kernel_rfl) rfl rfl ⟨(blk_cell BK306.out 0).trans rfl, (blk_cell BK306.out 1).trans rfl, (blk_cell BK306.out 2).trans rfl, (blk_cell BK306.out 3).trans rfl, (blk_cell BK306.out 4).trans rfl, (blk_cell BK306.out 5).trans rfl, (blk_cell BK306.out 6).trans rfl⟩ (fun hHeld => ?_); refine with_tabW customsref17_FormatDuty.tab5 customsref17_FormatDuty.bits5 (fun HT_ HW_ => ?_)); (generalize w10.drew = w18 at BK306 HB hHeld ⊢); (refine pure_ (i := 0) (N := some 14) (v := ?_) (a' := ?_) #[true, false, false, false, false, false, false, false, false] rfl rfl (any_of HT_.out (by kernel_rfl)) (fun _ _ _ h => h) (Or.inl ⟨by rfl, ?_⟩) ?_ ?_); rotate_left
              · intro w'; (go_simp); with_reducible rfl
              rotate_left
              · (simp only [Act.put, List.setIfInBounds_toArray, List.set_cons_zero, List.set_cons_succ, i64_w, i32_w]); rfl
              (refine pure_ (i := 4) (N := some 18) (v := ?_) (a' := ?_) #[true, false, false, false, true, false, false, false, false] rfl rfl (any_of HT_.out (by kernel_rfl)) (fun _ _ _ h => h) (Or.inl ⟨by rfl, ?_⟩) ?_ ?_); rotate_left
              · intro w'; (go_simp); with_reducible rfl
              rotate_left
              · (simp only [Act.put, List.setIfInBounds_toArray, List.set_cons_zero, List.set_cons_succ, i64_w, i32_w]); rfl
              (refine take_ (i := 1) (N := some 15) (v := ?_) (a' := ?_) #[true, true, false, false, true, false, false, false, false] rfl rfl (take_ofW HT_.out HW_.out (by kernel_rfl)) (fun _ _ _ h => h) (Or.inl ⟨by rfl, ?_⟩) hHeld ?_ ?_); rotate_left
              · (rintro w' ⟨s0, s1, s2, s3, s4, s5, s6⟩); (go_simp); with_reducible rfl
              rotate_left
              · (simp only [Act.put, List.setIfInBounds_toArray, List.set_cons_zero, List.set_cons_succ, i64_w, i32_w]); rfl
              (refine take_ (i := 5) (N := some 19) (v := ?_) (a' := ?_) #[true, true, false, false, true, true, false, false, false] rfl rfl (take_ofW HT_.out HW_.out (by kernel_rfl)) (fun _ _ _ h => h) (Or.inl ⟨by rfl, ?_⟩) hHeld ?_ ?_); rotate_left
              · (rintro w' ⟨s0, s1, s2, s3, s4, s5, s6⟩); (go_simp); with_reducible rfl
              rotate_left
              · (simp only [Act.put, List.setIfInBounds_toArray, List.set_cons_zero, List.set_cons_succ, i64_w, i32_w]); rfl
              (refine one_ (i := 2) (N := some 16) #[true, true, true, false, true, true, false, false, false] rfl rfl (one_of HT_.out (by kernel_rfl)) (by decide) (fun K hK => ?_)); (refine goes_ Tryd.func31 (by kernel_rfl) rfl #[.int .i64 a0_1] (by rfl) rfl rfl (by (try simp only [List.map_toArray, List.map_cons, List.map_nil]); first | done | rfl | (simp only [List.length_drop, List.length_take]; rfl)) ?_); (with_reducible refine (customsref02_Format.calls k a0_1 t309 _ A13.out).mono ?_); (rintro e w19 ⟨rfl, hb⟩); (refine ⟨_, rfl, ?_⟩); (have n0_ := Aside0.mk (blk_below (g := gb306) (o := .cells #[.int .i64 a0_0, .int .i64 a0_1, .int .i64 a0_2, .bool a0_3, .int .i64 a0_4, .bool a0_5, .int .i64 a0_6] 23 (0, 0)) BK306.out hb)); (have n1_ := Aside0.mk (below_step HB.out hb)); clear BK306; clear HB; have BK306 := n0_; have HB := n1_; clear n0_ n1_; (try clear hb); (try clear hb2); (try clear hk); (try clear hi); (refine hK.out _ _ ⟨(blk_cell BK306.out 0).trans rfl, (blk_cell BK306.out 1).trans rfl, (blk_cell BK306.out 2).trans rfl, (blk_cell BK306.out 3).trans rfl, (blk_cell BK306.out 4).trans rfl, (blk_cell BK306.out 5).trans rfl, (blk_cell BK306.out 6).trans rfl⟩ (fun hHeld => ?_)); clear hK K; (refine norm_ (a' := ?_) ?_ ?_); rotate_left
              · (show Act.put _ (some 16) _ = _); (simp only [Act.put, List.setIfInBounds_toArray, List.set_cons_zero, List.set_cons_succ, i64_w, i32_w]); rfl
              (refine pure_ (i := 3) (N := some 17) (v := ?_) (a' := ?_) #[true, true, true, true, true, true, false, false, false] rfl rfl (any_of HT_.out (by kernel_rfl)) (fun _ _ _ h => h) (Or.inl ⟨by rfl, ?_⟩) ?_ ?_); rotate_left
              · intro w'; (go_simp); with_reducible rfl
              rotate_left
              · (simp only [Act.put, List.setIfInBounds_toArray, List.set_cons_zero, List.set_cons_succ, i64_w, i32_w]); rfl
              (refine one_ (i := 6) (N := some 20) #[true, true, true, true, true, true, true, false, false] rfl rfl (one_of HT_.out (by kernel_rfl)) (by decide) (fun K hK => ?_)); (refine goes_ Tryd.func32 (by kernel_rfl) rfl #[.int .i64 a0_2] (by rfl) rfl rfl (by (try simp only [List.map_toArray, List.map_cons, List.map_nil]); first | done | rfl | (simp only [List.length_drop, List.length_take]; rfl)) ?_); (with_reducible refine (customsref02_Digits.calls k a0_2 t310 _ A15.out).mono ?_); (rintro e w20 ⟨rfl, hb⟩); (refine ⟨_, rfl, ?_⟩); (have n0_ := Aside0.mk (blk_below (g := gb306) (o := .cells #[.int .i64 a0_0, .int .i64 a0_1, .int .i64 a0_2, .bool a0_3, .int .i64 a0_4, .bool a0_5, .int .i64 a0_6] 23 (0, 0)) BK306.out hb)); (have n1_ := Aside0.mk (below_step HB.out hb)); clear BK306; clear HB; have BK306 := n0_; have HB := n1_; clear n0_ n1_; (try clear hb); (try clear hb2); (try clear hk); (try clear hi); (refine hK.out _ _ ⟨(blk_cell BK306.out 0).trans rfl, (blk_cell BK306.out 1).trans rfl, (blk_cell BK306.out 2).trans rfl, (blk_cell BK306.out 3).trans rfl, (blk_cell BK306.out 4).trans rfl, (blk_cell BK306.out 5).trans rfl, (blk_cell BK306.out 6).trans rfl⟩ (fun hHeld => ?_)); clear hK K; (refine norm_ (a' := ?_) ?_ ?_); rotate_left
              · (show Act.put _ (some 20) _ = _); (simp only [Act.put, List.setIfInBounds_toArray, List.set_cons_zero, List.set_cons_succ, i64_w, i32_w]); rfl
              (refine pure_ (i := 7) (N := some 21) (v := ?_) (a' := ?_) #[true, true, true, true, true, true, true, true, false] rfl rfl (any_of HT_.out (by kernel_rfl)) (fun _ _ _ h => h) (Or.inl ⟨by rfl, ?_⟩) ?_ ?_); rotate_left
              · intro w'; (go_simp); with_reducible rfl
              rotate_left
              · (simp only [Act.put, List.setIfInBounds_toArray, List.set_cons_zero, List.set_cons_succ, i64_w, i32_w]); rfl
              (refine pure_ (i := 8) (N := some 4) (v := ?_) (a' := ?_) #[true, true, true, true, true, true, true, true, true] rfl rfl (any_of HT_.out (by kernel_rfl)) (fun _ _ _ h => h) (Or.inl ⟨by rfl, ?_⟩) ?_ ?_); rotate_left
              · intro w'; (go_simp); with_reducible rfl
              rotate_left
              · (simp only [Act.put, List.setIfInBounds_toArray, List.set_cons_zero, List.set_cons_succ, i64_w, i32_w]); rfl
              (refine done_ (done_of HT_.out (by kernel_rfl)) ?_); (have hcz21_0 : w20.cell? ⟨gb306, 0, none⟩ = some (.int .i64 a0_0) := (blk_cell BK306.out 0).trans rfl); (have hcz21_1 : w20.cell? ⟨gb306, 1, none⟩ = some (.int .i64 a0_1) := (blk_cell BK306.out 1).trans rfl); (have hcz21_2 : w20.cell? ⟨gb306, 2, none⟩ = some (.int .i64 a0_2) := (blk_cell BK306.out 2).trans rfl); (have hcz21_3 : w20.cell? ⟨gb306, 3, none⟩ = some (.bool a0_3) := (blk_cell BK306.out 3).trans rfl); (have hcz21_4 : w20.cell? ⟨gb306, 4, none⟩ = some (.int .i64 a0_4) := (blk_cell BK306.out 4).trans rfl); (have hcz21_5 : w20.cell? ⟨gb306, 5, none⟩ = some (.bool a0_5) := (blk_cell BK306.out 5).trans rfl); (have hcz21_6 : w20.cell? ⟨gb306, 6, none⟩ = some (.int .i64 a0_6) := (blk_cell BK306.out 6).trans rfl); (have hfz21_0 := blk_frozen BK306.out 0); (have hfz21_1 := blk_frozen BK306.out 1); (have hfz21_2 := blk_frozen BK306.out 2); (have hfz21_3 := blk_frozen BK306.out 3); (have hfz21_4 := blk_frozen BK306.out 4); (have hfz21_5 := blk_frozen BK306.out 5); (have hfz21_6 := blk_frozen BK306.out 6); (try go_wp2); (go_meet); (case rel => exact ⟨_, ((t309 ++ (⟨#[47]⟩ : ByteArray)) ++ t310), (by first | rfl | (simp; done) | (simp [*]; done)), H', ⟨by first | omega | exact Nat.le_refl _⟩, ⟨by (with_reducible repeat (first | refine blk_drewN ?_ _ | refine blk_drew ?_ | refine blk_alloc ?_ _)); exact BK306.out⟩, ⟨by repeat (first | (with_reducible first | exact HB.out | apply below_alloc | apply pw_below_drewN | apply below_drew1 | refine below_set ?_ GE306.out) | exact HB.out)⟩⟩)
            · (rw [if_neg c17] at H); (have c17b0 : (a0_0 == 0) = false := beq_eq_false_iff_ne.mpr c17); (have c17b1 : (a0_0 != 0) = true := bne_iff_ne.mpr c17); (by_cases c22 : t308.size + 3 ≤ 9223372036854775807)
              · (rw [if_pos c22] at H); (have c22b0 := eq_true c22); (have c22b1 : decide (t308.size + 3 ≤ 9223372036854775807) = true := decide_eq_true c22); (try have c22b2 : (9223372036854775807 < t308.size + 3) = False := eq_false (Nat.not_lt.2 c22)); (by_cases c23 : t308.size + 3 + (t309.size + 1 + t310.size) ≤ 9223372036854775807)
                · (rw [if_pos c23] at H); (have c23b0 := eq_true c23); (have c23b1 : decide (t308.size + 3 + (t309.size + 1 + t310.size) ≤ 9223372036854775807) = true := decide_eq_true c23); (try have c23b2 : (9223372036854775807 < t308.size + 3 + (t309.size + 1 + t310.size)) = False := eq_false (Nat.not_lt.2 c23)); have H' := Aside0.mk H; clear H; (try go_wp2); (have n0_ := Aside0.mk (blk_drew BK306.out)); (have n1_ := Aside0.mk (below_drew1 HB.out)); clear BK306; clear HB; have BK306 := n0_; have HB := n1_; clear n0_ n1_; (refine start_ (n := 9) (S := fun w' => w'.cell? ⟨gb306, 0, none⟩ = some (.int .i64 a0_0) ∧ w'.cell? ⟨gb306, 1, none⟩ = some (.int .i64 a0_1) ∧ w'.cell? ⟨gb306, 2, none⟩ = some (.int .i64 a0_2) ∧ w'.cell? ⟨gb306, 3, none⟩ = some (.bool a0_3) ∧ w'.cell? ⟨gb306, 4, none⟩ = some (.int .i64 a0_4) ∧ w'.cell? ⟨gb306, 5, none⟩ = some (.bool a0_5) ∧ w'.cell? ⟨gb306, 6, none⟩ = some (.int .i64 a0_6)) (ds := []) #[false, false, false, false, false, false, false, false, false] (by kernel_rfl) rfl rfl ⟨(blk_cell BK306.out 0).trans rfl, (blk_cell BK306.out 1).trans rfl, (blk_cell BK306.out 2).trans rfl, (blk_cell BK306.out 3).trans rfl, (blk_cell BK306.out 4).trans rfl, (blk_cell BK306.out 5).trans rfl, (blk_cell BK306.out 6).trans rfl⟩ (fun hHeld => ?_); refine with_tabW customsref17_FormatDuty.tab5 customsref17_FormatDuty.bits5 (fun HT_ HW_ => ?_)); (generalize w10.drew = w24 at BK306 HB hHeld ⊢); (refine pure_ (i := 0) (N := some 14) (v := ?_) (a' := ?_) #[true, false, false, false, false, false, false, false, false] rfl rfl (any_of HT_.out (by kernel_rfl)) (fun _ _ _ h => h) (Or.inl ⟨by rfl, ?_⟩) ?_ ?_); rotate_left
                  · intro w'; (go_simp); with_reducible rfl
                  rotate_left
                  · (simp only [Act.put, List.setIfInBounds_toArray, List.set_cons_zero, List.set_cons_succ, i64_w, i32_w]); rfl
                  (refine pure_ (i := 4) (N := some 18) (v := ?_) (a' := ?_) #[true, false, false, false, true, false, false, false, false] rfl rfl (any_of HT_.out (by kernel_rfl)) (fun _ _ _ h => h) (Or.inl ⟨by rfl, ?_⟩) ?_ ?_); rotate_left
                  · intro w'; (go_simp); with_reducible rfl
                  rotate_left
                  · (simp only [Act.put, List.setIfInBounds_toArray, List.set_cons_zero, List.set_cons_succ, i64_w, i32_w]); rfl
                  (refine take_ (i := 1) (N := some 15) (v := ?_) (a' := ?_) #[true, true, false, false, true, false, false, false, false] rfl rfl (take_ofW HT_.out HW_.out (by kernel_rfl)) (fun _ _ _ h => h) (Or.inl ⟨by rfl, ?_⟩) hHeld ?_ ?_); rotate_left
                  · (rintro w' ⟨s0, s1, s2, s3, s4, s5, s6⟩); (go_simp); with_reducible rfl
                  rotate_left
                  · (simp only [Act.put, List.setIfInBounds_toArray, List.set_cons_zero, List.set_cons_succ, i64_w, i32_w]); rfl
                  (refine take_ (i := 5) (N := some 19) (v := ?_) (a' := ?_) #[true, true, false, false, true, true, false, false, false] rfl rfl (take_ofW HT_.out HW_.out (by kernel_rfl)) (fun _ _ _ h => h) (Or.inl ⟨by rfl, ?_⟩) hHeld ?_ ?_); rotate_left
                  · (rintro w' ⟨s0, s1, s2, s3, s4, s5, s6⟩); (go_simp); with_reducible rfl
                  rotate_left
                  · (simp only [Act.put, List.setIfInBounds_toArray, List.set_cons_zero, List.set_cons_succ, i64_w, i32_w]); rfl
                  (refine one_ (i := 2) (N := some 16) #[true, true, true, false, true, true, false, false, false] rfl rfl (one_of HT_.out (by kernel_rfl)) (by decide) (fun K hK => ?_)); (refine goes_ Tryd.func31 (by kernel_rfl) rfl #[.int .i64 a0_1] (by rfl) rfl rfl (by (try simp only [List.map_toArray, List.map_cons, List.map_nil]); first | done | rfl | (simp only [List.length_drop, List.length_take]; rfl)) ?_); (with_reducible refine (customsref02_Format.calls k a0_1 t309 _ A13.out).mono ?_); (rintro e w25 ⟨rfl, hb⟩); (refine ⟨_, rfl, ?_⟩); (have n0_ := Aside0.mk (blk_below (g := gb306) (o := .cells #[.int .i64 a0_0, .int .i64 a0_1, .int .i64 a0_2, .bool a0_3, .int .i64 a0_4, .bool a0_5, .int .i64 a0_6] 23 (0, 0)) BK306.out hb)); (have n1_ := Aside0.mk (below_step HB.out hb)); clear BK306; clear HB; have BK306 := n0_; have HB := n1_; clear n0_ n1_; (try clear hb); (try clear hb2); (try clear hk); (try clear hi); (refine hK.out _ _ ⟨(blk_cell BK306.out 0).trans rfl, (blk_cell BK306.out 1).trans rfl, (blk_cell BK306.out 2).trans rfl, (blk_cell BK306.out 3).trans rfl, (blk_cell BK306.out 4).trans rfl, (blk_cell BK306.out 5).trans rfl, (blk_cell BK306.out 6).trans rfl⟩ (fun hHeld => ?_)); clear hK K; (refine norm_ (a' := ?_) ?_ ?_); rotate_left
                  · (show Act.put _ (some 16) _ = _); (simp only [Act.put, List.setIfInBounds_toArray, List.set_cons_zero, List.set_cons_succ, i64_w, i32_w]); rfl
                  (refine pure_ (i := 3) (N := some 17) (v := ?_) (a' := ?_) #[true, true, true, true, true, true, false, false, false] rfl rfl (any_of HT_.out (by kernel_rfl)) (fun _ _ _ h => h) (Or.inl ⟨by rfl, ?_⟩) ?_ ?_); rotate_left
                  · intro w'; (go_simp); with_reducible rfl
                  rotate_left
                  · (simp only [Act.put, List.setIfInBounds_toArray, List.set_cons_zero, List.set_cons_succ, i64_w, i32_w]); rfl
                  (refine one_ (i := 6) (N := some 20) #[true, true, true, true, true, true, true, false, false] rfl rfl (one_of HT_.out (by kernel_rfl)) (by decide) (fun K hK => ?_)); (refine goes_ Tryd.func32 (by kernel_rfl) rfl #[.int .i64 a0_2] (by rfl) rfl rfl (by (try simp only [List.map_toArray, List.map_cons, List.map_nil]); first | done | rfl | (simp only [List.length_drop, List.length_take]; rfl)) ?_); (with_reducible refine (customsref02_Digits.calls k a0_2 t310 _ A15.out).mono ?_); (rintro e w26 ⟨rfl, hb⟩); (refine ⟨_, rfl, ?_⟩); (have n0_ := Aside0.mk (blk_below (g := gb306) (o := .cells #[.int .i64 a0_0, .int .i64 a0_1, .int .i64 a0_2, .bool a0_3, .int .i64 a0_4, .bool a0_5, .int .i64 a0_6] 23 (0, 0)) BK306.out hb)); (have n1_ := Aside0.mk (below_step HB.out hb)); clear BK306; clear HB; have BK306 := n0_; have HB := n1_; clear n0_ n1_; (try clear hb); (try clear hb2); (try clear hk); (try clear hi); (refine hK.out _ _ ⟨(blk_cell BK306.out 0).trans rfl, (blk_cell BK306.out 1).trans rfl, (blk_cell BK306.out 2).trans rfl, (blk_cell BK306.out 3).trans rfl, (blk_cell BK306.out 4).trans rfl, (blk_cell BK306.out 5).trans rfl, (blk_cell BK306.out 6).trans rfl⟩ (fun hHeld => ?_)); clear hK K; (refine norm_ (a' := ?_) ?_ ?_); rotate_left
                  · (show Act.put _ (some 20) _ = _); (simp only [Act.put, List.setIfInBounds_toArray, List.set_cons_zero, List.set_cons_succ, i64_w, i32_w]); rfl
                  (refine pure_ (i := 7) (N := some 21) (v := ?_) (a' := ?_) #[true, true, true, true, true, true, true, true, false] rfl rfl (any_of HT_.out (by kernel_rfl)) (fun _ _ _ h => h) (Or.inl ⟨by rfl, ?_⟩) ?_ ?_); rotate_left
                  · intro w'; (go_simp); with_reducible rfl
                  rotate_left
                  · (simp only [Act.put, List.setIfInBounds_toArray, List.set_cons_zero, List.set_cons_succ, i64_w, i32_w]); rfl
                  (refine pure_ (i := 8) (N := some 4) (v := ?_) (a' := ?_) #[true, true, true, true, true, true, true, true, true] rfl rfl (any_of HT_.out (by kernel_rfl)) (fun _ _ _ h => h) (Or.inl ⟨by rfl, ?_⟩) ?_ ?_); rotate_left
                  · intro w'; (go_simp); with_reducible rfl
                  rotate_left
                  · (simp only [Act.put, List.setIfInBounds_toArray, List.set_cons_zero, List.set_cons_succ, i64_w, i32_w]); rfl
                  (refine done_ (done_of HT_.out (by kernel_rfl)) ?_); (have hcz27_0 : w26.cell? ⟨gb306, 0, none⟩ = some (.int .i64 a0_0) := (blk_cell BK306.out 0).trans rfl); (have hcz27_1 : w26.cell? ⟨gb306, 1, none⟩ = some (.int .i64 a0_1) := (blk_cell BK306.out 1).trans rfl); (have hcz27_2 : w26.cell? ⟨gb306, 2, none⟩ = some (.int .i64 a0_2) := (blk_cell BK306.out 2).trans rfl); (have hcz27_3 : w26.cell? ⟨gb306, 3, none⟩ = some (.bool a0_3) := (blk_cell BK306.out 3).trans rfl); (have hcz27_4 : w26.cell? ⟨gb306, 4, none⟩ = some (.int .i64 a0_4) := (blk_cell BK306.out 4).trans rfl); (have hcz27_5 : w26.cell? ⟨gb306, 5, none⟩ = some (.bool a0_5) := (blk_cell BK306.out 5).trans rfl); (have hcz27_6 : w26.cell? ⟨gb306, 6, none⟩ = some (.int .i64 a0_6) := (blk_cell BK306.out 6).trans rfl); (have hfz27_0 := blk_frozen BK306.out 0); (have hfz27_1 := blk_frozen BK306.out 1); (have hfz27_2 := blk_frozen BK306.out 2); (have hfz27_3 := blk_frozen BK306.out 3); (have hfz27_4 := blk_frozen BK306.out 4); (have hfz27_5 := blk_frozen BK306.out 5); (have hfz27_6 := blk_frozen BK306.out 6); (try go_wp2); (go_meet); (case rel => exact ⟨_, ((t308 ++ (⟨#[32, 43, 32]⟩ : ByteArray)) ++ ((t309 ++ (⟨#[47]⟩ : ByteArray)) ++ t310)), (by first | rfl | (simp; done) | (simp [*]; done)), H', ⟨by first | omega | exact Nat.le_refl _⟩, ⟨by (with_reducible repeat (first | refine blk_drewN ?_ _ | refine blk_drew ?_ | refine blk_alloc ?_ _)); exact BK306.out⟩, ⟨by repeat (first | (with_reducible first | exact HB.out | apply below_alloc | apply pw_below_drewN | apply below_drew1 | refine below_set ?_ GE306.out) | exact HB.out)⟩⟩)
                · (rw [if_neg c23] at H); (exact absurd H (by simp))
              · (rw [if_neg c22] at H); (exact absurd H (by simp))
          · (rw [if_neg c16] at H); (exact absurd H (by simp))
        · (rw [if_neg c14] at H); (exact absurd H (by simp))
      · (rw [if_neg c12] at H); (have c12b0 : decide (0 < a0_1) = false := decide_eq_false c12); clear c12; (first | rw [c12b0] | (simp only [i64_w, i32_w]; rw [c12b0]) | skip); have H' := Aside0.mk H; clear H; go_wp2; (go_meet); (case rel => exact ⟨_, (t308), (by first | rfl | (simp; done) | (simp [*]; done)), H', ⟨by first | omega | exact Nat.le_refl _⟩, ⟨by (with_reducible repeat (first | refine blk_drewN ?_ _ | refine blk_drew ?_ | refine blk_alloc ?_ _)); exact BK306.out⟩, ⟨by repeat (first | (with_reducible first | exact HB.out | apply below_alloc | apply pw_below_drewN | apply below_drew1 | refine below_set ?_ GE306.out) | exact HB.out)⟩⟩)
    case rest =>
      clear HC5; (try clear c1); (try clear c2); (try clear p2); (try clear c3); (try clear c3b0); (try clear c3b1); (try clear c12); (try clear c12b0); (try clear c14); (try clear c14b0); (try clear c14b1); (try clear c14b2); (try clear c16); (try clear c16b0); (try clear c16b1); (try clear c16b2); (try clear c17); (try clear c17b0); (try clear c17b1); (try clear c22); (try clear c22b0); (try clear c22b1); (try clear c22b2); (try clear c23); (try clear c23b0); (try clear c23b1); (try clear c23b2); (try clear hcz11_0); (try clear hcz11_1); (try clear hcz11_2); (try clear hcz11_3); (try clear hcz11_4); (try clear hcz11_5); (try clear hcz11_6); (try clear hcz21_0); (try clear hcz21_1); (try clear hcz21_2); (try clear hcz21_3); (try clear hcz21_4); (try clear hcz21_5); (try clear hcz21_6); (try clear hcz27_0); (try clear hcz27_1); (try clear hcz27_2); (try clear hcz27_3); (try clear hcz27_4); (try clear hcz27_5); (try clear hcz27_6); (try clear hcz7_0); (try clear hcz7_1); (try clear hcz7_2); (try clear hcz7_3); (try clear hcz7_4); (try clear hcz7_5); (try clear hcz7_6); (try clear hcz9_0); (try clear hcz9_1); (try clear hcz9_2); (try clear hcz9_3); (try clear hcz9_4); (try clear hcz9_5); (try clear hcz9_6); (try clear hfz11_0); (try clear hfz11_1); (try clear hfz11_2); (try clear hfz11_3); (try clear hfz11_4); (try clear hfz11_5); (try clear hfz11_6); (try clear hfz21_0); (try clear hfz21_1); (try clear hfz21_2); (try clear hfz21_3); (try clear hfz21_4); (try clear hfz21_5); (try clear hfz21_6); (try clear hfz27_0); (try clear hfz27_1); (try clear hfz27_2); (try clear hfz27_3); (try clear hfz27_4); (try clear hfz27_5); (try clear hfz27_6); (try clear hfz7_0); (try clear hfz7_1); (try clear hfz7_2); (try clear hfz7_3); (try clear hfz7_4); (try clear hfz7_5); (try clear hfz7_6); (try clear hfz9_0); (try clear hfz9_1); (try clear hfz9_2); (try clear hfz9_3); (try clear hfz9_4); (try clear hfz9_5); (try clear hfz9_6); (obtain ⟨kq, x3_4, rfl, HA, HJ4, BK306, HB⟩ := hcut)
      cases kq with
      | zero => exact absurd HA.out (by simp [customsref17_FormatDuty.j0])
      | succ kj4 =>
        have H := HA.out; clear HA; (simp only [customsref17_FormatDuty.j0] at H); (by_cases c28 : a0_3 = true)
        · subst c28; (have H1 : (if x3_4.size + 5 ≤ 9223372036854775807 then ((customsref12_Percent.f kj4 a0_4).bind fun t311 => (if x3_4.size + 5 + t311.size ≤ 9223372036854775807 then (if a0_5 = true then (if x3_4.size + 5 + t311.size + 5 ≤ 9223372036854775807 then ((customsref12_Percent.f kj4 a0_6).bind fun t312 => (if x3_4.size + 5 + t311.size + 5 + t312.size ≤ 9223372036854775807 then (some ((((x3_4 ++ (⟨#[32, 109, 97, 120, 32]⟩ : ByteArray)) ++ t311) ++ (⟨#[32, 109, 105, 110, 32]⟩ : ByteArray)) ++ t312)) else (none))) else (none)) else (some ((x3_4 ++ (⟨#[32, 109, 97, 120, 32]⟩ : ByteArray)) ++ t311))) else (none))) else (none)) = some r := by rw [if_pos rfl] at H; exact H); clear H; have H := H1; clear H1; (by_cases c29 : x3_4.size + 5 ≤ 9223372036854775807)
          · (rw [if_pos c29] at H); (have c29b0 := eq_true c29); (have c29b1 : decide (x3_4.size + 5 ≤ 9223372036854775807) = true := decide_eq_true c29); (try have c29b2 : (9223372036854775807 < x3_4.size + 5) = False := eq_false (Nat.not_lt.2 c29)); (replace H := Option.bind_eq_some_iff.mp H); (obtain ⟨t311, A300, H⟩ := H); (replace H : (if x3_4.size + 5 + t311.size ≤ 9223372036854775807 then (if a0_5 = true then (if x3_4.size + 5 + t311.size + 5 ≤ 9223372036854775807 then ((customsref12_Percent.f kj4 a0_6).bind fun t312 => (if x3_4.size + 5 + t311.size + 5 + t312.size ≤ 9223372036854775807 then (some ((((x3_4 ++ (⟨#[32, 109, 97, 120, 32]⟩ : ByteArray)) ++ t311) ++ (⟨#[32, 109, 105, 110, 32]⟩ : ByteArray)) ++ t312)) else (none))) else (none)) else (some ((x3_4 ++ (⟨#[32, 109, 97, 120, 32]⟩ : ByteArray)) ++ t311))) else (none)) = some r := H); have A30 := Aside0.mk A300; clear A300; (by_cases c31 : x3_4.size + 5 + t311.size ≤ 9223372036854775807)
            · (rw [if_pos c31] at H); (have c31b0 := eq_true c31); (have c31b1 : decide (x3_4.size + 5 + t311.size ≤ 9223372036854775807) = true := decide_eq_true c31); (try have c31b2 : (9223372036854775807 < x3_4.size + 5 + t311.size) = False := eq_false (Nat.not_lt.2 c31)); (by_cases c32 : a0_5 = true)
              · subst c32; (have H1 : (if x3_4.size + 5 + t311.size + 5 ≤ 9223372036854775807 then ((customsref12_Percent.f kj4 a0_6).bind fun t312 => (if x3_4.size + 5 + t311.size + 5 + t312.size ≤ 9223372036854775807 then (some ((((x3_4 ++ (⟨#[32, 109, 97, 120, 32]⟩ : ByteArray)) ++ t311) ++ (⟨#[32, 109, 105, 110, 32]⟩ : ByteArray)) ++ t312)) else (none))) else (none)) = some r := by rw [if_pos rfl] at H; exact H); clear H; have H := H1; clear H1; (by_cases c33 : x3_4.size + 5 + t311.size + 5 ≤ 9223372036854775807)
                · (rw [if_pos c33] at H); (have c33b0 := eq_true c33); (have c33b1 : decide (x3_4.size + 5 + t311.size + 5 ≤ 9223372036854775807) = true := decide_eq_true c33); (try have c33b2 : (9223372036854775807 < x3_4.size + 5 + t311.size + 5) = False := eq_false (Nat.not_lt.2 c33)); (replace H := Option.bind_eq_some_iff.mp H); (obtain ⟨t312, A340, H⟩ := H); (replace H : (if x3_4.size + 5 + t311.size + 5 + t312.size ≤ 9223372036854775807 then (some ((((x3_4 ++ (⟨#[32, 109, 97, 120, 32]⟩ : ByteArray)) ++ t311) ++ (⟨#[32, 109, 105, 110, 32]⟩ : ByteArray)) ++ t312)) else (none)) = some r := H); have A34 := Aside0.mk A340; clear A340; (by_cases c35 : x3_4.size + 5 + t311.size + 5 + t312.size ≤ 9223372036854775807)
                  · (rw [if_pos c35] at H); (have c35b0 := eq_true c35); (have c35b1 : decide (x3_4.size + 5 + t311.size + 5 + t312.size ≤ 9223372036854775807) = true := decide_eq_true c35); (try have c35b2 : (9223372036854775807 < x3_4.size + 5 + t311.size + 5 + t312.size) = False := eq_false (Nat.not_lt.2 c35)); (obtain rfl := Option.some.inj H); (have hcz36_0 : wc.cell? ⟨gb306, 0, none⟩ = some (.int .i64 a0_0) := (blk_cell BK306.out 0).trans rfl); (have hcz36_1 : wc.cell? ⟨gb306, 1, none⟩ = some (.int .i64 a0_1) := (blk_cell BK306.out 1).trans rfl); (have hcz36_2 : wc.cell? ⟨gb306, 2, none⟩ = some (.int .i64 a0_2) := (blk_cell BK306.out 2).trans rfl); (have hcz36_3 : wc.cell? ⟨gb306, 3, none⟩ = some (.bool true) := (blk_cell BK306.out 3).trans rfl); (have hcz36_4 : wc.cell? ⟨gb306, 4, none⟩ = some (.int .i64 a0_4) := (blk_cell BK306.out 4).trans rfl); (have hcz36_5 : wc.cell? ⟨gb306, 5, none⟩ = some (.bool true) := (blk_cell BK306.out 5).trans rfl); (have hcz36_6 : wc.cell? ⟨gb306, 6, none⟩ = some (.int .i64 a0_6) := (blk_cell BK306.out 6).trans rfl); (have hfz36_0 := blk_frozen BK306.out 0); (have hfz36_1 := blk_frozen BK306.out 1); (have hfz36_2 := blk_frozen BK306.out 2); (have hfz36_3 := blk_frozen BK306.out 3); (have hfz36_4 := blk_frozen BK306.out 4); (have hfz36_5 := blk_frozen BK306.out 5); (have hfz36_6 := blk_frozen BK306.out 6); (go_wp2_with (first | ((with_reducible refine gate_callee (f := 30) rfl ?_); refine goesL_ (some 36) rfl rfl Tryd.func30 (by kernel_rfl) rfl #[.int .i64 a0_4] rfl (by (try simp only [List.map_toArray, List.map_cons, List.map_nil]); first | done | rfl | (simp only [List.length_drop, List.length_take]; rfl)) ?_; (with_reducible refine (customsref12_Percent.calls kj4 a0_4 t311 _ A30.out).mono ?_); rintro e w37 ⟨rfl, hb⟩; refine ⟨_, rfl, ?_⟩; have n0_ := Aside0.mk (blk_below (g := gb306) (o := .cells #[.int .i64 a0_0, .int .i64 a0_1, .int .i64 a0_2, .bool true, .int .i64 a0_4, .bool true, .int .i64 a0_6] 23 (0, 0)) BK306.out hb); have n1_ := Aside0.mk (below_step HB.out hb); clear BK306; clear HB; have BK306 := n0_; have HB := n1_; clear n0_ n1_; (try clear hb); (try clear hb2); (try clear hk); (try clear hi); have hcz38_0 : w37.cell? ⟨gb306, 0, none⟩ = some (.int .i64 a0_0) := (blk_cell BK306.out 0).trans rfl; have hcz38_1 : w37.cell? ⟨gb306, 1, none⟩ = some (.int .i64 a0_1) := (blk_cell BK306.out 1).trans rfl; have hcz38_2 : w37.cell? ⟨gb306, 2, none⟩ = some (.int .i64 a0_2) := (blk_cell BK306.out 2).trans rfl; have hcz38_3 : w37.cell? ⟨gb306, 3, none⟩ = some (.bool true) := (blk_cell BK306.out 3).trans rfl; have hcz38_4 : w37.cell? ⟨gb306, 4, none⟩ = some (.int .i64 a0_4) := (blk_cell BK306.out 4).trans rfl; have hcz38_5 : w37.cell? ⟨gb306, 5, none⟩ = some (.bool true) := (blk_cell BK306.out 5).trans rfl; have hcz38_6 : w37.cell? ⟨gb306, 6, none⟩ = some (.int .i64 a0_6) := (blk_cell BK306.out 6).trans rfl; have hfz38_0 := blk_frozen BK306.out 0; have hfz38_1 := blk_frozen BK306.out 1; have hfz38_2 := blk_frozen BK306.out 2; have hfz38_3 := blk_frozen BK306.out 3; have hfz38_4 := blk_frozen BK306.out 4; have hfz38_5 := blk_frozen BK306.out 5; have hfz38_6 := blk_frozen BK306.out 6) | ((with_reducible refine gate_callee (f := 30) rfl ?_); refine goesL_ (some 44) rfl rfl Tryd.func30 (by kernel_rfl) rfl #[.int .i64 a0_6] rfl (by (try simp only [List.map_toArray, List.map_cons, List.map_nil]); first | done | rfl | (simp only [List.length_drop, List.length_take]; rfl)) ?_; (with_reducible refine (customsref12_Percent.calls kj4 a0_6 t312 _ A34.out).mono ?_); rintro e w39 ⟨rfl, hb⟩; refine ⟨_, rfl, ?_⟩; have n0_ := Aside0.mk (blk_below (g := gb306) (o := .cells #[.int .i64 a0_0, .int .i64 a0_1, .int .i64 a0_2, .bool true, .int .i64 a0_4, .bool true, .int .i64 a0_6] 23 (0, 0)) BK306.out hb); have n1_ := Aside0.mk (below_step HB.out hb); clear BK306; clear HB; have BK306 := n0_; have HB := n1_; clear n0_ n1_; (try clear hb); (try clear hb2); (try clear hk); (try clear hi)))); go_ret; (exact ⟨by first | rfl | (simp [errW_none, errW_some] <;> rfl) | (simp [*, errW_none, errW_some] <;> rfl), by repeat (first | (with_reducible first | exact HB.out | apply below_alloc | apply pw_below_drewN | apply below_drew1 | refine below_set ?_ GE306.out) | exact HB.out)⟩)
                  · (rw [if_neg c35] at H); (exact absurd H (by simp))
                · (rw [if_neg c33] at H); (exact absurd H (by simp))
              · (replace c32 := Bool.eq_false_iff.mpr c32); subst c32; (have H1 : (some ((x3_4 ++ (⟨#[32, 109, 97, 120, 32]⟩ : ByteArray)) ++ t311)) = some r := by rw [if_neg (show ¬ (false = true) by decide)] at H; exact H); clear H; have H := H1; clear H1; (obtain rfl := Option.some.inj H); (have hcz40_0 : wc.cell? ⟨gb306, 0, none⟩ = some (.int .i64 a0_0) := (blk_cell BK306.out 0).trans rfl); (have hcz40_1 : wc.cell? ⟨gb306, 1, none⟩ = some (.int .i64 a0_1) := (blk_cell BK306.out 1).trans rfl); (have hcz40_2 : wc.cell? ⟨gb306, 2, none⟩ = some (.int .i64 a0_2) := (blk_cell BK306.out 2).trans rfl); (have hcz40_3 : wc.cell? ⟨gb306, 3, none⟩ = some (.bool true) := (blk_cell BK306.out 3).trans rfl); (have hcz40_4 : wc.cell? ⟨gb306, 4, none⟩ = some (.int .i64 a0_4) := (blk_cell BK306.out 4).trans rfl); (have hcz40_5 : wc.cell? ⟨gb306, 5, none⟩ = some (.bool false) := (blk_cell BK306.out 5).trans rfl); (have hcz40_6 : wc.cell? ⟨gb306, 6, none⟩ = some (.int .i64 a0_6) := (blk_cell BK306.out 6).trans rfl); (have hfz40_0 := blk_frozen BK306.out 0); (have hfz40_1 := blk_frozen BK306.out 1); (have hfz40_2 := blk_frozen BK306.out 2); (have hfz40_3 := blk_frozen BK306.out 3); (have hfz40_4 := blk_frozen BK306.out 4); (have hfz40_5 := blk_frozen BK306.out 5); (have hfz40_6 := blk_frozen BK306.out 6); (go_wp2_with (first | ((with_reducible refine gate_callee (f := 30) rfl ?_); refine goesL_ (some 36) rfl rfl Tryd.func30 (by kernel_rfl) rfl #[.int .i64 a0_4] rfl (by (try simp only [List.map_toArray, List.map_cons, List.map_nil]); first | done | rfl | (simp only [List.length_drop, List.length_take]; rfl)) ?_; (with_reducible refine (customsref12_Percent.calls kj4 a0_4 t311 _ A30.out).mono ?_); rintro e w41 ⟨rfl, hb⟩; refine ⟨_, rfl, ?_⟩; have n0_ := Aside0.mk (blk_below (g := gb306) (o := .cells #[.int .i64 a0_0, .int .i64 a0_1, .int .i64 a0_2, .bool true, .int .i64 a0_4, .bool false, .int .i64 a0_6] 23 (0, 0)) BK306.out hb); have n1_ := Aside0.mk (below_step HB.out hb); clear BK306; clear HB; have BK306 := n0_; have HB := n1_; clear n0_ n1_; (try clear hb); (try clear hb2); (try clear hk); (try clear hi); have hcz42_0 : w41.cell? ⟨gb306, 0, none⟩ = some (.int .i64 a0_0) := (blk_cell BK306.out 0).trans rfl; have hcz42_1 : w41.cell? ⟨gb306, 1, none⟩ = some (.int .i64 a0_1) := (blk_cell BK306.out 1).trans rfl; have hcz42_2 : w41.cell? ⟨gb306, 2, none⟩ = some (.int .i64 a0_2) := (blk_cell BK306.out 2).trans rfl; have hcz42_3 : w41.cell? ⟨gb306, 3, none⟩ = some (.bool true) := (blk_cell BK306.out 3).trans rfl; have hcz42_4 : w41.cell? ⟨gb306, 4, none⟩ = some (.int .i64 a0_4) := (blk_cell BK306.out 4).trans rfl; have hcz42_5 : w41.cell? ⟨gb306, 5, none⟩ = some (.bool false) := (blk_cell BK306.out 5).trans rfl; have hcz42_6 : w41.cell? ⟨gb306, 6, none⟩ = some (.int .i64 a0_6) := (blk_cell BK306.out 6).trans rfl; have hfz42_0 := blk_frozen BK306.out 0; have hfz42_1 := blk_frozen BK306.out 1; have hfz42_2 := blk_frozen BK306.out 2; have hfz42_3 := blk_frozen BK306.out 3; have hfz42_4 := blk_frozen BK306.out 4; have hfz42_5 := blk_frozen BK306.out 5; have hfz42_6 := blk_frozen BK306.out 6))); go_ret; (exact ⟨by first | rfl | (simp [errW_none, errW_some] <;> rfl) | (simp [*, errW_none, errW_some] <;> rfl), by repeat (first | (with_reducible first | exact HB.out | apply below_alloc | apply pw_below_drewN | apply below_drew1 | refine below_set ?_ GE306.out) | exact HB.out)⟩)
            · (rw [if_neg c31] at H); (exact absurd H (by simp))
          · (rw [if_neg c29] at H); (exact absurd H (by simp))
        · (replace c28 := Bool.eq_false_iff.mpr c28); subst c28; (have H1 : (if a0_5 = true then (if x3_4.size + 5 ≤ 9223372036854775807 then ((customsref12_Percent.f kj4 a0_6).bind fun t313 => (if x3_4.size + 5 + t313.size ≤ 9223372036854775807 then (some ((x3_4 ++ (⟨#[32, 109, 105, 110, 32]⟩ : ByteArray)) ++ t313)) else (none))) else (none)) else (some x3_4)) = some r := by rw [if_neg (show ¬ (false = true) by decide)] at H; exact H); clear H; have H := H1; clear H1; (by_cases c43 : a0_5 = true)
          · subst c43; (have H1 : (if x3_4.size + 5 ≤ 9223372036854775807 then ((customsref12_Percent.f kj4 a0_6).bind fun t313 => (if x3_4.size + 5 + t313.size ≤ 9223372036854775807 then (some ((x3_4 ++ (⟨#[32, 109, 105, 110, 32]⟩ : ByteArray)) ++ t313)) else (none))) else (none)) = some r := by rw [if_pos rfl] at H; exact H); clear H; have H := H1; clear H1; (by_cases c44 : x3_4.size + 5 ≤ 9223372036854775807)
            · (rw [if_pos c44] at H); (have c44b0 := eq_true c44); (have c44b1 : decide (x3_4.size + 5 ≤ 9223372036854775807) = true := decide_eq_true c44); (try have c44b2 : (9223372036854775807 < x3_4.size + 5) = False := eq_false (Nat.not_lt.2 c44)); (replace H := Option.bind_eq_some_iff.mp H); (obtain ⟨t313, A450, H⟩ := H); (replace H : (if x3_4.size + 5 + t313.size ≤ 9223372036854775807 then (some ((x3_4 ++ (⟨#[32, 109, 105, 110, 32]⟩ : ByteArray)) ++ t313)) else (none)) = some r := H); have A45 := Aside0.mk A450; clear A450; (by_cases c46 : x3_4.size + 5 + t313.size ≤ 9223372036854775807)
              · (rw [if_pos c46] at H); (have c46b0 := eq_true c46); (have c46b1 : decide (x3_4.size + 5 + t313.size ≤ 9223372036854775807) = true := decide_eq_true c46); (try have c46b2 : (9223372036854775807 < x3_4.size + 5 + t313.size) = False := eq_false (Nat.not_lt.2 c46)); (obtain rfl := Option.some.inj H); (have hcz47_0 : wc.cell? ⟨gb306, 0, none⟩ = some (.int .i64 a0_0) := (blk_cell BK306.out 0).trans rfl); (have hcz47_1 : wc.cell? ⟨gb306, 1, none⟩ = some (.int .i64 a0_1) := (blk_cell BK306.out 1).trans rfl); (have hcz47_2 : wc.cell? ⟨gb306, 2, none⟩ = some (.int .i64 a0_2) := (blk_cell BK306.out 2).trans rfl); (have hcz47_3 : wc.cell? ⟨gb306, 3, none⟩ = some (.bool false) := (blk_cell BK306.out 3).trans rfl); (have hcz47_4 : wc.cell? ⟨gb306, 4, none⟩ = some (.int .i64 a0_4) := (blk_cell BK306.out 4).trans rfl); (have hcz47_5 : wc.cell? ⟨gb306, 5, none⟩ = some (.bool true) := (blk_cell BK306.out 5).trans rfl); (have hcz47_6 : wc.cell? ⟨gb306, 6, none⟩ = some (.int .i64 a0_6) := (blk_cell BK306.out 6).trans rfl); (have hfz47_0 := blk_frozen BK306.out 0); (have hfz47_1 := blk_frozen BK306.out 1); (have hfz47_2 := blk_frozen BK306.out 2); (have hfz47_3 := blk_frozen BK306.out 3); (have hfz47_4 := blk_frozen BK306.out 4); (have hfz47_5 := blk_frozen BK306.out 5); (have hfz47_6 := blk_frozen BK306.out 6); (go_wp2_with (first | ((with_reducible refine gate_callee (f := 30) rfl ?_); refine goesL_ (some 44) rfl rfl Tryd.func30 (by kernel_rfl) rfl #[.int .i64 a0_6] rfl (by (try simp only [List.map_toArray, List.map_cons, List.map_nil]); first | done | rfl | (simp only [List.length_drop, List.length_take]; rfl)) ?_; (with_reducible refine (customsref12_Percent.calls kj4 a0_6 t313 _ A45.out).mono ?_); rintro e w48 ⟨rfl, hb⟩; refine ⟨_, rfl, ?_⟩; have n0_ := Aside0.mk (blk_below (g := gb306) (o := .cells #[.int .i64 a0_0, .int .i64 a0_1, .int .i64 a0_2, .bool false, .int .i64 a0_4, .bool true, .int .i64 a0_6] 23 (0, 0)) BK306.out hb); have n1_ := Aside0.mk (below_step HB.out hb); clear BK306; clear HB; have BK306 := n0_; have HB := n1_; clear n0_ n1_; (try clear hb); (try clear hb2); (try clear hk); (try clear hi)))); go_ret; (exact ⟨by first | rfl | (simp [errW_none, errW_some] <;> rfl) | (simp [*, errW_none, errW_some] <;> rfl), by repeat (first | (with_reducible first | exact HB.out | apply below_alloc | apply pw_below_drewN | apply below_drew1 | refine below_set ?_ GE306.out) | exact HB.out)⟩)
              · (rw [if_neg c46] at H); (exact absurd H (by simp))
            · (rw [if_neg c44] at H); (exact absurd H (by simp))
          · (replace c43 := Bool.eq_false_iff.mpr c43); subst c43; (have H1 : (some x3_4) = some r := by rw [if_neg (show ¬ (false = true) by decide)] at H; exact H); clear H; have H := H1; clear H1; (obtain rfl := Option.some.inj H); (have hcz49_0 : wc.cell? ⟨gb306, 0, none⟩ = some (.int .i64 a0_0) := (blk_cell BK306.out 0).trans rfl); (have hcz49_1 : wc.cell? ⟨gb306, 1, none⟩ = some (.int .i64 a0_1) := (blk_cell BK306.out 1).trans rfl); (have hcz49_2 : wc.cell? ⟨gb306, 2, none⟩ = some (.int .i64 a0_2) := (blk_cell BK306.out 2).trans rfl); (have hcz49_3 : wc.cell? ⟨gb306, 3, none⟩ = some (.bool false) := (blk_cell BK306.out 3).trans rfl); (have hcz49_4 : wc.cell? ⟨gb306, 4, none⟩ = some (.int .i64 a0_4) := (blk_cell BK306.out 4).trans rfl); (have hcz49_5 : wc.cell? ⟨gb306, 5, none⟩ = some (.bool false) := (blk_cell BK306.out 5).trans rfl); (have hcz49_6 : wc.cell? ⟨gb306, 6, none⟩ = some (.int .i64 a0_6) := (blk_cell BK306.out 6).trans rfl); (have hfz49_0 := blk_frozen BK306.out 0); (have hfz49_1 := blk_frozen BK306.out 1); (have hfz49_2 := blk_frozen BK306.out 2); (have hfz49_3 := blk_frozen BK306.out 3); (have hfz49_4 := blk_frozen BK306.out 4); (have hfz49_5 := blk_frozen BK306.out 5); (have hfz49_6 := blk_frozen BK306.out 6); go_wp2; go_ret; (exact ⟨by first | rfl | (simp [errW_none, errW_some] <;> rfl) | (simp [*, errW_none, errW_some] <;> rfl), by repeat (first | (with_reducible first | exact HB.out | apply below_alloc | apply pw_below_drewN | apply below_drew1 | refine below_set ?_ GE306.out) | exact HB.out)⟩)
  · (rw [if_neg c3] at H); (have c3b0 : (t307 == 0) = false := beq_eq_false_iff_ne.mpr c3); (have c3b1 : (t307 != 0) = true := bne_iff_ne.mpr c3); (obtain rfl := Option.some.inj H); (go_enter Tryd.func16, Tryd.ntmps16); (go_wp2_with (first | ((with_reducible refine gate_dst (N := 1) rfl ?_); refine box_event ?hg (N := 1) ?hd (cs := #[.int .i64 a0_0, .int .i64 a0_1, .int .i64 a0_2, .bool a0_3, .int .i64 a0_4, .bool a0_5, .int .i64 a0_6]) (t := 23) ?hr ?_; (case hd => rfl); (case hg => rfl); (case hr => first | (go_simp; done) | (go_simp; rfl)); intro gb306 hg w50 hbox hb; have n0_ := Aside0.mk (below_step HB.out hb); have n1_ := Aside0.mk (hbox); have n2_ := Aside0.mk ((by rw [hg]; exact (below_size HB.out) : w.heap.size ≤ gb306)); have n3_ := Aside0.mk ((by rw [hg]; exact (below_size HB.out) : w.heap.size ≤ gb306)); clear HB; have HB := n0_; have BK306 := n1_; have GW306 := n2_; have GE306 := n3_; clear n0_ n1_ n2_ n3_; clear hb hbox hg; have hcz51_0 : w50.cell? ⟨gb306, 0, none⟩ = some (.int .i64 a0_0) := (blk_cell BK306.out 0).trans rfl; have hcz51_1 : w50.cell? ⟨gb306, 1, none⟩ = some (.int .i64 a0_1) := (blk_cell BK306.out 1).trans rfl; have hcz51_2 : w50.cell? ⟨gb306, 2, none⟩ = some (.int .i64 a0_2) := (blk_cell BK306.out 2).trans rfl; have hcz51_3 : w50.cell? ⟨gb306, 3, none⟩ = some (.bool a0_3) := (blk_cell BK306.out 3).trans rfl; have hcz51_4 : w50.cell? ⟨gb306, 4, none⟩ = some (.int .i64 a0_4) := (blk_cell BK306.out 4).trans rfl; have hcz51_5 : w50.cell? ⟨gb306, 5, none⟩ = some (.bool a0_5) := (blk_cell BK306.out 5).trans rfl; have hcz51_6 : w50.cell? ⟨gb306, 6, none⟩ = some (.int .i64 a0_6) := (blk_cell BK306.out 6).trans rfl; have hfz51_0 := blk_frozen BK306.out 0; have hfz51_1 := blk_frozen BK306.out 1; have hfz51_2 := blk_frozen BK306.out 2; have hfz51_3 := blk_frozen BK306.out 3; have hfz51_4 := blk_frozen BK306.out 4; have hfz51_5 := blk_frozen BK306.out 5; have hfz51_6 := blk_frozen BK306.out 6) | ((with_reducible refine gate_callee (f := 12) rfl ?_); refine goesL_ (some 6) rfl rfl Tryd.func12 (by kernel_rfl) rfl #[.agg #[.int .i64 a0_0, .int .i64 a0_1, .int .i64 a0_2, .bool a0_3, .int .i64 a0_4, .bool a0_5, .int .i64 a0_6]] rfl (by (try simp only [List.map_toArray, List.map_cons, List.map_nil]); first | done | rfl | (simp only [List.length_drop, List.length_take]; rfl)) ?_; (with_reducible refine (customsref17_Duty.calls k a0_0 a0_1 a0_2 a0_3 a0_4 a0_5 a0_6 t307 _ A2.out).mono ?_); rintro e w52 ⟨rfl, hb⟩; refine ⟨_, rfl, ?_⟩; have n0_ := Aside0.mk (blk_below (g := gb306) (o := .cells #[.int .i64 a0_0, .int .i64 a0_1, .int .i64 a0_2, .bool a0_3, .int .i64 a0_4, .bool a0_5, .int .i64 a0_6] 23 (0, 0)) BK306.out hb); have n1_ := Aside0.mk (below_step HB.out hb); clear BK306; clear HB; have BK306 := n0_; have HB := n1_; clear n0_ n1_; (try clear hb); (try clear hb2); (try clear hk); (try clear hi)))); go_ret; (exact ⟨by first | rfl | (simp [errW_none, errW_some] <;> rfl) | (simp [*, errW_none, errW_some] <;> rfl), by repeat (first | (with_reducible first | exact HB.out | apply below_alloc | apply pw_below_drewN | apply below_drew1 | refine below_set ?_ GE306.out) | exact HB.out)⟩)
end Go.Proofs.YtfpkgdkcllobiaaDoor.F
end
section
namespace Go.Proofs.YtfpkgdkcllobiaaDoor.F
open Go.RowKit Go.Proofs.YtfpkgdkcllobiaaDoorW.PrintWords Go.Proofs.YtfpkgdkcllobiaaDoorW.PrintLast Go.Proofs.YtfpkgdkcllobiaaDoorW.PrintMore
attribute [local go_sem] max2_int min2_int max_two min_two max_three min_three max_four min_four   -- for this text's walks alone
set_option linter.unusedVariables false
set_option linter.unusedSimpArgs false

-- NOT PRINTED: function 5 (customslaw18_DutyParse)

/-! ### customslaw18_amount: function 19 -/
def customslaw18_amount.f (a0 : Int) (a1 : Bool) : Option (Int) := if a1 = true then ((customsmade_Within.f a0 100000).bind fun t447 => (some t447)) else ((customsmade_Within.f a0 1000000000001).bind fun t448 => (some t448))
set_option maxHeartbeats 8000000 in
set_option maxRecDepth 100000 in
theorem customslaw18_amount.calls (a0 : Int) (a1 : Bool) (r : Int) (w : World) (h : customslaw18_amount.f a0 a1 = some r) :
    Calls Tryd.prog 19 #[.int .i64 a0, .bool a1] w fun e w' => e = .returned (.int .i64 r) ∧ Drawn0 w w' := by
  have H : (if a1 = true then ((customsmade_Within.f a0 100000).bind fun t447 => (some t447)) else ((customsmade_Within.f a0 1000000000001).bind fun t448 => (some t448))) = some r := h
  clear h
  by_cases c3 : a1 = true
  · subst c3
    have H1 : ((customsmade_Within.f a0 100000).bind fun t447 => (some t447)) = some r := by rw [if_pos rfl] at H; exact H
    clear H
    have H := H1
    clear H1
    replace H := Option.bind_eq_some_iff.mp H
    obtain ⟨t447, A40, H⟩ := H
    replace H : (some t447) = some r := H
    have A4 := Aside0.mk A40
    clear A40
    obtain rfl := Option.some.inj H
    go_enter Tryd.func19, Tryd.ntmps19
    go_wp2_with (first | ((with_reducible refine gate_callee (f := 13) rfl ?_); refine goesL_ (some 7) rfl rfl Tryd.func13 (by kernel_rfl) rfl #[.int .i64 a0, .int .i64 100000] rfl (by (try simp only [List.map_toArray, List.map_cons, List.map_nil]); first | done | rfl | (simp only [List.length_drop, List.length_take]; rfl)) ?_; (with_reducible refine (customsmade_Within.calls a0 100000 t447 _ A4.out).mono ?_); rintro e w' ⟨rfl, ⟨nd, rfl⟩⟩; refine ⟨_, rfl, ?_⟩))
    go_ret
    exact ⟨by first | rfl | (simp; done) | (simp [*]; done), by repeat (first | exact Drawn0.refl _ | apply Drawn0.step)⟩
  · replace c3 := Bool.eq_false_iff.mpr c3
    subst c3
    have H1 : ((customsmade_Within.f a0 1000000000001).bind fun t448 => (some t448)) = some r := by rw [if_neg (show ¬ (false = true) by decide)] at H; exact H
    clear H
    have H := H1
    clear H1
    replace H := Option.bind_eq_some_iff.mp H
    obtain ⟨t448, A50, H⟩ := H
    replace H : (some t448) = some r := H
    have A5 := Aside0.mk A50
    clear A50
    obtain rfl := Option.some.inj H
    go_enter Tryd.func19, Tryd.ntmps19
    go_wp2_with (first | ((with_reducible refine gate_callee (f := 13) rfl ?_); refine goesL_ (some 9) rfl rfl Tryd.func13 (by kernel_rfl) rfl #[.int .i64 a0, .int .i64 1000000000001] rfl (by (try simp only [List.map_toArray, List.map_cons, List.map_nil]); first | done | rfl | (simp only [List.length_drop, List.length_take]; rfl)) ?_; (with_reducible refine (customsmade_Within.calls a0 1000000000001 t448 _ A5.out).mono ?_); rintro e w' ⟨rfl, ⟨nd, rfl⟩⟩; refine ⟨_, rfl, ?_⟩))
    go_ret
    exact ⟨by first | rfl | (simp; done) | (simp [*]; done), by repeat (first | exact Drawn0.refl _ | apply Drawn0.step)⟩

end Go.Proofs.YtfpkgdkcllobiaaDoor.F
end
section
namespace Go.Proofs.YtfpkgdkcllobiaaDoor.D
open Go.RowKit Go.Proofs.YtfpkgdkcllobiaaDoorW.PrintWords Go.Proofs.YtfpkgdkcllobiaaDoorW.PrintMore
theorem ev_const {α : Type} {o : Option α} {r : α} (h : o = some r) : Ev (fun _ => o) r := ⟨0, fun _ _ => h⟩
theorem ev_pos {α : Type} {c : Prop} [Decidable c] {f g : Nat → Option α} {r : α} (h : c) (k : Ev f r) : Ev (fun n => if c then f n else g n) r := by
  obtain ⟨K, k⟩ := k
  exact ⟨K, fun n hn => by show (if c then f n else g n) = some r; rw [if_pos h]; exact k n hn⟩
theorem ev_neg {α : Type} {c : Prop} [Decidable c] {f g : Nat → Option α} {r : α} (h : ¬ c) (k : Ev g r) : Ev (fun n => if c then f n else g n) r := by
  obtain ⟨K, k⟩ := k
  exact ⟨K, fun n hn => by show (if c then f n else g n) = some r; rw [if_neg h]; exact k n hn⟩
theorem ev_ite {α : Type} {c : Prop} [Decidable c] {f g : Nat → Option α} {r : α} (h : c → Ev f r) (k : ¬ c → Ev g r) : Ev (fun n => if c then f n else g n) r := by
  by_cases hc : c
  · exact ev_pos hc (h hc)
  · exact ev_neg hc (k hc)
theorem ev_bind {α β : Type} {g : Nat → Option α} {f : Nat → α → Option β} {a : α} {r : β} (h : Ev g a) (k : Ev (fun n => f n a) r) : Ev (fun n => (g n).bind (f n)) r := Ev.bind h k
theorem ev_let {α β : Type} {x : α} {f : Nat → α → Option β} {r : β} (k : Ev (fun n => f n x) r) : Ev (fun n => (some x).bind (f n)) r := Ev.bind (g := fun _ => some x) (ev_const rfl) k
theorem ev_eq {α : Type} {g : Nat → Option α} {r s : α} (h : Ev g r) (e : r = s) : Ev g s := e ▸ h
theorem w64 {x : Int} (h0 : -9223372036854775808 ≤ x) (h1 : x ≤ 9223372036854775807) : wrap64 x = x := by unfold wrap64; omega
theorem tdiv_pos {a b : Int} (h : 0 ≤ a) : Int.tdiv a b = a / b := Int.tdiv_eq_ediv_of_nonneg h
theorem tmod_pos {a b : Int} (h : 0 ≤ a) : Int.tmod a b = a % b := Int.tmod_eq_emod_of_nonneg h
end Go.Proofs.YtfpkgdkcllobiaaDoor.D
end
section
namespace Go.Proofs.YtfpkgdkcllobiaaDoor.D
set_option linter.unusedVariables false
open Go.RowKit
abbrev rt (n : Int) : Prop := 0 ≤ n ∧ n ≤ 10000000
/-- What Validate answers: 0 for a duty that is valid. -/
def dvalid (r a p : Int) (hm : Bool) (m : Int) (hl : Bool) (l : Int) : Int :=
  if ¬ rt r ∨ a < 0 ∨ a > 100000000 ∨ (a = 0 ∧ p ≠ 0) ∨ (a > 0 ∧ (p < 1 ∨ p > 1000000)) ∨ ¬ rt m ∨ ¬ rt l then 2
  else if (hm = false ∧ m ≠ 0) ∨ (hl = false ∧ l ≠ 0) ∨ (hm = true ∧ hl = true ∧ l > m) then 1 else 0
/-- The greater of p and 1. -/
def mxp (p : Int) : Int := if p < 1 then 1 else p
/-- A share of the value v, times a million times p. -/
def shr_ (r v p : Int) : Int := r * v * mxp p
def dsum (r a p v q : Int) : Int := shr_ r v p + a * q * 1000000
def dcap (p : Int) (hm : Bool) (m v W : Int) : Int := if hm = true ∧ W > shr_ m v p then shr_ m v p else W
def dflo (p : Int) (hl : Bool) (l v W : Int) : Int := if hl = true ∧ W < shr_ l v p then shr_ l v p else W
def dwide (r a p : Int) (hm : Bool) (m : Int) (hl : Bool) (l v q : Int) : Int := dflo p hl l v (dcap p hm m v (dsum r a p v q))
/-- N / c, a half rounded up. -/
def rndh (N c : Int) : Int := N / c + if N % c ≥ c - N % c then 1 else 0
def dnum (r a p : Int) (hm : Bool) (m : Int) (hl : Bool) (l v q : Int) : Int := rndh (dwide r a p hm m hl l v q) (mxp p * 1000000)
def deval (r a p : Int) (hm : Bool) (m : Int) (hl : Bool) (l v q : Int) : Int × Int :=
  if dvalid r a p hm m hl l ≠ 0 then (0, dvalid r a p hm m hl l)
  else if v < 0 ∨ v > 1000000000000 ∨ q < 0 ∨ q > 1000000000 then (0, 2)
  else if dnum r a p hm m hl l v q > 1000000000000 then (0, 3) else (dnum r a p hm m hl l v q, 0)
/-- What a valid duty's fields are. -/
theorem dvalid_ok {r a p : Int} {hm : Bool} {m : Int} {hl : Bool} {l : Int} : dvalid r a p hm m hl l = 0 ↔ rt r ∧ 0 ≤ a ∧ a ≤ 100000000 ∧ (a = 0 → p = 0) ∧ (a > 0 → 1 ≤ p ∧ p ≤ 1000000) ∧ rt m ∧ rt l ∧ (hm = false → m = 0) ∧ (hl = false → l = 0) ∧ (hm = true → hl = true → l ≤ m) := by
  unfold dvalid
  cases hm <;> cases hl <;> simp <;> constructor <;> intro h <;> (repeat' split at *) <;> omega
theorem mxp_in {p : Int} (h0 : 0 ≤ p) (h1 : p ≤ 1000000) : 1 ≤ mxp p ∧ mxp p ≤ 1000000 := by unfold mxp; split <;> omega
theorem mul_le2 {a b A B : Int} (a0 : 0 ≤ a) (a1 : a ≤ A) (b0 : 0 ≤ b) (b1 : b ≤ B) : 0 ≤ a * b ∧ a * b ≤ A * B := ⟨Int.mul_nonneg a0 b0, Int.mul_le_mul a1 b1 b0 (by omega)⟩
/-- The sizes of a share: the product of rate and value has room in 64 bits, the share in 84. -/
theorem shr_in_ {r v p : Int} (hr : rt r) (v0 : 0 ≤ v) (v1 : v ≤ 1000000000000) (p0 : 0 ≤ p) (p1 : p ≤ 1000000) : 0 ≤ r * v ∧ r * v ≤ 10000000000000000000 ∧ 0 ≤ shr_ r v p ∧ shr_ r v p ≤ 10000000000000 * (mxp p * 1000000) := by
  have hp := mxp_in p0 p1
  have h1 := mul_le2 hr.1 hr.2 v0 v1
  refine ⟨h1.1, by omega, Int.mul_nonneg h1.1 (by omega), ?_⟩
  unfold shr_
  have := Int.mul_le_mul_of_nonneg_right h1.2 (show 0 ≤ mxp p by omega)
  omega
theorem sum_in {r a p v q : Int} (hr : rt r) (a0 : 0 ≤ a) (a1 : a ≤ 100000000) (v0 : 0 ≤ v) (v1 : v ≤ 1000000000000) (q0 : 0 ≤ q) (q1 : q ≤ 1000000000) (p0 : 0 ≤ p) (p1 : p ≤ 1000000) :
    0 ≤ a * q ∧ a * q ≤ 100000000000000000 ∧ 0 ≤ dsum r a p v q ∧ dsum r a p v q ≤ 100010000000000000 * (mxp p * 1000000) := by
  have hp := mxp_in p0 p1
  have h1 := mul_le2 a0 a1 q0 q1
  have h2 := shr_in_ hr v0 v1 p0 p1
  unfold dsum
  refine ⟨h1.1, by omega, by omega, by omega⟩
theorem cap_in {p : Int} {hm : Bool} {m v W : Int} (hr : rt m) (v0 : 0 ≤ v) (v1 : v ≤ 1000000000000) (p0 : 0 ≤ p) (p1 : p ≤ 1000000) (h0 : 0 ≤ W) (h1 : W ≤ 100010000000000000 * (mxp p * 1000000)) :
    0 ≤ dcap p hm m v W ∧ dcap p hm m v W ≤ 100010000000000000 * (mxp p * 1000000) := by
  have h2 := shr_in_ hr v0 v1 p0 p1
  have hp := mxp_in p0 p1
  unfold dcap
  split <;> omega
theorem flo_in {p : Int} {hl : Bool} {l v W : Int} (hr : rt l) (v0 : 0 ≤ v) (v1 : v ≤ 1000000000000) (p0 : 0 ≤ p) (p1 : p ≤ 1000000) (h0 : 0 ≤ W) (h1 : W ≤ 100010000000000000 * (mxp p * 1000000)) :
    0 ≤ dflo p hl l v W ∧ dflo p hl l v W ≤ 100010000000000000 * (mxp p * 1000000) := by
  have h2 := shr_in_ hr v0 v1 p0 p1
  have hp := mxp_in p0 p1
  unfold dflo
  split <;> omega
theorem rndh_in {N c B : Int} (hc : 0 < c) (h0 : 0 ≤ N) (h1 : N ≤ B * c) : 0 ≤ rndh N c ∧ rndh N c ≤ B + 1 := by
  have h2 : N / c ≤ B := by
    have := Int.ediv_le_ediv hc h1
    rwa [Int.mul_ediv_cancel _ (by omega)] at this
  have h3 := Int.ediv_nonneg h0 (Int.le_of_lt hc)
  unfold rndh
  split <;> omega
/-- 2N+c divided by 2c. -/
theorem rndh_eq {N c : Int} (hc : 0 < c) : rndh N c = (2 * N + c) / (2 * c) := by
  have hm0 := Int.emod_nonneg N (show c ≠ 0 by omega)
  have hm1 := Int.emod_lt_of_pos N hc
  have hd := Int.emod_add_mul_ediv N c
  unfold rndh
  generalize N / c = Q at *
  generalize N % c = R at *
  subst hd
  split
  · rw [show 2 * (R + c * Q) + c = (2 * R - c) + (2 * c) * (Q + 1) by rw [Int.mul_add, Int.mul_assoc, Int.mul_add]; omega, Int.add_mul_ediv_left _ _ (by omega), Int.ediv_eq_zero_of_lt (by omega) (by omega)]
    omega
  · rw [show 2 * (R + c * Q) + c = (2 * R + c) + (2 * c) * Q by rw [Int.mul_add, Int.mul_assoc]; omega, Int.add_mul_ediv_left _ _ (by omega), Int.ediv_eq_zero_of_lt (by omega) (by omega)]
    omega
theorem rndh_mono {N M c : Int} (hc : 0 < c) (h : N ≤ M) : rndh N c ≤ rndh M c := by
  rw [rndh_eq hc, rndh_eq hc]
  exact Int.ediv_le_ediv (by omega) (by omega)
end Go.Proofs.YtfpkgdkcllobiaaDoor.D
end
