import Derived.Test.YthdahpnjiighfaaF0
import Derived.Test.YthdahpnjiighfaaF3
import Derived.Test.YthdahpnjiighfaaF4
import Derived.Test.YthdahpnjiighfaaF11
namespace Go.Proofs.Ythdahpnjiighfaa.F
open Go.RowKit Go.Proofs.YthdahpnjiighfaaW.PrintWords Go.Proofs.YthdahpnjiighfaaW.PrintLast Go.Proofs.YthdahpnjiighfaaW.PrintMore
attribute [local go_sem] max2_int min2_int max_two min_two max_three min_three max_four min_four
set_option linter.unusedVariables false
set_option linter.unusedSimpArgs false
/-! ### customslaw06_SegmentValidate: function 3 -/
def customslaw06_SegmentValidate.f (k : Nat) (a0_0 : ByteArray) (l0_1 : List (List ByteArray)) : Option (Bool) := (segment_Validate.f k a0_0 l0_1).bind fun t235 => ((customsref06_Segment.f k a0_0 l0_1).bind fun t236 => (if t235 = t236 then ((customslaw06_awake.f k).bind fun t237 => (some t237)) else (some false)))
theorem customslaw06_SegmentValidate.mono : ∀ a0 a1 k, LeO (customslaw06_SegmentValidate.f k a0 a1) (customslaw06_SegmentValidate.f (k + 1) a0 a1) := by
  intro a0 a1 k; (unfold customslaw06_SegmentValidate.f)
  repeat' first
      | (with_reducible exact customslaw06_awake.mono _)
      | (with_reducible exact customsref06_Segment.mono _ _ _)
      | (with_reducible exact segment_Validate.mono _ _ _)
      | (with_reducible exact LeO.refl _)
      | (with_reducible exact LeO.none _)
      | (with_reducible refine LeO.ite ?_ ?_)
      | (with_reducible refine LeO.bind ?_ (fun _ => ?_))
      | exact customslaw06_awake.mono _
      | exact customsref06_Segment.mono _ _ _
      | exact segment_Validate.mono _ _ _
      | exact LeO.none _
      | refine LeO.ite ?_ ?_
      | refine LeO.bind ?_ (fun _ => ?_)
def customslaw06_SegmentValidate.T1 : Bool × List (List Nat × List Nat) := (true, [([], []), ([0], [0]), ([], []), ([2, 1], [2]), ([1, 3], [1, 3]), ([4, 3], [4]), ([5, 5], [5]), ([5, 6], [5, 6]), ([7, 6, 0, 1, 2, 3, 4, 5, 6, 7], [7])])
def customslaw06_SegmentValidate.B1 : List Nat := [0, 1, 0, 7, 15, 31, 63, 127, 255]
theorem customslaw06_SegmentValidate.tab1 : rtab .any (opsOf Try.f3 1) = customslaw06_SegmentValidate.T1 := by kernel_rfl
theorem customslaw06_SegmentValidate.bits1 : waitsOk customslaw06_SegmentValidate.T1.2 customslaw06_SegmentValidate.B1 = true := by kernel_rfl
set_option maxHeartbeats 8000000 in
set_option maxRecDepth 100000 in
theorem customslaw06_SegmentValidate.calls (k : Nat) (a0_0 : ByteArray) (A0_1 : Option Addr) (c0_1 : Nat) (l0_1 : List (List ByteArray)) (r : Bool) (w : World) (hr0_1 : Kd.C (Kd.slice 9 Kd.string) w A0_1 l0_1.length l0_1) (hc0_1 : l0_1.length ≤ c0_1) (h : customslaw06_SegmentValidate.f k a0_0 l0_1 = some r) (hT_ : r = true) :
    Calls Try.prog 3 #[.agg #[.string a0_0, .slice A0_1 l0_1.length c0_1]] w fun e w' => e = .returned (.bool r) ∧ Below w.heap.size w w' := by
  have hu24 := Try.underlying24; have HR0_1 := Aside0.mk hr0_1; have HC0_1 := Aside0.mk hc0_1; clear hr0_1 hc0_1; (have HB := Aside0.mk (Below.refl w.heap.size w)); (have H : ((segment_Validate.f k a0_0 l0_1).bind fun t235 => ((customsref06_Segment.f k a0_0 l0_1).bind fun t236 => (if t235 = t236 then ((customslaw06_awake.f k).bind fun t237 => (some t237)) else (some false)))) = some r := h); clear h; (replace H := Option.bind_eq_some_iff.mp H); (obtain ⟨t235, A20, H⟩ := H); (replace H : ((customsref06_Segment.f k a0_0 l0_1).bind fun t236 => (if t235 = t236 then ((customslaw06_awake.f k).bind fun t237 => (some t237)) else (some false))) = some r := H); have A2 := Aside0.mk A20; clear A20; (replace H := Option.bind_eq_some_iff.mp H); (obtain ⟨t236, A30, H⟩ := H); (replace H : (if t235 = t236 then ((customslaw06_awake.f k).bind fun t237 => (some t237)) else (some false)) = some r := H); have A3 := Aside0.mk A30; clear A30; (by_cases c4 : t235 = t236)
  · (rw [if_pos c4] at H); (have c4b0 : (t235 == t236) = true := beq_iff_eq.mpr c4); (have c4b1 : (t235 != t236) = false := bne_eq_false_iff_eq.mpr c4); clear c4; (replace H := Option.bind_eq_some_iff.mp H); (obtain ⟨t237, A50, H⟩ := H); (replace H : (some t237) = some r := H); have A5 := Aside0.mk A50; clear A50; (obtain rfl := Option.some.inj H); (go_enter Try.func3, Try.ntmps3); (try go_wp2_with (first | ((with_reducible refine gate_dst (N := 1) rfl ?_); refine box_event ?hg (N := 1) ?hd (cs := #[.string a0_0, .slice A0_1 l0_1.length c0_1]) (t := 24) ?hr ?_; (case hd => rfl); (case hg => rfl); (case hr => first | (go_simp; done) | (go_simp; rfl)); intro gb234 hg w6 hbox hb; have n0_ := Aside0.mk (below_step HB.out hb); have n1_ := Aside0.mk (hbox); have n2_ := Aside0.mk ((by rw [hg]; exact (below_size HB.out) : w.heap.size ≤ gb234)); have n3_ := Aside0.mk ((by rw [hg]; exact (below_size HB.out) : w.heap.size ≤ gb234)); clear HB; have HB := n0_; have BK234 := n1_; have GW234 := n2_; have GE234 := n3_; clear n0_ n1_ n2_ n3_; clear hb hbox hg))); (have n0_ := Aside0.mk (blk_drew BK234.out)); (have n1_ := Aside0.mk (below_drew1 HB.out)); clear BK234; clear HB; have BK234 := n0_; have HB := n1_; clear n0_ n1_; (refine start_ (n := 9) (S := fun w' => w'.cell? ⟨gb234, 0, none⟩ = some (.string a0_0) ∧ w'.cell? ⟨gb234, 1, none⟩ = some (.slice A0_1 l0_1.length c0_1)) (ds := []) #[false, false, false, false, false, false, false, false, false] (by kernel_rfl) rfl rfl ⟨(blk_cell BK234.out 0).trans rfl, (blk_cell BK234.out 1).trans rfl⟩ (fun hHeld => ?_); refine with_tabW customslaw06_SegmentValidate.tab1 customslaw06_SegmentValidate.bits1 (fun HT_ HW_ => ?_)); (generalize w6.drew = w7 at BK234 HB hHeld ⊢); (refine take_ (i := 0) (N := some 3) (v := ?_) (a' := ?_) #[true, false, false, false, false, false, false, false, false] rfl rfl (take_ofW HT_.out HW_.out (by kernel_rfl)) (fun _ _ _ h => h) (Or.inl ⟨by rfl, ?_⟩) hHeld ?_ ?_); rotate_left
    · (rintro w' ⟨s0, s1⟩); (go_simp); with_reducible rfl
    rotate_left
    · (simp only [Act.put, List.setIfInBounds_toArray, List.set_cons_zero, List.set_cons_succ, i64_w, i32_w]); rfl
    (refine take_ (i := 2) (N := some 5) (v := ?_) (a' := ?_) #[true, false, true, false, false, false, false, false, false] rfl rfl (take_ofW HT_.out HW_.out (by kernel_rfl)) (fun _ _ _ h => h) (Or.inl ⟨by rfl, ?_⟩) hHeld ?_ ?_); rotate_left
    · (rintro w' ⟨s0, s1⟩); (go_simp); with_reducible rfl
    rotate_left
    · (simp only [Act.put, List.setIfInBounds_toArray, List.set_cons_zero, List.set_cons_succ, i64_w, i32_w]); rfl
    (refine one_ (i := 1) (N := some 4) #[true, true, true, false, false, false, false, false, false] rfl rfl (one_of HT_.out (by kernel_rfl)) (by decide) (fun K hK => ?_)); (refine goes_ Try.func9 (by kernel_rfl) rfl #[.agg #[.string a0_0, .slice A0_1 l0_1.length c0_1]] (by rfl) rfl rfl (by (try simp only [List.map_toArray, List.map_cons, List.map_nil]); first | done | rfl | (simp only [List.length_drop, List.length_take]; rfl)) ?_); (with_reducible refine (segment_Validate.calls k a0_0 _ _ l0_1 t235 _ ?side1 ?side2 A2.out).mono ?_); (case side1 => repeat (first | exact (Kd.C_below HR0_1.out HB.out) | (with_reducible refine Kd.C_alloc ?_ _) | (with_reducible refine Kd.C_drewN ?_ _) | (with_reducible refine Kd.C_drew ?_))); (case side2 => exact HC0_1.out); (rintro e w8 ⟨rfl, hb⟩); (refine ⟨_, rfl, ?_⟩); (have n0_ := Aside0.mk (blk_below (g := gb234) (o := .cells #[.string a0_0, .slice A0_1 l0_1.length c0_1] 24 (0, 0)) BK234.out hb)); (have n1_ := Aside0.mk (below_step HB.out hb)); clear BK234; clear HB; have BK234 := n0_; have HB := n1_; clear n0_ n1_; (try clear hb); (try clear hb2); (try clear hk); (try clear hi); (refine hK.out _ _ ⟨(blk_cell BK234.out 0).trans rfl, (blk_cell BK234.out 1).trans rfl⟩ (fun hHeld => ?_)); clear hK K; (refine norm_ (a' := ?_) ?_ ?_); rotate_left
    · (show Act.put _ (some 4) _ = _); (simp only [Act.put, List.setIfInBounds_toArray, List.set_cons_zero, List.set_cons_succ, i64_w, i32_w]); rfl
    (refine one_ (i := 3) (N := some 6) #[true, true, true, true, false, false, false, false, false] rfl rfl (one_of HT_.out (by kernel_rfl)) (by decide) (fun K hK => ?_)); (refine goes_ Try.func10 (by kernel_rfl) rfl #[.agg #[.string a0_0, .slice A0_1 l0_1.length c0_1]] (by rfl) rfl rfl (by (try simp only [List.map_toArray, List.map_cons, List.map_nil]); first | done | rfl | (simp only [List.length_drop, List.length_take]; rfl)) ?_); (with_reducible refine (customsref06_Segment.calls k a0_0 _ _ l0_1 t236 _ ?side1 ?side2 A3.out).mono ?_); (case side1 => repeat (first | exact (Kd.C_below HR0_1.out HB.out) | (with_reducible refine Kd.C_alloc ?_ _) | (with_reducible refine Kd.C_drewN ?_ _) | (with_reducible refine Kd.C_drew ?_))); (case side2 => exact HC0_1.out); (rintro e w9 ⟨rfl, hb⟩); (refine ⟨_, rfl, ?_⟩); (have n0_ := Aside0.mk (blk_below (g := gb234) (o := .cells #[.string a0_0, .slice A0_1 l0_1.length c0_1] 24 (0, 0)) BK234.out hb)); (have n1_ := Aside0.mk (below_step HB.out hb)); clear BK234; clear HB; have BK234 := n0_; have HB := n1_; clear n0_ n1_; (try clear hb); (try clear hb2); (try clear hk); (try clear hi); (refine hK.out _ _ ⟨(blk_cell BK234.out 0).trans rfl, (blk_cell BK234.out 1).trans rfl⟩ (fun hHeld => ?_)); clear hK K; (refine norm_ (a' := ?_) ?_ ?_); rotate_left
    · (show Act.put _ (some 6) _ = _); (simp only [Act.put, List.setIfInBounds_toArray, List.set_cons_zero, List.set_cons_succ, i64_w, i32_w]); rfl
    (refine pure_ (i := 4) (N := some 7) (v := ?_) (a' := ?_) #[true, true, true, true, true, false, false, false, false] rfl rfl (any_of HT_.out (by kernel_rfl)) (fun _ _ _ h => h) (Or.inl ⟨by rfl, ?_⟩) ?_ ?_); rotate_left
    · intro w'; (go_simp); with_reducible rfl
    rotate_left
    · (simp only [Act.put, List.setIfInBounds_toArray, List.set_cons_zero, List.set_cons_succ, i64_w, i32_w]); rfl
    (refine pure_ (i := 5) (N := some 8) (v := ?_) (a' := ?_) #[true, true, true, true, true, true, false, false, false] rfl rfl (any_of HT_.out (by kernel_rfl)) (fun _ _ _ h => h) (Or.inl ⟨by rfl, ?_⟩) ?_ ?_); rotate_left
    · intro w'; (go_simp); with_reducible rfl
    rotate_left
    · (simp only [Act.put, List.setIfInBounds_toArray, List.set_cons_zero, List.set_cons_succ, i64_w, i32_w]); rfl
    (refine one_ (i := 6) (N := some 9) #[true, true, true, true, true, true, true, false, false] rfl rfl (one_of HT_.out (by kernel_rfl)) (by decide) (fun K hK => ?_)); (refine goes_ Try.func11 (by kernel_rfl) rfl #[] (by rfl) rfl rfl (by (try simp only [List.map_toArray, List.map_cons, List.map_nil]); first | done | rfl | (simp only [List.length_drop, List.length_take]; rfl)) ?_); (with_reducible refine (customslaw06_awake.calls k  t237 _ A5.out).mono ?_); (rintro e w10 ⟨rfl, hb⟩); (refine ⟨_, rfl, ?_⟩); (have n0_ := Aside0.mk (blk_below (g := gb234) (o := .cells #[.string a0_0, .slice A0_1 l0_1.length c0_1] 24 (0, 0)) BK234.out hb)); (have n1_ := Aside0.mk (below_step HB.out hb)); clear BK234; clear HB; have BK234 := n0_; have HB := n1_; clear n0_ n1_; (try clear hb); (try clear hb2); (try clear hk); (try clear hi); (refine hK.out _ _ ⟨(blk_cell BK234.out 0).trans rfl, (blk_cell BK234.out 1).trans rfl⟩ (fun hHeld => ?_)); clear hK K; (refine norm_ (a' := ?_) ?_ ?_); rotate_left
    · (show Act.put _ (some 9) _ = _); (simp only [Act.put, List.setIfInBounds_toArray, List.set_cons_zero, List.set_cons_succ, i64_w, i32_w]); rfl
    (refine pure_ (i := 7) (N := some 10) (v := ?_) (a' := ?_) #[true, true, true, true, true, true, true, true, false] rfl rfl (any_of HT_.out (by kernel_rfl)) (fun _ _ _ h => h) (Or.inl ⟨by rfl, ?_⟩) ?_ ?_); rotate_left
    · intro w'; (go_simp); with_reducible rfl
    rotate_left
    · (simp only [Act.put, List.setIfInBounds_toArray, List.set_cons_zero, List.set_cons_succ, i64_w, i32_w]); rfl
    (refine pure_ (i := 8) (N := some 2) (v := ?_) (a' := ?_) #[true, true, true, true, true, true, true, true, true] rfl rfl (any_of HT_.out (by kernel_rfl)) (fun _ _ _ h => h) (Or.inl ⟨by rfl, ?_⟩) ?_ ?_); rotate_left
    · intro w'; (go_simp); with_reducible rfl
    rotate_left
    · (simp only [Act.put, List.setIfInBounds_toArray, List.set_cons_zero, List.set_cons_succ, i64_w, i32_w]); rfl
    (refine done_ (done_of HT_.out (by kernel_rfl)) ?_); (try go_wp2); go_ret; (exact ⟨by first | rfl | (simp [errW_none, errW_some] <;> rfl) | (simp [*, errW_none, errW_some] <;> rfl), by repeat (first | (with_reducible first | exact HB.out | apply below_alloc | apply pw_below_drewN | apply below_drew1 | refine below_set ?_ GE234.out) | exact HB.out)⟩)
  · (rw [if_neg c4] at H); (have c4b0 : (t235 == t236) = false := beq_eq_false_iff_ne.mpr c4); (have c4b1 : (t235 != t236) = true := bne_iff_ne.mpr c4); (exact absurd (H.trans (congrArg some hT_)) (by decide))
def IsS52 (w0 W : World) (g : Nat) (f0 : List Int) (f1 : Int) : Prop := ∃ A0 c0, W.heap[g]? = some (.cells #[.slice A0 f0.length c0, .int .i64 f1] 52 (0, 0)) ∧ w0.heap.size ≤ g ∧ Kd.C (Kd.int .i64) w0 A0 f0.length f0
theorem IsS52.grown {w0 W : World} {g : Nat} {f0 : List Int} {f1 : Int} {W1 : World} {row : Option Nat} (h : IsS52 w0 W g f0 f1) (hw : W.grownBy W1 row) (hne : some g ≠ row) : IsS52 w0 W1 g f0 f1 := by
  (obtain ⟨A0, c0, hb, hg, hr0⟩ := h); (exact ⟨A0, c0, blk_grown hb hw hne, hg, hr0⟩)
theorem IsS52.own_neN {w0 W : World} {g : Nat} {f0 : List Int} {f1 : Int} {α : Type} {d : Kd α} {e : Nat} {base : Nat} {ok : Nat → Prop} {v : Value} {xs : List α} (h : IsS52 w0 W g f0 f1) (ho : Kd.N d e W base ok v xs) (ht : e ≠ 52) : some g ≠ v.ownBlock := by
  (obtain ⟨A0, c0, hb, hg, hr0⟩ := h); (exact Kd.N_ne ho hb ht)
theorem IsS52.fresh {w0 W : World} {g : Nat} {f0 : List Int} {f1 : Int} (h : IsS52 w0 W g f0 f1) : ∀ k, W.heap.size ≤ k → k ≠ g := by
  (obtain ⟨A0, c0, hb, hg, hr0⟩ := h); (exact Kd.freshB hb)
theorem IsS52.kept {w0 W : World} {g : Nat} {f0 : List Int} {f1 : Int} {W1 : World} {S : Nat → Prop} (h : IsS52 w0 W g f0 f1) (hk : Kept W W1 S) (hne : ¬ S g) : IsS52 w0 W1 g f0 f1 := by
  (obtain ⟨A0, c0, hb, hg, hr0⟩ := h); (exact ⟨A0, c0, blk_kept hb hk hne, hg, hr0⟩)
theorem IsS52.below {w0 W : World} {g : Nat} {f0 : List Int} {f1 : Int} {W1 : World} (h : IsS52 w0 W g f0 f1) (hw : Below W.heap.size W W1) : IsS52 w0 W1 g f0 f1 := h.grown (grown_of_below hw none) (by simp)
theorem IsS52.alloc {w0 W : World} {g : Nat} {f0 : List Int} {f1 : Int} (h : IsS52 w0 W g f0 f1) (o : Obj) : IsS52 w0 (W.alloc o) g f0 f1 := h.below (below_alloc (Below.refl _ _) o)
theorem IsS52.drewN {w0 W : World} {g : Nat} {f0 : List Int} {f1 : Int} (h : IsS52 w0 W g f0 f1) (m : Nat) : IsS52 w0 (W.drewN m) g f0 f1 := h
theorem IsS52.drew {w0 W : World} {g : Nat} {f0 : List Int} {f1 : Int} (h : IsS52 w0 W g f0 f1) : IsS52 w0 W.drew g f0 f1 := h
theorem IsS52.at_ {w0 W : World} {g : Nat} {f0 : List Int} {f1 : Int} {w' : World} {m : Nat} (hq : W.drewN m = w') (h : IsS52 w0 W g f0 f1) : IsS52 w0 w' g f0 f1 := by subst hq; exact IsS52.drewN h m
theorem IsS52.apart {w0 W : World} {g : Nat} {f0 : List Int} {f1 : Int} {α : Type} {d : Kd α} {e : Nat} {base : Nat} {ok : Nat → Prop} {v : Value} {xs : List α} (h : IsS52 w0 W g f0 f1) (ho : d.R e W base ok v xs) (ht : ∀ q, q ∈ e :: d.E → q ≠ 52) : d.R e W base (fun k => ok k ∧ k ≠ g) v xs := by
  (obtain ⟨A0, c0, hb, hg, hr0⟩ := h); (exact Kd.R_types ho hb ht)
theorem IsS52.own_ne {w0 W : World} {g : Nat} {f0 : List Int} {f1 : Int} {α : Type} {d : Kd α} {e : Nat} {base : Nat} {ok : Nat → Prop} {v : Value} {xs : List α} (h : IsS52 w0 W g f0 f1) (ho : d.R e W base ok v xs) (ht : e ≠ 52) : some g ≠ v.ownBlock := by
  (obtain ⟨A0, c0, hb, hg, hr0⟩ := h); (exact Kd.R_ne ho hb ht)
theorem IsS52.apartQ {w0 W : World} {g : Nat} {f0 : List Int} {f1 : Int} {α : Type} {d : Kd α} {e : Nat} {base : Nat} {ok : Nat → Prop} {v : Value} {xs : List α} (h : IsS52 w0 W g f0 f1) (ho : d.Q e W base ok v xs) (ht : ∀ q, q ∈ e :: d.E → q ≠ 52) : d.Q e W base (fun k => ok k ∧ k ≠ g) v xs := by
  (obtain ⟨A0, c0, hb, hg, hr0⟩ := h); (exact Kd.Q_types ho hb ht)
theorem IsS52.own_neQ {w0 W : World} {g : Nat} {f0 : List Int} {f1 : Int} {α : Type} {d : Kd α} {e : Nat} {base : Nat} {ok : Nat → Prop} {v : Value} {xs : List α} (h : IsS52 w0 W g f0 f1) (ho : d.Q e W base ok v xs) (ht : e ≠ 52) : some g ≠ v.ownBlock := by
  (obtain ⟨A0, c0, hb, hg, hr0⟩ := h); (exact Kd.Q_ne ho hb ht)
theorem IsS52.apartS {w0 W : World} {g : Nat} {f0 : List Int} {f1 : Int} {α : Type} {d : Kd α} {e : Nat} {base : Nat} {ok : Nat → Prop} {v : Value} {xs : List α} (h : IsS52 w0 W g f0 f1) (ho : d.S e W base ok v xs) (ht : ∀ q, q ∈ e :: d.E → q ≠ 52) : d.S e W base (fun k => ok k ∧ k ≠ g) v xs := by
  (obtain ⟨A0, c0, hb, hg, hr0⟩ := h); (exact Kd.S_types ho hb ht)
theorem IsS52.own_neS {w0 W : World} {g : Nat} {f0 : List Int} {f1 : Int} {α : Type} {d : Kd α} {e : Nat} {base : Nat} {ok : Nat → Prop} {v : Value} {xs : List α} (h : IsS52 w0 W g f0 f1) (ho : d.S e W base ok v xs) (ht : e ≠ 52) : some g ≠ v.ownBlock := by
  (obtain ⟨A0, c0, hb, hg, hr0⟩ := h); (exact Kd.S_ne ho hb ht)
theorem IsS52.lt {w0 W : World} {g : Nat} {f0 : List Int} {f1 : Int} (h : IsS52 w0 W g f0 f1) : g < W.heap.size := by
  (obtain ⟨A0, c0, hb, hg, hr0⟩ := h); (exact blk_lt hb)
theorem IsS52.ge {w0 W : World} {g : Nat} {f0 : List Int} {f1 : Int} (h : IsS52 w0 W g f0 f1) : w0.heap.size ≤ g := by
  (obtain ⟨A0, c0, hb, hg, hr0⟩ := h); exact hg
theorem IsS52.ne_blk {w0 W : World} {g : Nat} {f0 : List Int} {f1 : Int} {a : Nat} {cs : Array Value} {t : TypeId} {fr : Nat × Nat} (h : IsS52 w0 W g f0 f1) (hb2 : W.heap[a]? = some (.cells cs t fr)) (ht : t ≠ 52) : g ≠ a := by
  (obtain ⟨A0, c0, hb, hg, hr0⟩ := h); (rintro rfl); (rw [hb] at hb2); (injection hb2 with hb2); (injection hb2 with _ ht2); (exact ht ht2.symm)
theorem IsS52.far {w0 W : World} {g : Nat} {f0 : List Int} {f1 : Int} {p : Addr} (h : IsS52 w0 W g f0 f1) (hne : g ≠ p.block) (u : Value) : IsS52 w0 (W.setCell p u) g f0 f1 := by
  (obtain ⟨A0, c0, hb, hg, hr0⟩ := h); (exact ⟨A0, c0, blk_far hb hne u, hg, hr0⟩)
theorem cellS52_0 {W : World} {g : Nat} {A0 : Option Addr} {c0 : Nat} {f0 : List Int} {f1 : Int} (h : W.heap[g]? = some (.cells #[.slice A0 f0.length c0, .int .i64 f1] 52 (0, 0))) : W.cell? ⟨g, 0, none⟩ = some (.slice A0 f0.length c0) := (blk_cell h 0).trans rfl
theorem cellS52_1 {W : World} {g : Nat} {A0 : Option Addr} {c0 : Nat} {f0 : List Int} {f1 : Int} (h : W.heap[g]? = some (.cells #[.slice A0 f0.length c0, .int .i64 f1] 52 (0, 0))) : W.cell? ⟨g, 1, none⟩ = some (.int .i64 f1) := (blk_cell h 1).trans rfl
theorem IsS52.set_1 {w0 W : World} {g : Nat} {f0 : List Int} {f1 : Int} (h : IsS52 w0 W g f0 f1) (x : Int) : IsS52 w0 (W.setCell ⟨g, 1, none⟩ (.int .i64 x)) g f0 x := by
  (obtain ⟨A0, c0, hb, hg, hr0⟩ := h); (exact ⟨A0, c0, by simpa using blk_set hb 1 (.int .i64 x), hg, hr0⟩)
theorem IsS52.new (w0 W : World) (A0 : Option Addr) (c0 : Nat) (f0 : List Int) (f1 : Int) (hB : Below w0.heap.size w0 W) (hr0 : Kd.C (Kd.int .i64) w0 A0 f0.length f0) : IsS52 w0 (W.alloc (.cells #[.slice A0 f0.length c0, .int .i64 f1] 52)) W.heap.size f0 f1 := ⟨A0, c0, by simpa using heap_alloc_new W _, hB.size, hr0⟩
/-! ### customsmade_Source_Left: function 24 -/
def customsmade_Source_Left.f (s0_0 : List Int) (s0_1 : Int) : Option (Bool × Int) := some (decide (s0_1 < (s0_0.length : Int)), s0_1)
set_option maxHeartbeats 8000000 in
set_option maxRecDepth 100000 in
theorem customsmade_Source_Left.calls (g : Nat) (s0_0 : List Int) (s0_1 : Int) (r1 : Bool) (r2 : Int) (w0 w : World) (hI : IsS52 w0 w g s0_0 s0_1) (hB : Below w0.heap.size w0 w) (h : customsmade_Source_Left.f s0_0 s0_1 = some (r1, r2)) :
    Calls Try.prog 24 #[.pointer (some ⟨g, 0, none⟩)] w fun e w' => e = .returned (.bool r1) ∧ IsS52 w0 w' g s0_0 r2 ∧ Below w0.heap.size w0 w' ∧ KeepBut w w' g none := by
  have HI0 := Aside0.mk hI; (have HK := Aside0.mk (KeepBut.refl w g none)); have HL := Aside0.mk hB.size; clear hI; have HW0 := Aside0.mk hB.size; have HB := Aside0.mk hB; clear hB; (have H : (some (decide (s0_1 < (s0_0.length : Int)), s0_1)) = some (r1, r2) := h); clear h; (simp only [Option.some.injEq, Prod.mk.injEq] at H); (obtain ⟨rfl, rfl⟩ := H); (obtain ⟨ASz2_0, cSz2_0, HGz2, hgz2, HSz2_0⟩ := HI0.out); (have hcz2_0 := cellS52_0 HGz2); (have hcz2_1 := cellS52_1 HGz2); (have hfz2_1 := blk_frozen HGz2 1); clear HGz2 hgz2; (go_enter Try.func24, Try.ntmps24); go_wp2; (repeat (go_quiet (fail); try go_wp2)); go_ret; (exact ⟨by first | rfl | (simp [errW_none, errW_some] <;> rfl) | (simp [*, errW_none, errW_some] <;> rfl), by repeat (first | (with_reducible first | exact HI0.out | apply IsS52.alloc | apply IsS52.drewN | apply IsS52.drew | apply IsS52.set_1) | exact HI0.out), by repeat (first | (with_reducible first | exact HB.out | apply below_alloc | apply pw_below_drewN | apply below_drew1 | refine below_set ?_ (IsS52.ge HI0.out)) | exact HB.out), by repeat (first | (with_reducible first | exact HK.out | apply KeepBut.set_ | apply keep_drewN | apply keep_drew | apply keep_alloc) | exact HK.out)⟩)
end Go.Proofs.Ythdahpnjiighfaa.F
