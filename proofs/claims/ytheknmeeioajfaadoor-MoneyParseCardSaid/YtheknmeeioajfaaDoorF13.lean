-- printed by this session's own copy of a printing program, out of the translation
import Derived.Test.YtheknmeeioajfaaDoorF0
import Derived.Test.YtheknmeeioajfaaDoorF4
namespace Go.Proofs.YtheknmeeioajfaaDoor.F
open Go.RowKit Go.Proofs.YtheknmeeioajfaaDoorW.PrintWords Go.Proofs.YtheknmeeioajfaaDoorW.PrintLast Go.Proofs.YtheknmeeioajfaaDoorW.PrintMore
attribute [local go_sem] max2_int min2_int max_two min_two max_three min_three max_four min_four   -- for this text's walks alone
set_option linter.unusedVariables false
set_option linter.unusedSimpArgs false

/-! ### customsref02_Digits: function 26 -/
def customsref02_Digits.l0 : Nat → Int → ByteArray → Option (ByteArray)
  | 0, _, _ => none
  | k + 1, x0, x3 => (some (([(wrap64 (48 + (Int.tmod x0 10))) % 256] : List Int) : List Int)).bind fun y216 => (if (strOfNums y216).size + x3.size ≤ 9223372036854775807 then (if (wrap64 (Int.tdiv x0 10)) = 0 then (some ((strOfNums y216) ++ x3)) else (customsref02_Digits.l0 k (wrap64 (Int.tdiv x0 10)) ((strOfNums y216) ++ x3))) else (none))
def customsref02_Digits.f (k : Nat) (a0 : Int) : Option (ByteArray) := customsref02_Digits.l0 k a0 (⟨#[]⟩ : ByteArray)
theorem customsref02_Digits.mono_l : ∀ k, (∀ y0 y1, LeO (customsref02_Digits.l0 k y0 y1) (customsref02_Digits.l0 (k + 1) y0 y1))
  | 0 => fun _ _ r h => by simp [customsref02_Digits.l0] at h
  | k + 1 => by
    have ih0 := customsref02_Digits.mono_l k
    · intro y0 y1
      unfold customsref02_Digits.l0
      repeat' first
      | (with_reducible exact ih0 _ _)
      | (with_reducible exact LeO.refl _)
      | (with_reducible exact LeO.none _)
      | (with_reducible refine LeO.ite ?_ ?_)
      | (with_reducible refine LeO.bind ?_ (fun _ => ?_))
      | exact ih0 _ _
      | exact LeO.none _
      | refine LeO.ite ?_ ?_
      | refine LeO.bind ?_ (fun _ => ?_)
theorem customsref02_Digits.mono : ∀ a0 k, LeO (customsref02_Digits.f k a0) (customsref02_Digits.f (k + 1) a0) := by
  intro a0 k
  have ih0 := customsref02_Digits.mono_l k
  unfold customsref02_Digits.f
  repeat' first
      | (with_reducible exact ih0 _ _)
      | (with_reducible exact LeO.refl _)
      | (with_reducible exact LeO.none _)
      | (with_reducible refine LeO.ite ?_ ?_)
      | (with_reducible refine LeO.bind ?_ (fun _ => ?_))
      | exact ih0 _ _
      | exact LeO.none _
      | refine LeO.ite ?_ ?_
      | refine LeO.bind ?_ (fun _ => ?_)
set_option maxHeartbeats 8000000 in
set_option maxRecDepth 100000 in
theorem customsref02_Digits.calls (k : Nat) (a0 : Int) (r : ByteArray) (w : World) (h : customsref02_Digits.f k a0 = some r) :
    Calls Tryd.prog 26 #[.int .i64 a0] w fun e w' => e = .returned (.string r) ∧ Below w.heap.size w w' := by
  have HB := Aside0.mk (Below.refl w.heap.size w)
  have H : (customsref02_Digits.l0 k a0 (⟨#[]⟩ : ByteArray)) = some r := h
  clear h
  have H' := Aside0.mk H
  clear H
  go_enter Tryd.func26, Tryd.ntmps26
  go_wp2
  go_loopg [0, 3] k (fun kq v0 v3 w' => ∃ (x0_1 : Int) (x3_1 : ByteArray), v0 = .int .i64 x0_1 ∧ v3 = .string x3_1 ∧ Aside0 (customsref02_Digits.l0 kq x0_1 x3_1 = some r) ∧ Aside0 (kq ≤ k) ∧ Aside0 (Below w.heap.size w w'))
  case atStart => exact ⟨(a0), ((⟨#[]⟩ : ByteArray)), (by first | rfl | (simp; done) | (simp [*]; done)), (by first | rfl | (simp; done) | (simp [*]; done)), H', ⟨Nat.le_refl _⟩, ⟨by repeat (first | (with_reducible first | exact HB.out | apply below_alloc | apply pw_below_drewN | apply below_drew1) | exact HB.out)⟩⟩
  case round =>
    clear H'
    obtain ⟨x0_1, x3_1, rfl, rfl, HA, HK1, HB⟩ := hrel
    cases gk with
    | zero => exact absurd HA.out (by simp [customsref02_Digits.l0])
    | succ k1 =>
      have H := HA.out
      clear HA
      simp only [customsref02_Digits.l0] at H
      obtain ⟨y216, hy216⟩ : ∃ y_ : List Int, y_ = (([(wrap64 (48 + (Int.tmod x0_1 10))) % 256] : List Int)) := ⟨_, rfl⟩
      replace H : (if (strOfNums y216).size + x3_1.size ≤ 9223372036854775807 then (if (wrap64 (Int.tdiv x0_1 10)) = 0 then (some ((strOfNums y216) ++ x3_1)) else (customsref02_Digits.l0 k1 (wrap64 (Int.tdiv x0_1 10)) ((strOfNums y216) ++ x3_1))) else (none)) = some r := by first | (rw [hy216]; with_reducible exact H) | (have H2_ := (Option.bind_some _ _).symm.trans H; rw [hy216]; with_reducible exact H2_) | (have H2_ := (Option.bind_some _ _).symm.trans H; with_reducible exact H2_) | with_reducible exact H | (rw [hy216]; exact H) | exact H
      have Ny216 := Aside0.mk hy216
      clear hy216
      by_cases c2 : (strOfNums y216).size + x3_1.size ≤ 9223372036854775807
      · rw [if_pos c2] at H
        have c2b0 := eq_true c2
        have c2b1 : decide ((strOfNums y216).size + x3_1.size ≤ 9223372036854775807) = true := decide_eq_true c2
        try have c2b2 : (9223372036854775807 < (strOfNums y216).size + x3_1.size) = False := eq_false (Nat.not_lt.2 c2)
        by_cases c3 : (wrap64 (Int.tdiv x0_1 10)) = 0
        · rw [if_pos c3] at H
          have c3b0 : ((wrap64 (Int.tdiv x0_1 10)) == 0) = true := beq_iff_eq.mpr c3
          have c3b1 : ((wrap64 (Int.tdiv x0_1 10)) != 0) = false := bne_eq_false_iff_eq.mpr c3
          clear c3
          obtain rfl := Option.some.inj H
          go_wp2_with (first | ((with_reducible refine gate_dst (N := 8) rfl ?_); refine Kd.R_lit (Kd.int .u8) _ 5 ?hg (N := 8) ?hd (xs := ([(wrap64 (48 + (Int.tmod x0_1 10))) % 256] : List Int)) (inner := [.int .u8 ((wrap64 (48 + (Int.tmod x0_1 10))) % 256)]) (ok := fun _ => True) (okp := fun _ => True) ?hr ?hp (fun _ hk => hk) trivial (Below.refl _ _) (Nat.le_refl _) (by simp) ?_; (case hd => rfl); (case hg => rfl); (case hr => first | (go_simp; done) | (go_simp; rfl)); (case hp => exact (Reps.one (show Kd.M (Kd.int .u8) _ _ _ ((wrap64 (48 + (Int.tmod x0_1 10))) % 256) [.int .u8 ((wrap64 (48 + (Int.tmod x0_1 10))) % 256)] from rfl) (Reps.none _ _))); intro v217 w4 ho5 hb hg_ hnew_; clear hg_ hnew_; (first | rw [← Ny216.out] at ho5 | (simp only [Int.reduceToNat] at ho5; rw [← Ny216.out] at ho5)); have n0_ := Aside0.mk (Kd.R_lower ho5 (below_size (by repeat (first | (with_reducible first | exact HB.out | apply below_alloc | apply pw_below_drewN | apply below_drew1) | exact HB.out)))); have n1_ := Aside0.mk (below_step (by repeat (first | (with_reducible first | exact HB.out | apply below_alloc | apply pw_below_drewN | apply below_drew1) | exact HB.out)) hb); clear HB; have HO218 := n0_; have HB := n1_; clear n0_ n1_; clear hb ho5; have hcv6 := own_string (P := Tryd.prog) Tryd.underlying37 Tryd.underlying5 Tryd.underlying9 (Kd.own_of_R HO218.out)))
          go_ret
          exact ⟨by first | rfl | (simp [errW_none, errW_some] <;> rfl) | (simp [*, errW_none, errW_some] <;> rfl), by repeat (first | (with_reducible first | exact HB.out | apply below_alloc | apply pw_below_drewN | apply below_drew1) | exact HB.out)⟩
        · rw [if_neg c3] at H
          have c3b0 : ((wrap64 (Int.tdiv x0_1 10)) == 0) = false := beq_eq_false_iff_ne.mpr c3
          have c3b1 : ((wrap64 (Int.tdiv x0_1 10)) != 0) = true := bne_iff_ne.mpr c3
          have H' := Aside0.mk H
          clear H
          go_wp2_with (first | ((with_reducible refine gate_dst (N := 8) rfl ?_); refine Kd.R_lit (Kd.int .u8) _ 5 ?hg (N := 8) ?hd (xs := ([(wrap64 (48 + (Int.tmod x0_1 10))) % 256] : List Int)) (inner := [.int .u8 ((wrap64 (48 + (Int.tmod x0_1 10))) % 256)]) (ok := fun _ => True) (okp := fun _ => True) ?hr ?hp (fun _ hk => hk) trivial (Below.refl _ _) (Nat.le_refl _) (by simp) ?_; (case hd => rfl); (case hg => rfl); (case hr => first | (go_simp; done) | (go_simp; rfl)); (case hp => exact (Reps.one (show Kd.M (Kd.int .u8) _ _ _ ((wrap64 (48 + (Int.tmod x0_1 10))) % 256) [.int .u8 ((wrap64 (48 + (Int.tmod x0_1 10))) % 256)] from rfl) (Reps.none _ _))); intro v217 w7 ho8 hb hg_ hnew_; clear hg_ hnew_; (first | rw [← Ny216.out] at ho8 | (simp only [Int.reduceToNat] at ho8; rw [← Ny216.out] at ho8)); have n0_ := Aside0.mk (Kd.R_lower ho8 (below_size (by repeat (first | (with_reducible first | exact HB.out | apply below_alloc | apply pw_below_drewN | apply below_drew1) | exact HB.out)))); have n1_ := Aside0.mk (below_step (by repeat (first | (with_reducible first | exact HB.out | apply below_alloc | apply pw_below_drewN | apply below_drew1) | exact HB.out)) hb); clear HB; have HO218 := n0_; have HB := n1_; clear n0_ n1_; clear hb ho8; have hcv9 := own_string (P := Tryd.prog) Tryd.underlying37 Tryd.underlying5 Tryd.underlying9 (Kd.own_of_R HO218.out)))
          go_roundg k1
          case measure => have := HK1.out; omega
          case rel => exact ⟨(wrap64 (Int.tdiv x0_1 10)), ((strOfNums y216) ++ x3_1), (by first | rfl | (simp; done) | (simp [*]; done)), (by first | rfl | (simp; done) | (simp [*]; done)), H', ⟨by have := HK1.out; omega⟩, ⟨by repeat (first | (with_reducible first | exact HB.out | apply below_alloc | apply pw_below_drewN | apply below_drew1) | exact HB.out)⟩⟩
      · rw [if_neg c2] at H
        exact absurd H (by simp)

/-! ### customsref02_Format: function 16 -/
def customsref02_Format.f : Nat → Int → Option (ByteArray)
  | 0, _ => none
  | k + 1, a0 => (customsref02_Amount.f a0).bind fun t219 => (if t219 = true then (if a0 < 0 then ((customsref02_Format.f k (wrap64 (-a0))).bind fun t220 => (if 1 + t220.size ≤ 9223372036854775807 then (some ((⟨#[45]⟩ : ByteArray) ++ t220)) else (none))) else ((customsref02_Digits.f k (wrap64 (Int.tdiv a0 100))).bind fun t221 => (if t221.size + 1 ≤ 9223372036854775807 then ((customsref02_Digits.f k (Int.tmod (wrap64 (Int.tdiv a0 10)) 10)).bind fun t222 => (if t221.size + 1 + t222.size ≤ 9223372036854775807 then ((customsref02_Digits.f k (Int.tmod a0 10)).bind fun t223 => (if t221.size + 1 + t222.size + t223.size ≤ 9223372036854775807 then (some (((t221 ++ (⟨#[46]⟩ : ByteArray)) ++ t222) ++ t223)) else (none))) else (none))) else (none)))) else (some (⟨#[]⟩ : ByteArray)))
theorem customsref02_Format.mono_l : ∀ k, (∀ y0, LeO (customsref02_Format.f k y0) (customsref02_Format.f (k + 1) y0))
  | 0 => fun _ r h => by simp [customsref02_Format.f] at h
  | k + 1 => by
    have ih0 := customsref02_Format.mono_l k
    · intro y0
      unfold customsref02_Format.f
      repeat' first
      | (with_reducible exact ih0 _)
      | (with_reducible exact customsref02_Digits.mono _ _)
      | (with_reducible exact LeO.refl _)
      | (with_reducible exact LeO.none _)
      | (with_reducible refine LeO.ite ?_ ?_)
      | (with_reducible refine LeO.bind ?_ (fun _ => ?_))
      | exact ih0 _
      | exact customsref02_Digits.mono _ _
      | exact LeO.none _
      | refine LeO.ite ?_ ?_
      | refine LeO.bind ?_ (fun _ => ?_)
theorem customsref02_Format.mono : ∀ a0 k, LeO (customsref02_Format.f k a0) (customsref02_Format.f (k + 1) a0) := by
  intro a0 k
  have ih0 := customsref02_Format.mono_l k
  exact ih0 a0
set_option maxHeartbeats 8000000 in
set_option maxRecDepth 100000 in
theorem customsref02_Format.calls (k : Nat) : ∀ (a0 : Int) (r : ByteArray) (w : World) (h : customsref02_Format.f k a0 = some r),
    Calls Tryd.prog 16 #[.int .i64 a0] w fun e w' => e = .returned (.string r) ∧ Below w.heap.size w w' := by
  induction k using Nat.strongRecOn with
  | _ k ih =>
  intro a0 r w h
  cases k with
  | zero => exact absurd h (by simp [customsref02_Format.f])
  | succ k =>
  simp only [customsref02_Format.f] at h
  have HB := Aside0.mk (Below.refl w.heap.size w)
  have H : ((customsref02_Amount.f a0).bind fun t219 => (if t219 = true then (if a0 < 0 then ((customsref02_Format.f k (wrap64 (-a0))).bind fun t220 => (if 1 + t220.size ≤ 9223372036854775807 then (some ((⟨#[45]⟩ : ByteArray) ++ t220)) else (none))) else ((customsref02_Digits.f k (wrap64 (Int.tdiv a0 100))).bind fun t221 => (if t221.size + 1 ≤ 9223372036854775807 then ((customsref02_Digits.f k (Int.tmod (wrap64 (Int.tdiv a0 10)) 10)).bind fun t222 => (if t221.size + 1 + t222.size ≤ 9223372036854775807 then ((customsref02_Digits.f k (Int.tmod a0 10)).bind fun t223 => (if t221.size + 1 + t222.size + t223.size ≤ 9223372036854775807 then (some (((t221 ++ (⟨#[46]⟩ : ByteArray)) ++ t222) ++ t223)) else (none))) else (none))) else (none)))) else (some (⟨#[]⟩ : ByteArray)))) = some r := h
  clear h
  replace H := Option.bind_eq_some_iff.mp H
  obtain ⟨t219, A20, H⟩ := H
  replace H : (if t219 = true then (if a0 < 0 then ((customsref02_Format.f k (wrap64 (-a0))).bind fun t220 => (if 1 + t220.size ≤ 9223372036854775807 then (some ((⟨#[45]⟩ : ByteArray) ++ t220)) else (none))) else ((customsref02_Digits.f k (wrap64 (Int.tdiv a0 100))).bind fun t221 => (if t221.size + 1 ≤ 9223372036854775807 then ((customsref02_Digits.f k (Int.tmod (wrap64 (Int.tdiv a0 10)) 10)).bind fun t222 => (if t221.size + 1 + t222.size ≤ 9223372036854775807 then ((customsref02_Digits.f k (Int.tmod a0 10)).bind fun t223 => (if t221.size + 1 + t222.size + t223.size ≤ 9223372036854775807 then (some (((t221 ++ (⟨#[46]⟩ : ByteArray)) ++ t222) ++ t223)) else (none))) else (none))) else (none)))) else (some (⟨#[]⟩ : ByteArray))) = some r := H
  have A2 := Aside0.mk A20
  clear A20
  by_cases c3 : t219 = true
  · subst c3
    have H1 : (if a0 < 0 then ((customsref02_Format.f k (wrap64 (-a0))).bind fun t220 => (if 1 + t220.size ≤ 9223372036854775807 then (some ((⟨#[45]⟩ : ByteArray) ++ t220)) else (none))) else ((customsref02_Digits.f k (wrap64 (Int.tdiv a0 100))).bind fun t221 => (if t221.size + 1 ≤ 9223372036854775807 then ((customsref02_Digits.f k (Int.tmod (wrap64 (Int.tdiv a0 10)) 10)).bind fun t222 => (if t221.size + 1 + t222.size ≤ 9223372036854775807 then ((customsref02_Digits.f k (Int.tmod a0 10)).bind fun t223 => (if t221.size + 1 + t222.size + t223.size ≤ 9223372036854775807 then (some (((t221 ++ (⟨#[46]⟩ : ByteArray)) ++ t222) ++ t223)) else (none))) else (none))) else (none)))) = some r := by rw [if_pos rfl] at H; exact H
    clear H
    have H := H1
    clear H1
    by_cases c4 : a0 < 0
    · rw [if_pos c4] at H
      have c4b0 : decide (a0 < 0) = true := decide_eq_true c4
      clear c4
      replace H := Option.bind_eq_some_iff.mp H
      obtain ⟨t220, A50, H⟩ := H
      replace H : (if 1 + t220.size ≤ 9223372036854775807 then (some ((⟨#[45]⟩ : ByteArray) ++ t220)) else (none)) = some r := H
      have A5 := Aside0.mk A50
      clear A50
      by_cases c6 : 1 + t220.size ≤ 9223372036854775807
      · rw [if_pos c6] at H
        have c6b0 := eq_true c6
        have c6b1 : decide (1 + t220.size ≤ 9223372036854775807) = true := decide_eq_true c6
        try have c6b2 : (9223372036854775807 < 1 + t220.size) = False := eq_false (Nat.not_lt.2 c6)
        obtain rfl := Option.some.inj H
        go_enter Tryd.func16, Tryd.ntmps16
        go_wp2_with (first | ((with_reducible refine gate_callee (f := 23) rfl ?_); refine goesL_ (some 4) rfl rfl Tryd.func23 (by kernel_rfl) rfl #[.int .i64 a0] rfl (by (try simp only [List.map_toArray, List.map_cons, List.map_nil]); first | done | rfl | (simp only [List.length_drop, List.length_take]; rfl)) ?_; (with_reducible refine (customsref02_Amount.calls a0 true _ A2.out).mono ?_); rintro e w' ⟨rfl, ⟨nd, rfl⟩⟩; refine ⟨_, rfl, ?_⟩) | ((with_reducible refine gate_callee (f := 16) rfl ?_); refine goesL_ (some 10) rfl rfl Tryd.func16 (by kernel_rfl) rfl #[.int .i64 (wrap64 (-a0))] rfl (by (try simp only [List.map_toArray, List.map_cons, List.map_nil]); first | done | rfl | (simp only [List.length_drop, List.length_take]; rfl)) ?_; (with_reducible refine (ih k (by omega) (wrap64 (-a0)) t220 _ A5.out).mono ?_); rintro e w7 ⟨rfl, hb⟩; refine ⟨_, rfl, ?_⟩; have n0_ := Aside0.mk (below_step (by repeat (first | (with_reducible first | exact HB.out | apply below_alloc | apply pw_below_drewN | apply below_drew1) | exact HB.out)) hb); clear HB; have HB := n0_; clear n0_; (try clear hb); (try clear hb2); (try clear hk); (try clear hi)))
        go_ret
        exact ⟨by first | rfl | (simp [errW_none, errW_some] <;> rfl) | (simp [*, errW_none, errW_some] <;> rfl), by repeat (first | (with_reducible first | exact HB.out | apply below_alloc | apply pw_below_drewN | apply below_drew1) | exact HB.out)⟩
      · rw [if_neg c6] at H
        exact absurd H (by simp)
    · rw [if_neg c4] at H
      have c4b0 : decide (a0 < 0) = false := decide_eq_false c4
      clear c4
      replace H := Option.bind_eq_some_iff.mp H
      obtain ⟨t221, A80, H⟩ := H
      replace H : (if t221.size + 1 ≤ 9223372036854775807 then ((customsref02_Digits.f k (Int.tmod (wrap64 (Int.tdiv a0 10)) 10)).bind fun t222 => (if t221.size + 1 + t222.size ≤ 9223372036854775807 then ((customsref02_Digits.f k (Int.tmod a0 10)).bind fun t223 => (if t221.size + 1 + t222.size + t223.size ≤ 9223372036854775807 then (some (((t221 ++ (⟨#[46]⟩ : ByteArray)) ++ t222) ++ t223)) else (none))) else (none))) else (none)) = some r := H
      have A8 := Aside0.mk A80
      clear A80
      by_cases c9 : t221.size + 1 ≤ 9223372036854775807
      · rw [if_pos c9] at H
        have c9b0 := eq_true c9
        have c9b1 : decide (t221.size + 1 ≤ 9223372036854775807) = true := decide_eq_true c9
        try have c9b2 : (9223372036854775807 < t221.size + 1) = False := eq_false (Nat.not_lt.2 c9)
        replace H := Option.bind_eq_some_iff.mp H
        obtain ⟨t222, A100, H⟩ := H
        replace H : (if t221.size + 1 + t222.size ≤ 9223372036854775807 then ((customsref02_Digits.f k (Int.tmod a0 10)).bind fun t223 => (if t221.size + 1 + t222.size + t223.size ≤ 9223372036854775807 then (some (((t221 ++ (⟨#[46]⟩ : ByteArray)) ++ t222) ++ t223)) else (none))) else (none)) = some r := H
        have A10 := Aside0.mk A100
        clear A100
        by_cases c11 : t221.size + 1 + t222.size ≤ 9223372036854775807
        · rw [if_pos c11] at H
          have c11b0 := eq_true c11
          have c11b1 : decide (t221.size + 1 + t222.size ≤ 9223372036854775807) = true := decide_eq_true c11
          try have c11b2 : (9223372036854775807 < t221.size + 1 + t222.size) = False := eq_false (Nat.not_lt.2 c11)
          replace H := Option.bind_eq_some_iff.mp H
          obtain ⟨t223, A120, H⟩ := H
          replace H : (if t221.size + 1 + t222.size + t223.size ≤ 9223372036854775807 then (some (((t221 ++ (⟨#[46]⟩ : ByteArray)) ++ t222) ++ t223)) else (none)) = some r := H
          have A12 := Aside0.mk A120
          clear A120
          by_cases c13 : t221.size + 1 + t222.size + t223.size ≤ 9223372036854775807
          · rw [if_pos c13] at H
            have c13b0 := eq_true c13
            have c13b1 : decide (t221.size + 1 + t222.size + t223.size ≤ 9223372036854775807) = true := decide_eq_true c13
            try have c13b2 : (9223372036854775807 < t221.size + 1 + t222.size + t223.size) = False := eq_false (Nat.not_lt.2 c13)
            obtain rfl := Option.some.inj H
            go_enter Tryd.func16, Tryd.ntmps16
            go_wp2_with (first | ((with_reducible refine gate_callee (f := 23) rfl ?_); refine goesL_ (some 4) rfl rfl Tryd.func23 (by kernel_rfl) rfl #[.int .i64 a0] rfl (by (try simp only [List.map_toArray, List.map_cons, List.map_nil]); first | done | rfl | (simp only [List.length_drop, List.length_take]; rfl)) ?_; (with_reducible refine (customsref02_Amount.calls a0 true _ A2.out).mono ?_); rintro e w' ⟨rfl, ⟨nd, rfl⟩⟩; refine ⟨_, rfl, ?_⟩) | ((with_reducible refine gate_callee (f := 26) rfl ?_); refine goesL_ (some 14) rfl rfl Tryd.func26 (by kernel_rfl) rfl #[.int .i64 (wrap64 (Int.tdiv a0 100))] rfl (by (try simp only [List.map_toArray, List.map_cons, List.map_nil]); first | done | rfl | (simp only [List.length_drop, List.length_take]; rfl)) ?_; (with_reducible refine (customsref02_Digits.calls k (wrap64 (Int.tdiv a0 100)) t221 _ A8.out).mono ?_); rintro e w14 ⟨rfl, hb⟩; refine ⟨_, rfl, ?_⟩; have n0_ := Aside0.mk (below_step (by repeat (first | (with_reducible first | exact HB.out | apply below_alloc | apply pw_below_drewN | apply below_drew1) | exact HB.out)) hb); clear HB; have HB := n0_; clear n0_; (try clear hb); (try clear hb2); (try clear hk); (try clear hi)) | ((with_reducible refine gate_callee (f := 26) rfl ?_); refine goesL_ (some 19) rfl rfl Tryd.func26 (by kernel_rfl) rfl #[.int .i64 (Int.tmod (wrap64 (Int.tdiv a0 10)) 10)] rfl (by (try simp only [List.map_toArray, List.map_cons, List.map_nil]); first | done | rfl | (simp only [List.length_drop, List.length_take]; rfl)) ?_; (with_reducible refine (customsref02_Digits.calls k (Int.tmod (wrap64 (Int.tdiv a0 10)) 10) t222 _ A10.out).mono ?_); rintro e w15 ⟨rfl, hb⟩; refine ⟨_, rfl, ?_⟩; have n0_ := Aside0.mk (below_step (by repeat (first | (with_reducible first | exact HB.out | apply below_alloc | apply pw_below_drewN | apply below_drew1) | exact HB.out)) hb); clear HB; have HB := n0_; clear n0_; (try clear hb); (try clear hb2); (try clear hk); (try clear hi)) | ((with_reducible refine gate_callee (f := 26) rfl ?_); refine goesL_ (some 23) rfl rfl Tryd.func26 (by kernel_rfl) rfl #[.int .i64 (Int.tmod a0 10)] rfl (by (try simp only [List.map_toArray, List.map_cons, List.map_nil]); first | done | rfl | (simp only [List.length_drop, List.length_take]; rfl)) ?_; (with_reducible refine (customsref02_Digits.calls k (Int.tmod a0 10) t223 _ A12.out).mono ?_); rintro e w16 ⟨rfl, hb⟩; refine ⟨_, rfl, ?_⟩; have n0_ := Aside0.mk (below_step (by repeat (first | (with_reducible first | exact HB.out | apply below_alloc | apply pw_below_drewN | apply below_drew1) | exact HB.out)) hb); clear HB; have HB := n0_; clear n0_; (try clear hb); (try clear hb2); (try clear hk); (try clear hi)))
            go_ret
            exact ⟨by first | rfl | (simp [errW_none, errW_some] <;> rfl) | (simp [*, errW_none, errW_some] <;> rfl), by repeat (first | (with_reducible first | exact HB.out | apply below_alloc | apply pw_below_drewN | apply below_drew1) | exact HB.out)⟩
          · rw [if_neg c13] at H
            exact absurd H (by simp)
        · rw [if_neg c11] at H
          exact absurd H (by simp)
      · rw [if_neg c9] at H
        exact absurd H (by simp)
  · replace c3 := Bool.eq_false_iff.mpr c3
    subst c3
    have H1 : (some (⟨#[]⟩ : ByteArray)) = some r := by rw [if_neg (show ¬ (false = true) by decide)] at H; exact H
    clear H
    have H := H1
    clear H1
    obtain rfl := Option.some.inj H
    go_enter Tryd.func16, Tryd.ntmps16
    go_wp2_with (first | ((with_reducible refine gate_callee (f := 23) rfl ?_); refine goesL_ (some 4) rfl rfl Tryd.func23 (by kernel_rfl) rfl #[.int .i64 a0] rfl (by (try simp only [List.map_toArray, List.map_cons, List.map_nil]); first | done | rfl | (simp only [List.length_drop, List.length_take]; rfl)) ?_; (with_reducible refine (customsref02_Amount.calls a0 false _ A2.out).mono ?_); rintro e w' ⟨rfl, ⟨nd, rfl⟩⟩; refine ⟨_, rfl, ?_⟩))
    go_ret
    exact ⟨by first | rfl | (simp [errW_none, errW_some] <;> rfl) | (simp [*, errW_none, errW_some] <;> rfl), by repeat (first | (with_reducible first | exact HB.out | apply below_alloc | apply pw_below_drewN | apply below_drew1) | exact HB.out)⟩

end Go.Proofs.YtheknmeeioajfaaDoor.F
