/- Layer 6 in plain words: which segments are valid: the program's Validate and the reference's. -/
import Derived.Test.YthdahpnjiighfaaEv
import Derived.Laws.Strings
import Derived.Test.YthdahpnjiighfaaF1 -- segment_tag
import Derived.Test.YthdahpnjiighfaaF2 -- segment_limits
import Derived.Test.YthdahpnjiighfaaF3 -- segment_Validate
import Derived.Test.YthdahpnjiighfaaF4 -- customsref06_Segment
namespace Go.Proofs.Ythdahpnjiighfaa.D
set_option linter.unusedVariables false
set_option linter.unusedSimpArgs false
open Go.RowKit Go.Proofs.YthdahpnjiighfaaW.PrintWords Go.Proofs.YthdahpnjiighfaaW.PrintMore Go.Proofs.Ythdahpnjiighfaa.F
def chOK (i b : Int) : Bool := decide (65 ≤ b ∧ b ≤ 90) || (decide (i ≠ 0) && decide (48 ≤ b ∧ b ≤ 57))
def tagB (a : ByteArray) : Bool := decide (a.size = 3) && (chOK 0 (bt a 0) && (chOK 1 (bt a 1) && chOK 2 (bt a 2)))
def longE (e : List ByteArray) : Bool := decide (e.length > 100) || e.any fun c => decide (c.size > 1000)
def longB (x : List (List ByteArray)) : Bool := decide (x.length > 100) || x.any longE
def badE (e : List ByteArray) : Bool := match e with
  | [] => false
  | _ :: _ => decide ((e.getLastD ByteArray.empty).data.toList = [])
def endsB : List (List ByteArray) → Bool
  | [] => false
  | [e] => decide (e = []) || badE e
  | e :: r => badE e || endsB r
/-- What Validate answers: 0 for a segment that is valid. -/
def valid (t : ByteArray) (x : List (List ByteArray)) : Int := if tagB t = true then (if longB x = true then 8 else if endsB x = true then 1 else 0) else 1
theorem chOK_yes {i b : Int} (h : chOK i b = true) : (65 ≤ b ∧ b ≤ 90) ∨ (i ≠ 0 ∧ 48 ≤ b ∧ b ≤ 57) := by
  unfold chOK at h
  simpa using h
theorem chOK_no {i b : Int} (h : chOK i b = false) : ¬ ((65 ≤ b ∧ b ≤ 90) ∨ (i ≠ 0 ∧ 48 ≤ b ∧ b ≤ 57)) := by
  unfold chOK at h
  intro c
  have : chOK i b = true := by unfold chOK; simpa using c
  unfold chOK at this
  rw [h] at this
  cases this
theorem ev_ite2 {α : Type} {c : Prop} [Decidable c] {f g : Nat → Option α} {r : α} (h : c → Ev f r) (k : ¬ c → Ev g r) : Ev (fun n => if c then f n else g n) r := ev_ite h k
theorem tag_step (a : ByteArray) (i : Nat) (hs : a.size = 3) (hi : i < 3) {r : Bool} (h : chOK i (bt a i) = true → Ev (fun k => segment_tag.l0 k a ((i : Int) + 1)) r) (hf : chOK i (bt a i) = false → r = false) :
    Ev (fun k => segment_tag.l0 k a (i : Int)) r := by
  have hb := bt_range a i
  refine Ev.step (fun k => by rw [segment_tag.l0]) (ev_pos (by omega) (ev_pos (by omega) (ev_pos (by omega) ?_)))
  rw [w64 (by omega) (by omega)]
  by_cases hc : chOK i (bt a i) = true
  · have h' := h hc
    have hy := chOK_yes hc
    refine ev_ite2 (fun _ => ev_ite2 (fun _ => ev_ite2 (fun _ => h') (fun _ => ev_neg (by omega) (ev_pos (by omega) h'))) (fun _ => absurd ‹_› (by omega))) (fun _ => ev_ite2 (fun _ => ev_neg (by omega) (ev_pos (by omega) h')) (fun _ => absurd ‹_› (by omega)))
  · have hn := chOK_no (Bool.not_eq_true _ ▸ hc)
    obtain rfl := hf (Bool.not_eq_true _ ▸ hc)
    refine ev_ite2 (fun _ => ev_ite2 (fun _ => ev_neg (by omega) (ev_ite2 (fun _ => Ev.now _) (fun _ => ev_neg (by omega) (Ev.now _)))) (fun _ => ev_neg (by omega) (ev_ite2 (fun _ => Ev.now _) (fun _ => Ev.now _)))) (fun _ => ev_ite2 (fun _ => ev_ite2 (fun _ => Ev.now _) (fun _ => ev_neg (by omega) (Ev.now _))) (fun _ => ev_ite2 (fun _ => Ev.now _) (fun _ => Ev.now _)))
theorem tag_ev (a : ByteArray) : Ev (fun k => segment_tag.f k a) (tagB a) := by
  unfold segment_tag.f
  by_cases hs : a.size = 3
  · refine ev_pos (by omega) ?_
    unfold tagB
    rw [decide_eq_true hs, Bool.true_and]
    refine tag_step a 0 hs (by omega) (fun h0 => ?_) (fun h0 => by rw [show chOK 0 (bt a 0) = false from h0, Bool.false_and])
    rw [show chOK 0 (bt a 0) = true from h0, Bool.true_and]
    refine tag_step a 1 hs (by omega) (fun h1 => ?_) (fun h1 => by rw [show chOK 1 (bt a 1) = false from h1, Bool.false_and])
    rw [show chOK 1 (bt a 1) = true from h1, Bool.true_and]
    refine tag_step a 2 hs (by omega) (fun h2 => ?_) (fun h2 => h2)
    rw [show chOK 2 (bt a 2) = true from h2]
    exact Ev.step (fun k => by rw [segment_tag.l0]) (ev_neg (by omega) (Ev.now _))
  · refine ev_neg (by omega) ?_
    unfold tagB
    rw [decide_eq_false hs, Bool.false_and]
    exact Ev.now _
theorem rdL1 (xs : List (List ByteArray)) (i : Nat) (h : i < xs.length) : rd_L1 xs (i : Int) = xs[i] := by unfold rd_L1; simp [h]
theorem rdOf_get {α : Type} (z : α) (xs : List α) (i : Nat) (h : i < xs.length) : rdOf z xs (i : Int) = xs[i] := by unfold rdOf; simp [h]
theorem limits_l1 (x : List (List ByteArray)) (n j : Int) (e : List ByteArray) (he : e.length ≤ 9223372036854775806) {r : Bool} (d : Nat) : ∀ i : Nat, i + d = e.length →
    ((e.drop i).any (fun c => decide (c.size > 1000)) = true → r = false) →
    ((e.drop i).any (fun c => decide (c.size > 1000)) = false → Ev (fun k => segment_limits.l0 k x n (wrap64 (j + 1))) r) →
    Ev (fun k => segment_limits.l1 k x n j e (e.length : Int) (i : Int)) r := by
  induction d with
  | zero =>
    intro i h h1 h2
    refine Ev.step (fun k => by rw [segment_limits.l1]) (ev_neg (by omega) (h2 ?_))
    rw [List.drop_of_length_le (by omega), List.any_nil]
  | succ d ih =>
    intro i h h1 h2
    have hi : i < e.length := by omega
    rw [List.drop_eq_getElem_cons hi, List.any_cons] at h1 h2
    refine Ev.step (fun k => by rw [segment_limits.l1]) (ev_pos (by omega) (ev_pos (by omega) (ev_pos (by omega) ?_)))
    rw [rdOf_get _ e i hi, w64 (by omega) (by omega)]
    by_cases hc : e[i].size > 1000
    · refine ev_pos (by omega) ?_
      rw [h1 (by rw [decide_eq_true hc, Bool.true_or])]
      exact Ev.now _
    · refine ev_neg (by omega) (ih (i + 1) (by omega) (fun h => h1 (by rw [h, Bool.or_true])) (fun h => h2 (by rw [h, decide_eq_false hc]; rfl)))
theorem limits_l0 (x : List (List ByteArray)) (hx : x.length ≤ 9223372036854775806) (d : Nat) : ∀ i : Nat, i + d = x.length →
    Ev (fun k => segment_limits.l0 k x (x.length : Int) (i : Int)) (!(x.drop i).any longE) := by
  induction d with
  | zero =>
    intro i h
    refine Ev.step (fun k => by rw [segment_limits.l0]) (ev_neg (by omega) ?_)
    rw [List.drop_of_length_le (by omega), List.any_nil]
    exact Ev.now _
  | succ d ih =>
    intro i h
    have hi : i < x.length := by omega
    rw [List.drop_eq_getElem_cons hi, List.any_cons]
    refine Ev.step (fun k => by rw [segment_limits.l0]) (ev_pos (by omega) (ev_pos (by omega) (ev_pos (by omega) ?_)))
    rw [rdL1 x i hi]
    by_cases hc : x[i].length > 100
    · refine ev_pos (by omega) ?_
      unfold longE
      rw [decide_eq_true hc, Bool.true_or, Bool.true_or]
      exact Ev.now _
    · refine ev_neg (by omega) (limits_l1 x _ i x[i] (by omega) x[i].length 0 (by omega) (fun h => ?_) (fun h => ?_))
      · rw [List.drop_zero] at h
        unfold longE
        rw [h, Bool.or_true, Bool.true_or]; rfl
      · rw [List.drop_zero] at h
        unfold longE
        rw [decide_eq_false hc, h, Bool.false_or, Bool.false_or, w64 (by omega) (by omega)]
        exact ih (i + 1) (by omega)
theorem limits_ev (a : ByteArray) (x : List (List ByteArray)) (hx : x.length ≤ 9223372036854775806) : Ev (fun k => segment_limits.f k a x) (!longB x) := by
  unfold segment_limits.f longB
  by_cases hc : x.length > 100
  · refine ev_pos (by omega) ?_
    rw [decide_eq_true hc, Bool.true_or]
    exact Ev.now _
  · refine ev_neg (by omega) ?_
    rw [decide_eq_false hc, Bool.false_or]
    exact limits_l0 x hx x.length 0 (by omega)
theorem toList_nil (a : ByteArray) : a.toList = ([] : List UInt8) ↔ a.data.toList = [] := by rw [ByteArray.toList_eq]
theorem last_at (e : List ByteArray) (h : 0 < e.length) : rdOf ByteArray.empty e ((e.length : Int) - 1) = e.getLastD ByteArray.empty := by
  unfold rdOf
  rw [show ((e.length : Int) - 1).toNat = e.length - 1 by omega]
  cases e with
  | nil => simp at h
  | cons a l => simp [List.getLastD, List.getD_eq_getElem?_getD, List.getLast_eq_getElem]
theorem endsB_cons {e : List ByteArray} {r : List (List ByteArray)} : endsB (e :: r) = ((decide (e = []) && decide (r = [])) || (badE e || endsB r)) := by
  cases r with
  | nil => simp [endsB]
  | cons a l => simp [endsB]
theorem badE_nil : badE [] = false := rfl
theorem badE_pos {e : List ByteArray} (h : 0 < e.length) : badE e = decide ((e.getLastD ByteArray.empty).data.toList = []) := by
  cases e with
  | nil => simp at h
  | cons a l => rfl
/-- The loop that both versions share, as far as their bodies agree. -/
theorem ends_body {x : List (List ByteArray)} {i : Nat} (hi : i < x.length) (hx : x.length ≤ 9223372036854775806) (hm : x[i].length ≤ 9223372036854775806) {g : Nat → Option Int} {r : Int}
    (h1 : badE x[i] = true → r = 1) (h2 : x[i] = [] → i + 1 = x.length → r = 1) (h3 : badE x[i] = false → ¬ (x[i] = [] ∧ i + 1 = x.length) → Ev g r) :
    Ev (fun k => if ((rd_L1 x i).length : Int) = 0 then (if (i : Int) = (wrap64 ((x.length : Int) - 1)) then (some 1) else (if ((rd_L1 x i).length : Int) > 0 then (if 0 ≤ (wrap64 (((rd_L1 x i).length : Int) - 1)) then (if (wrap64 (((rd_L1 x i).length : Int) - 1)) < ((rd_L1 x i).length : Int) then (if (rdOf ByteArray.empty (rd_L1 x i) (wrap64 (((rd_L1 x i).length : Int) - 1))).toList = ([] : List UInt8) then (some 1) else (g k)) else (none)) else (none)) else (g k))) else (if ((rd_L1 x i).length : Int) > 0 then (if 0 ≤ (wrap64 (((rd_L1 x i).length : Int) - 1)) then (if (wrap64 (((rd_L1 x i).length : Int) - 1)) < ((rd_L1 x i).length : Int) then (if (rdOf ByteArray.empty (rd_L1 x i) (wrap64 (((rd_L1 x i).length : Int) - 1))).toList = ([] : List UInt8) then (some 1) else (g k)) else (none)) else (none)) else (g k))) r := by
  rw [rdL1 x i hi]
  by_cases he : x[i].length = 0
  · refine ev_pos (by omega) ?_
    rw [w64 (by omega) (by omega)]
    have hnil : x[i] = [] := List.eq_nil_of_length_eq_zero he
    by_cases hl : i + 1 = x.length
    · refine ev_pos (by omega) ?_
      rw [h2 hnil hl]; exact Ev.now _
    · exact ev_neg (by omega) (ev_neg (by omega) (h3 (by rw [hnil]; rfl) (fun h => hl h.2)))
  · refine ev_neg (by omega) (ev_pos (by omega) ?_)
    rw [w64 (by omega) (by omega), last_at _ (by omega)]
    refine ev_pos (by omega) (ev_pos (by omega) ?_)
    have hb := badE_pos (e := x[i]) (by omega)
    by_cases hc : (x[i].getLastD ByteArray.empty).data.toList = []
    · refine ev_pos ((toList_nil _).2 hc) ?_
      rw [h1 (by rw [hb, decide_eq_true hc])]; exact Ev.now _
    · exact ev_neg (fun h => hc ((toList_nil _).1 h)) (h3 (by rw [hb, decide_eq_false hc]) (fun h => he (by rw [h.1]; rfl)))
theorem ends_r {x : List (List ByteArray)} {i : Nat} (hi : i < x.length) :
    (badE x[i] = true → (if endsB (x.drop i) = true then (1 : Int) else 0) = 1) ∧ (x[i] = [] → i + 1 = x.length → (if endsB (x.drop i) = true then (1 : Int) else 0) = 1) ∧
    (badE x[i] = false → ¬ (x[i] = [] ∧ i + 1 = x.length) → endsB (x.drop i) = endsB (x.drop (i + 1))) := by
  rw [List.drop_eq_getElem_cons hi, endsB_cons]
  refine ⟨fun h => by rw [h]; simp, fun h h2 => ?_, fun h h2 => ?_⟩
  · rw [List.drop_of_length_le (show x.length ≤ i + 1 by omega), h]; simp
  · rw [h, Bool.false_or]
    by_cases he : x[i] = []
    · have hd : x.drop (i + 1) ≠ [] := by
        intro c
        have := congrArg List.length c
        rw [List.length_drop, List.length_nil] at this
        exact h2 ⟨he, by omega⟩
      rw [decide_eq_false hd, Bool.and_false, Bool.false_or]
    · rw [decide_eq_false he, Bool.false_and, Bool.false_or]
theorem validate_l (x : List (List ByteArray)) (hx : x.length ≤ 9223372036854775806) (hm : ∀ e ∈ x, e.length ≤ 9223372036854775806) (a : ByteArray) (d : Nat) : ∀ i : Nat, i + d = x.length →
    Ev (fun k => segment_Validate.l0 k x (x.length : Int) (i : Int) a x) (if endsB (x.drop i) = true then 1 else 0) := by
  induction d with
  | zero =>
    intro i h
    refine Ev.step (fun k => by rw [segment_Validate.l0]) (ev_neg (by omega) ?_)
    rw [List.drop_of_length_le (by omega), show endsB [] = false from rfl]
    exact Ev.now _
  | succ d ih =>
    intro i h
    have hi : i < x.length := by omega
    refine Ev.step (fun k => by rw [segment_Validate.l0]) (ev_pos (by omega) (ev_pos (by omega) (ev_pos (by omega) ?_)))
    obtain ⟨h1, h2, h3⟩ := ends_r hi
    refine ends_body hi hx (hm _ (List.getElem_mem hi)) h1 h2 (fun a1 a2 => ?_)
    rw [h3 a1 a2, w64 (by omega) (by omega)]
    exact ih (i + 1) (by omega)
theorem validate_ev (a : ByteArray) (x : List (List ByteArray)) (hx : x.length ≤ 9223372036854775806) (hm : ∀ e ∈ x, e.length ≤ 9223372036854775806) : Ev (fun k => segment_Validate.f k a x) (valid a x) := by
  unfold segment_Validate.f valid
  refine ev_bind (tag_ev a) ?_
  cases ht : tagB a with
  | false => exact ev_neg (by simp) (by rw [if_neg (by simp)]; exact Ev.now _)
  | true =>
    refine ev_pos rfl ?_
    rw [if_pos rfl]
    refine ev_bind (limits_ev a x hx) ?_
    cases hl : longB x with
    | true => exact ev_neg (by simp) (by rw [if_pos rfl]; exact Ev.now _)
    | false =>
      refine ev_pos rfl ?_
      rw [if_neg (by simp)]
      exact validate_l x hx hm a x.length 0 (by omega)
theorem ref_l3 (x : List (List ByteArray)) (hx : x.length ≤ 9223372036854775806) (hm : ∀ e ∈ x, e.length ≤ 9223372036854775806) (a : ByteArray) (d : Nat) : ∀ i : Nat, i + d = x.length →
    Ev (fun k => customsref06_Segment.l3 k (i : Int) a x) (if endsB (x.drop i) = true then 1 else 0) := by
  induction d with
  | zero =>
    intro i h
    refine Ev.step (fun k => by rw [customsref06_Segment.l3]) (ev_neg (by omega) ?_)
    rw [List.drop_of_length_le (by omega), show endsB [] = false from rfl]
    exact Ev.now _
  | succ d ih =>
    intro i h
    have hi : i < x.length := by omega
    refine Ev.step (fun k => by rw [customsref06_Segment.l3]) (ev_pos (by omega) (ev_pos (by omega) ?_))
    obtain ⟨h1, h2, h3⟩ := ends_r hi
    refine ends_body hi hx (hm _ (List.getElem_mem hi)) h1 h2 (fun a1 a2 => ?_)
    rw [h3 a1 a2, w64 (by omega) (by omega)]
    exact ih (i + 1) (by omega)
theorem ref_l2 (x : List (List ByteArray)) (a : ByteArray) (j : Nat) (hj : j < x.length) (hx : x.length ≤ 9223372036854775806) (he : x[j].length ≤ 9223372036854775806) {r : Int} (d : Nat) : ∀ (i : Nat) (b : Bool), i + d = x[j].length →
    Ev (fun k => customsref06_Segment.l1 k (b || (x[j].drop i).any (fun c => decide (c.size > 1000))) ((j : Int) + 1) a x) r →
    Ev (fun k => customsref06_Segment.l2 k b (j : Int) (i : Int) a x) r := by
  induction d with
  | zero =>
    intro i b h h1
    refine Ev.step (fun k => by rw [customsref06_Segment.l2]) (ev_pos (by omega) (ev_pos (by omega) ?_))
    rw [rdL1 x j hj, w64 (by omega) (by omega)]
    rw [List.drop_of_length_le (by omega), List.any_nil, Bool.or_false] at h1
    rw [w64 (by omega) (by omega)]
    exact ev_neg (by omega) h1
  | succ d ih =>
    intro i b h h1
    have hi : i < x[j].length := by omega
    refine Ev.step (fun k => by rw [customsref06_Segment.l2]) (ev_pos (by omega) (ev_pos (by omega) ?_))
    rw [List.drop_eq_getElem_cons hi, List.any_cons] at h1
    rw [rdL1 x j hj, rdOf_get _ _ i hi, w64 (by omega) (by omega)]
    refine ev_pos (by omega) (ev_ite2 (fun hb => ?_) (fun hb => ev_pos (by omega) ?_))
    · subst hb
      refine ih (i + 1) true (by omega) ?_
      rw [Bool.true_or] at h1
      rw [Bool.true_or]
      exact h1
    · have hb' : b = false := Bool.not_eq_true _ ▸ hb
      subst hb'
      refine ih (i + 1) _ (by omega) ?_
      rw [Bool.false_or] at h1
      have e : (decide ((x[j][i].size : Int) > 1000)) = decide (x[j][i].size > 1000) := decide_eq_decide.2 (by omega)
      rw [e]
      exact h1
theorem ref_l1 (x : List (List ByteArray)) (a : ByteArray) (hx : x.length ≤ 9223372036854775806) (hm : ∀ e ∈ x, e.length ≤ 9223372036854775806) (d : Nat) : ∀ (i : Nat) (b : Bool), i + d = x.length →
    Ev (fun k => customsref06_Segment.l1 k b (i : Int) a x) (if (b || (x.drop i).any longE) = true then 8 else if endsB x = true then 1 else 0) := by
  induction d with
  | zero =>
    intro i b h
    refine Ev.step (fun k => by rw [customsref06_Segment.l1]) (ev_neg (by omega) ?_)
    rw [List.drop_of_length_le (by omega), List.any_nil, Bool.or_false]
    refine ev_ite2 (fun hb => ?_) (fun hb => ?_)
    · rw [if_pos hb]; exact Ev.now _
    · rw [if_neg hb]
      have := ref_l3 x hx hm a x.length 0 (by omega)
      rw [List.drop_zero] at this
      exact this
  | succ d ih =>
    intro i b h
    have hi : i < x.length := by omega
    have hm' := hm _ (List.getElem_mem hi)
    rw [List.drop_eq_getElem_cons hi, List.any_cons]
    refine Ev.step (fun k => by rw [customsref06_Segment.l1]) (ev_pos (by omega) ?_)
    rw [rdL1 x i hi]
    refine ev_ite2 (fun hb => ?_) (fun hb => ev_pos (by omega) ?_)
    · subst hb
      refine Ev.step (f := fun k => customsref06_Segment.l2 k true (i : Int) ((0 : Nat) : Int) a x) (fun k => by rw [customsref06_Segment.j2]; rfl) (ref_l2 x a i hi hx hm' x[i].length 0 true (by omega) ?_)
      rw [Bool.true_or, Bool.true_or]
      have := ih (i + 1) true (by omega)
      rw [Bool.true_or] at this
      exact this
    · have hb' : b = false := Bool.not_eq_true _ ▸ hb
      subst hb'
      refine Ev.step (f := fun k => customsref06_Segment.l2 k (decide ((x[i].length : Int) > 100)) (i : Int) ((0 : Nat) : Int) a x) (fun k => by rw [customsref06_Segment.j2]; rfl) (ref_l2 x a i hi hx hm' x[i].length 0 _ (by omega) ?_)
      have e : (decide ((x[i].length : Int) > 100)) = decide (x[i].length > 100) := decide_eq_decide.2 (by omega)
      rw [List.drop_zero, e, Bool.false_or]
      exact ih (i + 1) (longE x[i]) (by omega)
theorem ref_step (a : ByteArray) (x : List (List ByteArray)) (i : Nat) (hs : a.size = 3) (hi : i < 3) {r : Int} (h : chOK i (bt a i) = true → Ev (fun k => customsref06_Segment.l0 k ((i : Int) + 1) a x) r) (hf : chOK i (bt a i) = false → r = 1) :
    Ev (fun k => customsref06_Segment.l0 k (i : Int) a x) r := by
  have hb := bt_range a i
  refine Ev.step (fun k => by rw [customsref06_Segment.l0]) (ev_pos (by omega) (ev_pos (by omega) (ev_pos (by omega) ?_)))
  rw [w64 (by omega) (by omega)]
  by_cases hc : chOK i (bt a i) = true
  · have h' := h hc
    have hy := chOK_yes hc
    refine ev_ite2 (fun _ => ev_ite2 (fun _ => ev_ite2 (fun _ => h') (fun _ => ev_pos (by omega) (ev_neg (by omega) h'))) (fun _ => absurd ‹_› (by omega))) (fun _ => ev_ite2 (fun _ => ev_pos (by omega) (ev_neg (by omega) h')) (fun _ => absurd ‹_› (by omega)))
  · have hn := chOK_no (Bool.not_eq_true _ ▸ hc)
    obtain rfl := hf (Bool.not_eq_true _ ▸ hc)
    refine ev_ite2 (fun _ => ev_ite2 (fun _ => ev_neg (by omega) (ev_ite2 (fun _ => ev_pos (by omega) (Ev.now _)) (fun _ => Ev.now _))) (fun _ => ev_neg (by omega) (Ev.now _))) (fun _ => ev_ite2 (fun _ => ev_ite2 (fun _ => ev_pos (by omega) (Ev.now _)) (fun _ => Ev.now _)) (fun _ => Ev.now _))
theorem refSegment_ev (a : ByteArray) (x : List (List ByteArray)) (hx : x.length ≤ 9223372036854775806) (hm : ∀ e ∈ x, e.length ≤ 9223372036854775806) : Ev (fun k => customsref06_Segment.f k a x) (valid a x) := by
  unfold customsref06_Segment.f valid
  by_cases hs : a.size = 3
  · refine ev_pos (by omega) ?_
    unfold tagB
    rw [decide_eq_true hs, Bool.true_and]
    refine ref_step a x 0 hs (by omega) (fun h0 => ?_) (fun h0 => by rw [show chOK 0 (bt a 0) = false from h0, Bool.false_and]; rfl)
    rw [show chOK 0 (bt a 0) = true from h0, Bool.true_and]
    refine ref_step a x 1 hs (by omega) (fun h1 => ?_) (fun h1 => by rw [show chOK 1 (bt a 1) = false from h1, Bool.false_and]; rfl)
    rw [show chOK 1 (bt a 1) = true from h1, Bool.true_and]
    refine ref_step a x 2 hs (by omega) (fun h2 => ?_) (fun h2 => by rw [show chOK 2 (bt a 2) = false from h2]; rfl)
    rw [show chOK 2 (bt a 2) = true from h2, if_pos rfl]
    refine Ev.step (fun k => by rw [customsref06_Segment.l0]) (ev_neg (by omega) ?_)
    have e : (decide ((x.length : Int) > 100)) = decide (x.length > 100) := decide_eq_decide.2 (by omega)
    rw [e]
    exact ref_l1 x a hx hm x.length 0 _ (by omega)
  · refine ev_neg (by omega) ?_
    unfold tagB
    rw [decide_eq_false hs, Bool.false_and]
    exact Ev.now _
end Go.Proofs.Ythdahpnjiighfaa.D
