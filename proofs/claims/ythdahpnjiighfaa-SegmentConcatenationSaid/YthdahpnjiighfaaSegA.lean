/- Layer 6 in plain words: which segments are valid: the program's Validate and the reference's. -/
import Derived.Test.YthdahpnjiighfaaEv
import Derived.Laws.Strings
import Derived.Test.YthdahpnjiighfaaF1 -- segment_tag
import Derived.Test.YthdahpnjiighfaaF2 -- segment_limits
import Derived.Test.YthdahpnjiighfaaF3 -- segment_Validate
import Derived.Test.YthdahpnjiighfaaF4 -- customsref06_Segment
import Derived.Test.YthdahpnjiighfaaF5 -- segment_special
import Derived.Test.YthdahpnjiighfaaF6 -- segment_put
import Derived.Test.YthdahpnjiighfaaF7 -- segment_Encode
import Derived.Test.YthdahpnjiighfaaF15 -- customsref06_special
import Derived.Test.YthdahpnjiighfaaF16 -- customsref06_text
import Derived.Test.YthdahpnjiighfaaF17 -- customsref06_Encode
import Derived.Test.YthdahpnjiighfaaEPlain
import Derived.Test.YthdahpnjiighfaaF7 -- segment_length
import Derived.Test.YthdahpnjiighfaaF8 -- segment_split
import Derived.Test.YthdahpnjiighfaaF9 -- segment_read
import Derived.Test.YthdahpnjiighfaaF10 -- segment_Next
import Derived.Test.YthdahpnjiighfaaF11 -- segment_Decode
import Derived.Test.YthdahpnjiighfaaF11 -- customslaw06_awake
import Derived.Test.YthdahpnjiighfaaF19 -- customsref06_SameSegments
namespace Go.Proofs.Ythdahpnjiighfaa.D
set_option linter.unusedVariables false
set_option linter.unusedSimpArgs false
open Go.RowKit Go.Proofs.YthdahpnjiighfaaW.PrintWords Go.Proofs.YthdahpnjiighfaaW.PrintMore Go.Proofs.Ythdahpnjiighfaa.F
def chOK (i b : Int) : Bool := decide (65 ≤ b ∧ b ≤ 90) || (decide (i ≠ 0) && decide (48 ≤ b ∧ b ≤ 57))
def tagB (a : ByteArray) : Bool := decide (a.size = 3) && (chOK 0 (bt a 0) && (chOK 1 (bt a 1) && chOK 2 (bt a 2)))
def longE (e : List ByteArray) : Bool := decide (e.length > 100) || e.any fun c => decide (c.size > 1000)
def longB (x : List (List ByteArray)) : Bool := decide (x.length > 100) || x.any longE
def badE (e : List ByteArray) : Bool := match e with
  | [] => false
  | _ :: _ => decide ((e.getLastD ByteArray.empty).data.toList = [])
def endsB : List (List ByteArray) → Bool
  | [] => false
  | [e] => decide (e = []) || badE e
  | e :: r => badE e || endsB r
/-- What Validate answers: 0 for a segment that is valid. -/
def valid (t : ByteArray) (x : List (List ByteArray)) : Int := if tagB t = true then (if longB x = true then 8 else if endsB x = true then 1 else 0) else 1
theorem chOK_yes {i b : Int} (h : chOK i b = true) : (65 ≤ b ∧ b ≤ 90) ∨ (i ≠ 0 ∧ 48 ≤ b ∧ b ≤ 57) := by
  unfold chOK at h
  simpa using h
theorem chOK_no {i b : Int} (h : chOK i b = false) : ¬ ((65 ≤ b ∧ b ≤ 90) ∨ (i ≠ 0 ∧ 48 ≤ b ∧ b ≤ 57)) := by
  unfold chOK at h
  intro c
  have : chOK i b = true := by unfold chOK; simpa using c
  unfold chOK at this
  rw [h] at this
  cases this
theorem ev_ite2 {α : Type} {c : Prop} [Decidable c] {f g : Nat → Option α} {r : α} (h : c → Ev f r) (k : ¬ c → Ev g r) : Ev (fun n => if c then f n else g n) r := ev_ite h k
theorem tag_step (a : ByteArray) (i : Nat) (hs : a.size = 3) (hi : i < 3) {r : Bool} (h : chOK i (bt a i) = true → Ev (fun k => segment_tag.l0 k a ((i : Int) + 1)) r) (hf : chOK i (bt a i) = false → r = false) :
    Ev (fun k => segment_tag.l0 k a (i : Int)) r := by
  have hb := bt_range a i
  refine Ev.step (fun k => by rw [segment_tag.l0]) (ev_pos (by omega) (ev_pos (by omega) (ev_pos (by omega) ?_)))
  rw [w64 (by omega) (by omega)]
  by_cases hc : chOK i (bt a i) = true
  · have h' := h hc
    have hy := chOK_yes hc
    refine ev_ite2 (fun _ => ev_ite2 (fun _ => ev_ite2 (fun _ => h') (fun _ => ev_neg (by omega) (ev_pos (by omega) h'))) (fun _ => absurd ‹_› (by omega))) (fun _ => ev_ite2 (fun _ => ev_neg (by omega) (ev_pos (by omega) h')) (fun _ => absurd ‹_› (by omega)))
  · have hn := chOK_no (Bool.not_eq_true _ ▸ hc)
    obtain rfl := hf (Bool.not_eq_true _ ▸ hc)
    refine ev_ite2 (fun _ => ev_ite2 (fun _ => ev_neg (by omega) (ev_ite2 (fun _ => Ev.now _) (fun _ => ev_neg (by omega) (Ev.now _)))) (fun _ => ev_neg (by omega) (ev_ite2 (fun _ => Ev.now _) (fun _ => Ev.now _)))) (fun _ => ev_ite2 (fun _ => ev_ite2 (fun _ => Ev.now _) (fun _ => ev_neg (by omega) (Ev.now _))) (fun _ => ev_ite2 (fun _ => Ev.now _) (fun _ => Ev.now _)))
theorem tag_ev (a : ByteArray) : Ev (fun k => segment_tag.f k a) (tagB a) := by
  unfold segment_tag.f
  by_cases hs : a.size = 3
  · refine ev_pos (by omega) ?_
    unfold tagB
    rw [decide_eq_true hs, Bool.true_and]
    refine tag_step a 0 hs (by omega) (fun h0 => ?_) (fun h0 => by rw [show chOK 0 (bt a 0) = false from h0, Bool.false_and])
    rw [show chOK 0 (bt a 0) = true from h0, Bool.true_and]
    refine tag_step a 1 hs (by omega) (fun h1 => ?_) (fun h1 => by rw [show chOK 1 (bt a 1) = false from h1, Bool.false_and])
    rw [show chOK 1 (bt a 1) = true from h1, Bool.true_and]
    refine tag_step a 2 hs (by omega) (fun h2 => ?_) (fun h2 => h2)
    rw [show chOK 2 (bt a 2) = true from h2]
    exact Ev.step (fun k => by rw [segment_tag.l0]) (ev_neg (by omega) (Ev.now _))
  · refine ev_neg (by omega) ?_
    unfold tagB
    rw [decide_eq_false hs, Bool.false_and]
    exact Ev.now _
theorem rdL1 (xs : List (List ByteArray)) (i : Nat) (h : i < xs.length) : rd_L1 xs (i : Int) = xs[i] := by unfold rd_L1; simp [h]
theorem rdOf_get {α : Type} (z : α) (xs : List α) (i : Nat) (h : i < xs.length) : rdOf z xs (i : Int) = xs[i] := by unfold rdOf; simp [h]
theorem limits_l1 (x : List (List ByteArray)) (n j : Int) (e : List ByteArray) (he : e.length ≤ 9223372036854775807) {r : Bool} (d : Nat) : ∀ i : Nat, i + d = e.length →
    ((e.drop i).any (fun c => decide (c.size > 1000)) = true → r = false) →
    ((e.drop i).any (fun c => decide (c.size > 1000)) = false → Ev (fun k => segment_limits.l0 k x n (wrap64 (j + 1))) r) →
    Ev (fun k => segment_limits.l1 k x n j e (e.length : Int) (i : Int)) r := by
  induction d with
  | zero =>
    intro i h h1 h2
    refine Ev.step (fun k => by rw [segment_limits.l1]) (ev_neg (by omega) (h2 ?_))
    rw [List.drop_of_length_le (by omega), List.any_nil]
  | succ d ih =>
    intro i h h1 h2
    have hi : i < e.length := by omega
    rw [List.drop_eq_getElem_cons hi, List.any_cons] at h1 h2
    refine Ev.step (fun k => by rw [segment_limits.l1]) (ev_pos (by omega) (ev_pos (by omega) (ev_pos (by omega) ?_)))
    rw [rdOf_get _ e i hi, w64 (by omega) (by omega)]
    by_cases hc : e[i].size > 1000
    · refine ev_pos (by omega) ?_
      rw [h1 (by rw [decide_eq_true hc, Bool.true_or])]
      exact Ev.now _
    · refine ev_neg (by omega) (ih (i + 1) (by omega) (fun h => h1 (by rw [h, Bool.or_true])) (fun h => h2 (by rw [h, decide_eq_false hc]; rfl)))
theorem limits_l0 (x : List (List ByteArray)) (hx : x.length ≤ 9223372036854775807) (d : Nat) : ∀ i : Nat, i + d = x.length →
    Ev (fun k => segment_limits.l0 k x (x.length : Int) (i : Int)) (!(x.drop i).any longE) := by
  induction d with
  | zero =>
    intro i h
    refine Ev.step (fun k => by rw [segment_limits.l0]) (ev_neg (by omega) ?_)
    rw [List.drop_of_length_le (by omega), List.any_nil]
    exact Ev.now _
  | succ d ih =>
    intro i h
    have hi : i < x.length := by omega
    rw [List.drop_eq_getElem_cons hi, List.any_cons]
    refine Ev.step (fun k => by rw [segment_limits.l0]) (ev_pos (by omega) (ev_pos (by omega) (ev_pos (by omega) ?_)))
    rw [rdL1 x i hi]
    by_cases hc : x[i].length > 100
    · refine ev_pos (by omega) ?_
      unfold longE
      rw [decide_eq_true hc, Bool.true_or, Bool.true_or]
      exact Ev.now _
    · refine ev_neg (by omega) (limits_l1 x _ i x[i] (by omega) x[i].length 0 (by omega) (fun h => ?_) (fun h => ?_))
      · rw [List.drop_zero] at h
        unfold longE
        rw [h, Bool.or_true, Bool.true_or]; rfl
      · rw [List.drop_zero] at h
        unfold longE
        rw [decide_eq_false hc, h, Bool.false_or, Bool.false_or, w64 (by omega) (by omega)]
        exact ih (i + 1) (by omega)
theorem limits_ev (a : ByteArray) (x : List (List ByteArray)) (hx : x.length ≤ 9223372036854775807) : Ev (fun k => segment_limits.f k a x) (!longB x) := by
  unfold segment_limits.f longB
  by_cases hc : x.length > 100
  · refine ev_pos (by omega) ?_
    rw [decide_eq_true hc, Bool.true_or]
    exact Ev.now _
  · refine ev_neg (by omega) ?_
    rw [decide_eq_false hc, Bool.false_or]
    exact limits_l0 x hx x.length 0 (by omega)
theorem toList_nil (a : ByteArray) : a.toList = ([] : List UInt8) ↔ a.data.toList = [] := by rw [ByteArray.toList_eq]
theorem last_at (e : List ByteArray) (h : 0 < e.length) : rdOf ByteArray.empty e ((e.length : Int) - 1) = e.getLastD ByteArray.empty := by
  unfold rdOf
  rw [show ((e.length : Int) - 1).toNat = e.length - 1 by omega]
  cases e with
  | nil => simp at h
  | cons a l => simp [List.getLastD, List.getD_eq_getElem?_getD, List.getLast_eq_getElem]
theorem endsB_cons {e : List ByteArray} {r : List (List ByteArray)} : endsB (e :: r) = ((decide (e = []) && decide (r = [])) || (badE e || endsB r)) := by
  cases r with
  | nil => simp [endsB]
  | cons a l => simp [endsB]
theorem badE_nil : badE [] = false := rfl
theorem badE_pos {e : List ByteArray} (h : 0 < e.length) : badE e = decide ((e.getLastD ByteArray.empty).data.toList = []) := by
  cases e with
  | nil => simp at h
  | cons a l => rfl
/-- The loop that both versions share, as far as their bodies agree. -/
theorem ends_body {x : List (List ByteArray)} {i : Nat} (hi : i < x.length) (hx : x.length ≤ 9223372036854775807) (hm : x[i].length ≤ 9223372036854775807) {g : Nat → Option Int} {r : Int}
    (h1 : badE x[i] = true → r = 1) (h2 : x[i] = [] → i + 1 = x.length → r = 1) (h3 : badE x[i] = false → ¬ (x[i] = [] ∧ i + 1 = x.length) → Ev g r) :
    Ev (fun k => if ((rd_L1 x i).length : Int) = 0 then (if (i : Int) = (wrap64 ((x.length : Int) - 1)) then (some 1) else (if ((rd_L1 x i).length : Int) > 0 then (if 0 ≤ (wrap64 (((rd_L1 x i).length : Int) - 1)) then (if (wrap64 (((rd_L1 x i).length : Int) - 1)) < ((rd_L1 x i).length : Int) then (if (rdOf ByteArray.empty (rd_L1 x i) (wrap64 (((rd_L1 x i).length : Int) - 1))).toList = ([] : List UInt8) then (some 1) else (g k)) else (none)) else (none)) else (g k))) else (if ((rd_L1 x i).length : Int) > 0 then (if 0 ≤ (wrap64 (((rd_L1 x i).length : Int) - 1)) then (if (wrap64 (((rd_L1 x i).length : Int) - 1)) < ((rd_L1 x i).length : Int) then (if (rdOf ByteArray.empty (rd_L1 x i) (wrap64 (((rd_L1 x i).length : Int) - 1))).toList = ([] : List UInt8) then (some 1) else (g k)) else (none)) else (none)) else (g k))) r := by
  rw [rdL1 x i hi]
  by_cases he : x[i].length = 0
  · refine ev_pos (by omega) ?_
    rw [w64 (by omega) (by omega)]
    have hnil : x[i] = [] := List.eq_nil_of_length_eq_zero he
    by_cases hl : i + 1 = x.length
    · refine ev_pos (by omega) ?_
      rw [h2 hnil hl]; exact Ev.now _
    · exact ev_neg (by omega) (ev_neg (by omega) (h3 (by rw [hnil]; rfl) (fun h => hl h.2)))
  · refine ev_neg (by omega) (ev_pos (by omega) ?_)
    rw [w64 (by omega) (by omega), last_at _ (by omega)]
    refine ev_pos (by omega) (ev_pos (by omega) ?_)
    have hb := badE_pos (e := x[i]) (by omega)
    by_cases hc : (x[i].getLastD ByteArray.empty).data.toList = []
    · refine ev_pos ((toList_nil _).2 hc) ?_
      rw [h1 (by rw [hb, decide_eq_true hc])]; exact Ev.now _
    · exact ev_neg (fun h => hc ((toList_nil _).1 h)) (h3 (by rw [hb, decide_eq_false hc]) (fun h => he (by rw [h.1]; rfl)))
theorem ends_r {x : List (List ByteArray)} {i : Nat} (hi : i < x.length) :
    (badE x[i] = true → (if endsB (x.drop i) = true then (1 : Int) else 0) = 1) ∧ (x[i] = [] → i + 1 = x.length → (if endsB (x.drop i) = true then (1 : Int) else 0) = 1) ∧
    (badE x[i] = false → ¬ (x[i] = [] ∧ i + 1 = x.length) → endsB (x.drop i) = endsB (x.drop (i + 1))) := by
  rw [List.drop_eq_getElem_cons hi, endsB_cons]
  refine ⟨fun h => by rw [h]; simp, fun h h2 => ?_, fun h h2 => ?_⟩
  · rw [List.drop_of_length_le (show x.length ≤ i + 1 by omega), h]; simp
  · rw [h, Bool.false_or]
    by_cases he : x[i] = []
    · have hd : x.drop (i + 1) ≠ [] := by
        intro c
        have := congrArg List.length c
        rw [List.length_drop, List.length_nil] at this
        exact h2 ⟨he, by omega⟩
      rw [decide_eq_false hd, Bool.and_false, Bool.false_or]
    · rw [decide_eq_false he, Bool.false_and, Bool.false_or]
theorem validate_l (x : List (List ByteArray)) (hx : x.length ≤ 9223372036854775807) (hm : ∀ e ∈ x, e.length ≤ 9223372036854775807) (a : ByteArray) (d : Nat) : ∀ i : Nat, i + d = x.length →
    Ev (fun k => segment_Validate.l0 k x (x.length : Int) (i : Int) a x) (if endsB (x.drop i) = true then 1 else 0) := by
  induction d with
  | zero =>
    intro i h
    refine Ev.step (fun k => by rw [segment_Validate.l0]) (ev_neg (by omega) ?_)
    rw [List.drop_of_length_le (by omega), show endsB [] = false from rfl]
    exact Ev.now _
  | succ d ih =>
    intro i h
    have hi : i < x.length := by omega
    refine Ev.step (fun k => by rw [segment_Validate.l0]) (ev_pos (by omega) (ev_pos (by omega) (ev_pos (by omega) ?_)))
    obtain ⟨h1, h2, h3⟩ := ends_r hi
    refine ends_body hi hx (hm _ (List.getElem_mem hi)) h1 h2 (fun a1 a2 => ?_)
    rw [h3 a1 a2, w64 (by omega) (by omega)]
    exact ih (i + 1) (by omega)
theorem validate_ev (a : ByteArray) (x : List (List ByteArray)) (hx : x.length ≤ 9223372036854775807) (hm : ∀ e ∈ x, e.length ≤ 9223372036854775807) : Ev (fun k => segment_Validate.f k a x) (valid a x) := by
  unfold segment_Validate.f valid
  refine ev_bind (tag_ev a) ?_
  cases ht : tagB a with
  | false => exact ev_neg (by simp) (by rw [if_neg (by simp)]; exact Ev.now _)
  | true =>
    refine ev_pos rfl ?_
    rw [if_pos rfl]
    refine ev_bind (limits_ev a x hx) ?_
    cases hl : longB x with
    | true => exact ev_neg (by simp) (by rw [if_pos rfl]; exact Ev.now _)
    | false =>
      refine ev_pos rfl ?_
      rw [if_neg (by simp)]
      exact validate_l x hx hm a x.length 0 (by omega)
theorem ref_l3 (x : List (List ByteArray)) (hx : x.length ≤ 9223372036854775807) (hm : ∀ e ∈ x, e.length ≤ 9223372036854775807) (a : ByteArray) (d : Nat) : ∀ i : Nat, i + d = x.length →
    Ev (fun k => customsref06_Segment.l3 k (i : Int) a x) (if endsB (x.drop i) = true then 1 else 0) := by
  induction d with
  | zero =>
    intro i h
    refine Ev.step (fun k => by rw [customsref06_Segment.l3]) (ev_neg (by omega) ?_)
    rw [List.drop_of_length_le (by omega), show endsB [] = false from rfl]
    exact Ev.now _
  | succ d ih =>
    intro i h
    have hi : i < x.length := by omega
    refine Ev.step (fun k => by rw [customsref06_Segment.l3]) (ev_pos (by omega) (ev_pos (by omega) ?_))
    obtain ⟨h1, h2, h3⟩ := ends_r hi
    refine ends_body hi hx (hm _ (List.getElem_mem hi)) h1 h2 (fun a1 a2 => ?_)
    rw [h3 a1 a2, w64 (by omega) (by omega)]
    exact ih (i + 1) (by omega)
theorem ref_l2 (x : List (List ByteArray)) (a : ByteArray) (j : Nat) (hj : j < x.length) (hx : x.length ≤ 9223372036854775807) (he : x[j].length ≤ 9223372036854775807) {r : Int} (d : Nat) : ∀ (i : Nat) (b : Bool), i + d = x[j].length →
    Ev (fun k => customsref06_Segment.l1 k (b || (x[j].drop i).any (fun c => decide (c.size > 1000))) ((j : Int) + 1) a x) r →
    Ev (fun k => customsref06_Segment.l2 k b (j : Int) (i : Int) a x) r := by
  induction d with
  | zero =>
    intro i b h h1
    refine Ev.step (fun k => by rw [customsref06_Segment.l2]) (ev_pos (by omega) (ev_pos (by omega) ?_))
    rw [rdL1 x j hj, w64 (x := (j : Int) + 1) (by omega) (by omega)]
    rw [List.drop_of_length_le (by omega), List.any_nil, Bool.or_false] at h1
    exact ev_neg (by omega) h1
  | succ d ih =>
    intro i b h h1
    have hi : i < x[j].length := by omega
    refine Ev.step (fun k => by rw [customsref06_Segment.l2]) (ev_pos (by omega) (ev_pos (by omega) ?_))
    rw [List.drop_eq_getElem_cons hi, List.any_cons] at h1
    rw [rdL1 x j hj, rdOf_get _ _ i hi, w64 (by omega) (by omega)]
    refine ev_pos (by omega) (ev_ite2 (fun hb => ?_) (fun hb => ev_pos (by omega) ?_))
    · subst hb
      refine ih (i + 1) true (by omega) ?_
      rw [Bool.true_or] at h1
      rw [Bool.true_or]
      exact h1
    · have hb' : b = false := Bool.not_eq_true _ ▸ hb
      subst hb'
      refine ih (i + 1) _ (by omega) ?_
      rw [Bool.false_or] at h1
      have e : (decide ((x[j][i].size : Int) > 1000)) = decide (x[j][i].size > 1000) := decide_eq_decide.2 (by omega)
      rw [e]
      exact h1
theorem ref_l1 (x : List (List ByteArray)) (a : ByteArray) (hx : x.length ≤ 9223372036854775807) (hm : ∀ e ∈ x, e.length ≤ 9223372036854775807) (d : Nat) : ∀ (i : Nat) (b : Bool), i + d = x.length →
    Ev (fun k => customsref06_Segment.l1 k b (i : Int) a x) (if (b || (x.drop i).any longE) = true then 8 else if endsB x = true then 1 else 0) := by
  induction d with
  | zero =>
    intro i b h
    refine Ev.step (fun k => by rw [customsref06_Segment.l1]) (ev_neg (by omega) ?_)
    rw [List.drop_of_length_le (by omega), List.any_nil, Bool.or_false]
    refine ev_ite2 (fun hb => ?_) (fun hb => ?_)
    · rw [if_pos hb]; exact Ev.now _
    · rw [if_neg hb]
      have := ref_l3 x hx hm a x.length 0 (by omega)
      rw [List.drop_zero] at this
      exact this
  | succ d ih =>
    intro i b h
    have hi : i < x.length := by omega
    have hm' := hm _ (List.getElem_mem hi)
    rw [List.drop_eq_getElem_cons hi, List.any_cons]
    refine Ev.step (fun k => by rw [customsref06_Segment.l1]) (ev_pos (by omega) ?_)
    rw [rdL1 x i hi]
    refine ev_ite2 (fun hb => ?_) (fun hb => ev_pos (by omega) ?_)
    · subst hb
      refine Ev.step (f := fun k => customsref06_Segment.l2 k true (i : Int) ((0 : Nat) : Int) a x) (fun k => by rw [customsref06_Segment.j2]; rfl) (ref_l2 x a i hi hx hm' x[i].length 0 true (by omega) ?_)
      rw [Bool.true_or, Bool.true_or]
      have := ih (i + 1) true (by omega)
      rw [Bool.true_or] at this
      exact this
    · have hb' : b = false := Bool.not_eq_true _ ▸ hb
      subst hb'
      refine Ev.step (f := fun k => customsref06_Segment.l2 k (decide ((x[i].length : Int) > 100)) (i : Int) ((0 : Nat) : Int) a x) (fun k => by rw [customsref06_Segment.j2]; rfl) (ref_l2 x a i hi hx hm' x[i].length 0 _ (by omega) ?_)
      have e : (decide ((x[i].length : Int) > 100)) = decide (x[i].length > 100) := decide_eq_decide.2 (by omega)
      rw [List.drop_zero, e, Bool.false_or]
      exact ih (i + 1) (longE x[i]) (by omega)
theorem ref_step (a : ByteArray) (x : List (List ByteArray)) (i : Nat) (hs : a.size = 3) (hi : i < 3) {r : Int} (h : chOK i (bt a i) = true → Ev (fun k => customsref06_Segment.l0 k ((i : Int) + 1) a x) r) (hf : chOK i (bt a i) = false → r = 1) :
    Ev (fun k => customsref06_Segment.l0 k (i : Int) a x) r := by
  have hb := bt_range a i
  refine Ev.step (fun k => by rw [customsref06_Segment.l0]) (ev_pos (by omega) (ev_pos (by omega) (ev_pos (by omega) ?_)))
  rw [w64 (by omega) (by omega)]
  by_cases hc : chOK i (bt a i) = true
  · have h' := h hc
    have hy := chOK_yes hc
    refine ev_ite2 (fun _ => ev_ite2 (fun _ => ev_ite2 (fun _ => h') (fun _ => ev_pos (by omega) (ev_neg (by omega) h'))) (fun _ => absurd ‹_› (by omega))) (fun _ => ev_ite2 (fun _ => ev_pos (by omega) (ev_neg (by omega) h')) (fun _ => absurd ‹_› (by omega)))
  · have hn := chOK_no (Bool.not_eq_true _ ▸ hc)
    obtain rfl := hf (Bool.not_eq_true _ ▸ hc)
    refine ev_ite2 (fun _ => ev_ite2 (fun _ => ev_neg (by omega) (ev_ite2 (fun _ => ev_pos (by omega) (Ev.now _)) (fun _ => Ev.now _))) (fun _ => ev_neg (by omega) (Ev.now _))) (fun _ => ev_ite2 (fun _ => ev_ite2 (fun _ => ev_pos (by omega) (Ev.now _)) (fun _ => Ev.now _)) (fun _ => Ev.now _))
theorem refSegment_ev (a : ByteArray) (x : List (List ByteArray)) (hx : x.length ≤ 9223372036854775807) (hm : ∀ e ∈ x, e.length ≤ 9223372036854775807) : Ev (fun k => customsref06_Segment.f k a x) (valid a x) := by
  unfold customsref06_Segment.f valid
  by_cases hs : a.size = 3
  · refine ev_pos (by omega) ?_
    unfold tagB
    rw [decide_eq_true hs, Bool.true_and]
    refine ref_step a x 0 hs (by omega) (fun h0 => ?_) (fun h0 => by rw [show chOK 0 (bt a 0) = false from h0, Bool.false_and]; rfl)
    rw [show chOK 0 (bt a 0) = true from h0, Bool.true_and]
    refine ref_step a x 1 hs (by omega) (fun h1 => ?_) (fun h1 => by rw [show chOK 1 (bt a 1) = false from h1, Bool.false_and]; rfl)
    rw [show chOK 1 (bt a 1) = true from h1, Bool.true_and]
    refine ref_step a x 2 hs (by omega) (fun h2 => ?_) (fun h2 => by rw [show chOK 2 (bt a 2) = false from h2]; rfl)
    rw [show chOK 2 (bt a 2) = true from h2, if_pos rfl]
    refine Ev.step (fun k => by rw [customsref06_Segment.l0]) (ev_neg (by omega) ?_)
    have e : (decide ((x.length : Int) > 100)) = decide (x.length > 100) := decide_eq_decide.2 (by omega)
    rw [e]
    exact ref_l1 x a hx hm x.length 0 _ (by omega)
  · refine ev_neg (by omega) ?_
    unfold tagB
    rw [decide_eq_false hs, Bool.false_and]
    exact Ev.now _
end Go.Proofs.Ythdahpnjiighfaa.D
namespace Go.Proofs.Ythdahpnjiighfaa.D
set_option linter.unusedVariables false
set_option linter.unusedSimpArgs false
open Go.RowKit Go.Proofs.YthdahpnjiighfaaW.PrintWords Go.Proofs.YthdahpnjiighfaaW.PrintMore Go.Proofs.Ythdahpnjiighfaa.F
def sp (b : Int) : Bool := decide (b = 43 ∨ b = 58 ∨ b = 63 ∨ b = 39)
def esc1 (b : Int) : List Int := if sp b = true then [63, b] else [b]
def escI (l : List Int) : List Int := l.flatMap esc1
def escC (c : ByteArray) : List Int := escI (bytesOf c)
def tailE (es : List ByteArray) : List Int := es.flatMap fun c => 58 :: escC c
def joinE : List ByteArray → List Int
  | [] => []
  | c :: r => escC c ++ tailE r
def bodyS (x : List (List ByteArray)) : List Int := x.flatMap fun e => 43 :: joinE e
/-- The encoding of a segment. -/
def enc (t : ByteArray) (x : List (List ByteArray)) : List Int := bytesOf t ++ (bodyS x ++ [39])
theorem special_eq (b : Int) : segment_special.f b = some (sp b) := by
  unfold segment_special.f sp
  by_cases h1 : b = 43
  · rw [if_pos h1, decide_eq_true (Or.inl h1)]
  · rw [if_neg h1]
    by_cases h2 : b = 58
    · rw [if_pos h2, decide_eq_true (Or.inr (Or.inl h2))]
    · rw [if_neg h2]
      by_cases h3 : b = 63
      · rw [if_pos h3, decide_eq_true (Or.inr (Or.inr (Or.inl h3)))]
      · rw [if_neg h3]
        congr 1
        show decide (b = 39) = _
        exact decide_eq_decide.2 (by omega)
theorem refSpecial_eq (b : Int) : customsref06_special.f b = some (sp b) := special_eq b
/-- What is left to write of an element from its i-th component on. -/
def remE (e : List ByteArray) (i : Nat) : List Int := if i = 0 then joinE e else tailE (e.drop i)
theorem remE_end (e : List ByteArray) (i : Nat) (h : i = e.length) : remE e i = [] := by
  unfold remE
  split
  · cases e with
    | nil => rfl
    | cons a l => simp at h; omega
  · rw [List.drop_of_length_le (by omega)]; rfl
theorem remE_step (e : List ByteArray) (i : Nat) (h : i < e.length) : remE e i = (if i = 0 then [] else [58]) ++ (escC e[i] ++ remE e (i + 1)) := by
  unfold remE
  rw [if_neg (show ¬ i + 1 = 0 by omega)]
  by_cases h0 : i = 0
  · subst h0
    rw [if_pos rfl, if_pos rfl]
    cases e with
    | nil => simp at h
    | cons a l => simp [joinE]
  · rw [if_neg h0, if_neg h0]
    unfold tailE
    rw [List.drop_eq_getElem_cons h, List.flatMap_cons]
    rfl
theorem bytesOf_get (c : ByteArray) (i : Nat) (h : i < (bytesOf c).length) : (bytesOf c)[i] = bt c (i : Int) := by
  rw [← rd_bytesOf]
  unfold rd; simp [h]
theorem escI_step (c : ByteArray) (i : Nat) (h : i < c.size) : escI ((bytesOf c).drop i) = esc1 (bt c (i : Int)) ++ escI ((bytesOf c).drop (i + 1)) := by
  have h' : i < (bytesOf c).length := by rw [bytesOf_length]; exact h
  rw [List.drop_eq_getElem_cons h', bytesOf_get c i h']
  rfl
theorem escI_end (c : ByteArray) (i : Nat) (h : i = c.size) : escI ((bytesOf c).drop i) = [] := by
  rw [List.drop_of_length_le (by rw [bytesOf_length]; omega)]; rfl
theorem put_l2 (c : ByteArray) (hc : c.size ≤ 9223372036854775807) (x : List (List ByteArray)) (n j : Int) (e : List ByteArray) (m : Int) (i0 : Int) {r : List Int} (d : Nat) : ∀ (i : Nat) (b : List Int), i + d = c.size →
    b.length + (escI ((bytesOf c).drop i)).length < 140737488355328 →
    Ev (fun k => segment_put.l1 k (b ++ escI ((bytesOf c).drop i)) x n j e m (wrap64 (i0 + 1))) r →
    Ev (fun k => segment_put.l2 k b c x n j e m i0 (c.size : Int) (i : Int)) r := by
  induction d with
  | zero =>
    intro i b h hs h1
    rw [escI_end c i (by omega), List.append_nil] at h1
    exact Ev.step (fun k => by rw [segment_put.l2]) (ev_neg (by omega) h1)
  | succ d ih =>
    intro i b h hs h1
    have hi : i < c.size := by omega
    rw [escI_step c i hi] at h1 hs
    rw [List.length_append] at hs
    refine Ev.step (fun k => by rw [segment_put.l2]) (ev_pos (by omega) (ev_pos (by omega) (ev_pos (by omega) ?_)))
    rw [special_eq]
    refine ev_let ?_
    unfold esc1 at h1 hs
    cases hp : sp (bt c i) with
    | true =>
      rw [hp, if_pos rfl] at h1 hs
      simp only [List.length_cons, List.length_nil] at hs
      refine ev_pos rfl (ev_pos (by omega) (ev_let (ev_pos (by rw [List.length_append, List.length_cons, List.length_nil]; omega) ?_)))
      rw [w64 (by omega) (by omega)]
      refine ih (i + 1) _ (by omega) (by simp only [List.length_append, List.length_cons, List.length_nil]; omega) ?_
      have e1 : b ++ [63] ++ [bt c i] ++ escI ((bytesOf c).drop (i + 1)) = b ++ ([63, bt c i] ++ escI ((bytesOf c).drop (i + 1))) := by simp
      rw [e1]; exact h1
    | false =>
      rw [hp, if_neg (by simp)] at h1 hs
      simp only [List.length_cons, List.length_nil] at hs
      refine ev_neg (by simp) (ev_pos (by omega) ?_)
      rw [w64 (by omega) (by omega)]
      refine ih (i + 1) _ (by omega) (by simp only [List.length_append, List.length_cons, List.length_nil]; omega) ?_
      rw [List.append_assoc]; exact h1
theorem put_l1 (x : List (List ByteArray)) (n : Int) (j : Int) (e : List ByteArray) (he : e.length ≤ 9223372036854775807) (hm : ∀ c ∈ e, c.size ≤ 9223372036854775807) {r : List Int} (d : Nat) : ∀ (i : Nat) (b : List Int), i + d = e.length →
    b.length + (remE e i).length < 140737488355328 →
    Ev (fun k => segment_put.l0 k (b ++ remE e i) x n (wrap64 (j + 1))) r →
    Ev (fun k => segment_put.l1 k b x n j e (e.length : Int) (i : Int)) r := by
  induction d with
  | zero =>
    intro i b h hs h1
    rw [remE_end e i (by omega), List.append_nil] at h1
    exact Ev.step (fun k => by rw [segment_put.l1]) (ev_neg (by omega) h1)
  | succ d ih =>
    intro i b h hs h1
    have hi : i < e.length := by omega
    have hci := hm _ (List.getElem_mem hi)
    rw [remE_step e i hi] at h1 hs
    simp only [List.length_append] at hs
    refine Ev.step (fun k => by rw [segment_put.l1]) (ev_pos (by omega) (ev_pos (by omega) (ev_pos (by omega) ?_)))
    rw [rdOf_get _ e i hi]
    by_cases h0 : i = 0
    · rw [if_pos h0] at h1 hs
      refine ev_neg (by omega) (Ev.step (f := fun k => segment_put.l2 k b e[i] x n j e (e.length : Int) (i : Int) (e[i].size : Int) ((0 : Nat) : Int)) (fun k => by rw [segment_put.j2]; rfl) ?_)
      refine put_l2 e[i] hci x n j e _ i e[i].size 0 b (by omega) (by rw [List.drop_zero]; unfold escC at hs; omega) ?_
      rw [List.drop_zero, w64 (by omega) (by omega)]
      refine ih (i + 1) _ (by omega) (by unfold escC at hs; rw [List.length_append]; omega) ?_
      rw [List.append_assoc]; exact h1
    · rw [if_neg h0] at h1 hs
      simp only [List.length_cons, List.length_nil] at hs
      refine ev_pos (by omega) (ev_pos (by omega) (Ev.step (f := fun k => segment_put.l2 k (b ++ [58]) e[i] x n j e (e.length : Int) (i : Int) (e[i].size : Int) ((0 : Nat) : Int)) (fun k => by rw [segment_put.j2]; rfl) ?_))
      refine put_l2 e[i] hci x n j e _ i e[i].size 0 _ (by omega) (by rw [List.drop_zero]; unfold escC at hs; simp only [List.length_append, List.length_cons, List.length_nil]; omega) ?_
      rw [List.drop_zero, w64 (by omega) (by omega)]
      refine ih (i + 1) _ (by omega) (by unfold escC at hs; simp only [List.length_append, List.length_cons, List.length_nil]; omega) ?_
      have e1 : b ++ [58] ++ escI (bytesOf e[i]) ++ remE e (i + 1) = b ++ ([58] ++ (escC e[i] ++ remE e (i + 1))) := by unfold escC; simp
      rw [e1]; exact h1
theorem bodyS_step (x : List (List ByteArray)) (i : Nat) (h : i < x.length) : bodyS (x.drop i) = [43] ++ (remE x[i] 0 ++ bodyS (x.drop (i + 1))) := by
  unfold bodyS
  rw [List.drop_eq_getElem_cons h, List.flatMap_cons]
  rfl
theorem bodyS_end (x : List (List ByteArray)) (i : Nat) (h : i = x.length) : bodyS (x.drop i) = [] := by rw [List.drop_of_length_le (by omega)]; rfl
/-- Lengths that a slice in memory keeps. -/
def fits (x : List (List ByteArray)) : Prop := x.length ≤ 9223372036854775807 ∧ (∀ e ∈ x, e.length ≤ 9223372036854775807) ∧ ∀ e ∈ x, ∀ c ∈ e, c.size ≤ 9223372036854775807
theorem put_l0 (x : List (List ByteArray)) (hf : fits x) (d : Nat) : ∀ (i : Nat) (b : List Int), i + d = x.length → b.length + (bodyS (x.drop i)).length < 140737488355328 →
    Ev (fun k => segment_put.l0 k b x (x.length : Int) (i : Int)) (b ++ (bodyS (x.drop i) ++ [39])) := by
  induction d with
  | zero =>
    intro i b h hs
    rw [bodyS_end x i (by omega), List.nil_append]
    exact Ev.step (fun k => by rw [segment_put.l0]) (ev_neg (by omega) (ev_pos (by omega) (Ev.now _)))
  | succ d ih =>
    intro i b h hs
    have hi : i < x.length := by omega
    have hx := hf.1
    have hei := hf.2.1 _ (List.getElem_mem hi)
    have hci := hf.2.2 _ (List.getElem_mem hi)
    rw [bodyS_step x i hi] at hs ⊢
    simp only [List.length_append, List.length_cons, List.length_nil] at hs
    refine Ev.step (fun k => by rw [segment_put.l0]) (ev_pos (by omega) (ev_pos (by omega) (ev_pos (by omega) (ev_pos (by omega) ?_))))
    rw [rdL1 x i hi]
    refine put_l1 x _ i x[i] hei hci x[i].length 0 _ (by omega) (by simp only [List.length_append, List.length_cons, List.length_nil]; omega) ?_
    rw [w64 (by omega) (by omega)]
    refine ev_eq (ih (i + 1) _ (by omega) (by simp only [List.length_append, List.length_cons, List.length_nil]; omega)) (by simp)
theorem put_ev (b : List Int) (t : ByteArray) (x : List (List ByteArray)) (hf : fits x) (hs : b.length + (enc t x).length < 140737488355328) : Ev (fun k => segment_put.f k b t x) (b ++ enc t x) := by
  unfold segment_put.f
  unfold enc at hs ⊢
  simp only [List.length_append, List.length_cons, List.length_nil, bytesOf_length] at hs
  refine ev_pos (by omega) ?_
  have := put_l0 x hf x.length 0 (b ++ bytesOf t) (by omega) (by rw [List.drop_zero]; simp only [List.length_append, bytesOf_length]; omega)
  rw [List.drop_zero] at this
  exact ev_eq this (by simp)
theorem text_l2 (c : ByteArray) (hc : c.size ≤ 9223372036854775807) (t : ByteArray) (x : List (List ByteArray)) (j i0 : Int) {r : ByteArray} (d : Nat) : ∀ (i : Nat) (b : List Int), i + d = c.size →
    b.length + (escI ((bytesOf c).drop i)).length < 140737488355328 →
    Ev (fun k => customsref06_text.l1 k (b ++ escI ((bytesOf c).drop i)) j (wrap64 (i0 + 1)) t x) r →
    Ev (fun k => customsref06_text.l2 k b j i0 c (i : Int) t x) r := by
  induction d with
  | zero =>
    intro i b h hs h1
    rw [escI_end c i (by omega), List.append_nil] at h1
    exact Ev.step (fun k => by rw [customsref06_text.l2]) (ev_neg (by omega) h1)
  | succ d ih =>
    intro i b h hs h1
    have hi : i < c.size := by omega
    rw [escI_step c i hi] at h1 hs
    rw [List.length_append] at hs
    refine Ev.step (fun k => by rw [customsref06_text.l2]) (ev_pos (by omega) (ev_pos (by omega) ?_))
    rw [refSpecial_eq]
    refine ev_let ?_
    unfold esc1 at h1 hs
    cases hp : sp (bt c i) with
    | true =>
      rw [hp, if_pos rfl] at h1 hs
      simp only [List.length_cons, List.length_nil] at hs
      refine ev_pos rfl (ev_pos (by omega) (ev_let (ev_pos (by rw [List.length_append, List.length_cons, List.length_nil]; omega) ?_)))
      rw [w64 (by omega) (by omega)]
      refine ih (i + 1) _ (by omega) (by simp only [List.length_append, List.length_cons, List.length_nil]; omega) ?_
      have e1 : b ++ [63] ++ [bt c i] ++ escI ((bytesOf c).drop (i + 1)) = b ++ ([63, bt c i] ++ escI ((bytesOf c).drop (i + 1))) := by simp
      rw [e1]; exact h1
    | false =>
      rw [hp, if_neg (by simp)] at h1 hs
      simp only [List.length_cons, List.length_nil] at hs
      refine ev_neg (by simp) (ev_pos (by omega) ?_)
      rw [w64 (by omega) (by omega)]
      refine ih (i + 1) _ (by omega) (by simp only [List.length_append, List.length_cons, List.length_nil]; omega) ?_
      rw [List.append_assoc]; exact h1
theorem text_l1 (t : ByteArray) (x : List (List ByteArray)) (j : Nat) (hj : j < x.length) (he : x[j].length ≤ 9223372036854775807) (hm : ∀ c ∈ x[j], c.size ≤ 9223372036854775807) {r : ByteArray} (d : Nat) : ∀ (i : Nat) (b : List Int), i + d = x[j].length →
    b.length + (remE x[j] i).length < 140737488355328 →
    Ev (fun k => customsref06_text.l0 k (b ++ remE x[j] i) (wrap64 ((j : Int) + 1)) t x) r →
    Ev (fun k => customsref06_text.l1 k b (j : Int) (i : Int) t x) r := by
  induction d with
  | zero =>
    intro i b h hs h1
    rw [remE_end x[j] i (by omega), List.append_nil] at h1
    refine Ev.step (fun k => by rw [customsref06_text.l1]) (ev_pos (by omega) (ev_pos (by omega) ?_))
    rw [rdL1 x j hj]
    exact ev_neg (by omega) h1
  | succ d ih =>
    intro i b h hs h1
    have hi : i < x[j].length := by omega
    have hci := hm _ (List.getElem_mem hi)
    rw [remE_step x[j] i hi] at h1 hs
    simp only [List.length_append] at hs
    refine Ev.step (fun k => by rw [customsref06_text.l1]) (ev_pos (by omega) (ev_pos (by omega) ?_))
    have hj2 : ∀ b : List Int, Ev (fun k => customsref06_text.l2 k b (j : Int) (i : Int) x[j][i] ((0 : Nat) : Int) t x) r → Ev (fun k => customsref06_text.j2 k b (j : Int) (i : Int) t x) r := fun b hb => by
      refine Ev.step (fun k => by rw [customsref06_text.j2]) (ev_pos (by omega) (ev_pos (by omega) (ev_pos (by omega) ?_)))
      rw [rdL1 x j hj, rdOf_get _ _ i hi]
      exact ev_pos (by omega) hb
    rw [rdL1 x j hj]
    by_cases h0 : i = 0
    · rw [if_pos h0] at h1 hs
      refine ev_pos (by omega) (ev_neg (by omega) (hj2 b ?_))
      refine text_l2 x[j][i] hci t x j i x[j][i].size 0 b (by omega) (by rw [List.drop_zero]; unfold escC at hs; omega) ?_
      rw [List.drop_zero, w64 (by omega) (by omega)]
      refine ih (i + 1) _ (by omega) (by unfold escC at hs; rw [List.length_append]; omega) ?_
      rw [List.append_assoc]; exact h1
    · rw [if_neg h0] at h1 hs
      simp only [List.length_cons, List.length_nil] at hs
      refine ev_pos (by omega) (ev_pos (by omega) (ev_pos (by omega) (hj2 _ ?_)))
      refine text_l2 x[j][i] hci t x j i x[j][i].size 0 _ (by omega) (by rw [List.drop_zero]; unfold escC at hs; simp only [List.length_append, List.length_cons, List.length_nil]; omega) ?_
      rw [List.drop_zero, w64 (by omega) (by omega)]
      refine ih (i + 1) _ (by omega) (by unfold escC at hs; simp only [List.length_append, List.length_cons, List.length_nil]; omega) ?_
      have e1 : b ++ [58] ++ escI (bytesOf x[j][i]) ++ remE x[j] (i + 1) = b ++ ([58] ++ (escC x[j][i] ++ remE x[j] (i + 1))) := by unfold escC; simp
      rw [e1]; exact h1
theorem text_l0 (t : ByteArray) (x : List (List ByteArray)) (hf : fits x) (d : Nat) : ∀ (i : Nat) (b : List Int), i + d = x.length → b.length + (bodyS (x.drop i)).length < 140737488355328 →
    Ev (fun k => customsref06_text.l0 k b (i : Int) t x) (strOfNums (b ++ (bodyS (x.drop i) ++ [39]))) := by
  induction d with
  | zero =>
    intro i b h hs
    rw [bodyS_end x i (by omega), List.nil_append]
    exact Ev.step (fun k => by rw [customsref06_text.l0]) (ev_neg (by omega) (ev_pos (by omega) (Ev.now _)))
  | succ d ih =>
    intro i b h hs
    have hi : i < x.length := by omega
    have hx := hf.1
    have hei := hf.2.1 _ (List.getElem_mem hi)
    have hci := hf.2.2 _ (List.getElem_mem hi)
    rw [bodyS_step x i hi] at hs ⊢
    simp only [List.length_append, List.length_cons, List.length_nil] at hs
    refine Ev.step (fun k => by rw [customsref06_text.l0]) (ev_pos (by omega) (ev_pos (by omega) ?_))
    refine text_l1 t x i hi hei hci x[i].length 0 _ (by omega) (by simp only [List.length_append, List.length_cons, List.length_nil]; omega) ?_
    rw [w64 (by omega) (by omega)]
    refine ev_eq (ih (i + 1) _ (by omega) (by simp only [List.length_append, List.length_cons, List.length_nil]; omega)) (by simp)
theorem text_ev (t : ByteArray) (x : List (List ByteArray)) (hf : fits x) (hs : (enc t x).length < 140737488355328) : Ev (fun k => customsref06_text.f k t x) (strOfNums (enc t x)) := by
  unfold customsref06_text.f
  unfold enc at hs ⊢
  simp only [List.length_append, List.length_cons, List.length_nil, bytesOf_length] at hs
  refine ev_pos (by omega) ?_
  have := text_l0 t x hf x.length 0 (bytesOf t) (by omega) (by rw [List.drop_zero]; simp only [bytesOf_length]; omega)
  rw [List.drop_zero] at this
  exact this
/- Bytes. -/
def isB (l : List Int) : Prop := ∀ b ∈ l, 0 ≤ b ∧ b ≤ 255
theorem isB_append {l m : List Int} (h : isB l) (k : isB m) : isB (l ++ m) := fun b hb => by rcases List.mem_append.1 hb with h1 | h1; exact h b h1; exact k b h1
theorem isB_bytes (c : ByteArray) : isB (bytesOf c) := fun b hb => by
  unfold bytesOf at hb
  obtain ⟨u, _, rfl⟩ := List.mem_map.1 hb
  have := u.toNat_lt
  omega
theorem isB_escI {l : List Int} (h : isB l) : isB (escI l) := fun b hb => by
  unfold escI at hb
  obtain ⟨u, hu, hb⟩ := List.mem_flatMap.1 hb
  have := h u hu
  unfold esc1 at hb
  split at hb
  · simp at hb; omega
  · simp at hb; omega
theorem isB_tailE (es : List ByteArray) : isB (tailE es) := fun b hb => by
  unfold tailE at hb
  obtain ⟨u, hu, hb⟩ := List.mem_flatMap.1 hb
  rcases List.mem_cons.1 hb with rfl | hb
  · omega
  · exact isB_escI (isB_bytes u) b hb
theorem isB_joinE (es : List ByteArray) : isB (joinE es) := by
  cases es with
  | nil => intro b hb; cases hb
  | cons a l => exact isB_append (isB_escI (isB_bytes a)) (isB_tailE l)
theorem isB_bodyS (x : List (List ByteArray)) : isB (bodyS x) := fun b hb => by
  unfold bodyS at hb
  obtain ⟨u, hu, hb⟩ := List.mem_flatMap.1 hb
  rcases List.mem_cons.1 hb with rfl | hb
  · omega
  · exact isB_joinE u b hb
theorem isB_enc (t : ByteArray) (x : List (List ByteArray)) : isB (enc t x) := isB_append (isB_bytes t) (isB_append (isB_bodyS x) (fun b hb => by simp at hb; omega))
theorem bytes_str {l : List Int} (h : isB l) : bytesOf (strOfNums l) = l := by
  unfold bytesOf
  rw [strOfNums_data, List.map_map]
  conv => rhs; rw [← List.map_id l]
  refine List.map_congr_left (fun b hb => ?_)
  have := h b hb
  show ((UInt8.ofNat b.toNat).toNat : Int) = b
  rw [UInt8.toNat_ofNat']
  omega
theorem str_bytes (a : ByteArray) : strOfNums (bytesOf a) = a := by
  have e : (strOfNums (bytesOf a)).data.toList = a.data.toList := by
    rw [strOfNums_data]
    unfold bytesOf
    rw [List.map_map]
    conv => rhs; rw [← List.map_id a.data.toList]
    refine List.map_congr_left (fun b hb => ?_)
    show UInt8.ofNat ((b.toNat : Int).toNat) = b
    simp
  cases a; cases h : strOfNums (bytesOf _)
  rw [h] at e
  congr 1
  exact Array.ext' (by simpa using e)
theorem str_inj {a b : List Int} (ha : isB a) (hb : isB b) (h : strOfNums a = strOfNums b) : a = b := by rw [← bytes_str ha, h, bytes_str hb]
theorem bytes_inj {a b : ByteArray} (h : bytesOf a = bytesOf b) : a = b := by rw [← str_bytes a, h, str_bytes b]
/- The length of the encoding of a valid segment. -/
theorem esc_len (l : List Int) : (escI l).length ≤ 2 * l.length := by
  induction l with
  | nil => simp [escI]
  | cons a l ih =>
    have : (esc1 a).length ≤ 2 := by unfold esc1; split <;> simp
    simp only [escI, List.flatMap_cons, List.length_append, List.length_cons] at ih ⊢
    omega
theorem tailE_len (es : List ByteArray) (h : ∀ c ∈ es, c.size ≤ 1000) : (tailE es).length ≤ 2001 * es.length := by
  induction es with
  | nil => simp [tailE]
  | cons a l ih =>
    have h1 := ih (fun c hc => h c (List.mem_cons_of_mem _ hc))
    have h2 := h a List.mem_cons_self
    have h3 := esc_len (bytesOf a)
    rw [bytesOf_length] at h3
    simp only [tailE, escC, List.flatMap_cons, List.length_append, List.length_cons] at h1 ⊢
    omega
theorem joinE_len (es : List ByteArray) (h : ∀ c ∈ es, c.size ≤ 1000) : (joinE es).length ≤ 2001 * es.length := by
  cases es with
  | nil => simp [joinE]
  | cons a l =>
    have h1 := tailE_len l (fun c hc => h c (List.mem_cons_of_mem _ hc))
    have h2 := h a List.mem_cons_self
    have h3 := esc_len (bytesOf a)
    rw [bytesOf_length] at h3
    simp only [joinE, escC, List.length_append, List.length_cons]
    omega
theorem longE_no {e : List ByteArray} (h : longE e = false) : e.length ≤ 100 ∧ ∀ c ∈ e, c.size ≤ 1000 := by
  unfold longE at h
  simpa using h
theorem longB_no {x : List (List ByteArray)} (h : longB x = false) : x.length ≤ 100 ∧ ∀ e ∈ x, e.length ≤ 100 ∧ ∀ c ∈ e, c.size ≤ 1000 := by
  unfold longB at h
  rw [Bool.or_eq_false_iff] at h
  refine ⟨by simpa using h.1, fun e he => longE_no ?_⟩
  have := List.any_eq_false.1 h.2 e he
  simpa using this
theorem bodyS_len (x : List (List ByteArray)) (h : ∀ e ∈ x, e.length ≤ 100 ∧ ∀ c ∈ e, c.size ≤ 1000) : (bodyS x).length ≤ 200101 * x.length := by
  induction x with
  | nil => simp [bodyS]
  | cons a l ih =>
    have h1 := ih (fun c hc => h c (List.mem_cons_of_mem _ hc))
    have h2 := h a List.mem_cons_self
    have h3 := joinE_len a h2.2
    have h4 := h2.1
    simp only [bodyS, List.flatMap_cons, List.length_append, List.length_cons] at h1 ⊢
    omega
theorem valid_parts {t : ByteArray} {x : List (List ByteArray)} (h : valid t x = 0) : tagB t = true ∧ longB x = false ∧ endsB x = false := by
  unfold valid at h
  cases h1 : tagB t with
  | false => rw [h1] at h; simp at h
  | true =>
    cases h2 : longB x with
    | true => rw [h1, h2] at h; simp at h
    | false =>
      cases h3 : endsB x with
      | true => rw [h1, h2, h3] at h; simp at h
      | false => exact ⟨rfl, rfl, rfl⟩
theorem tagB_size {t : ByteArray} (h : tagB t = true) : t.size = 3 := by
  unfold tagB at h
  rw [Bool.and_eq_true] at h
  simpa using h.1
theorem enc_len {t : ByteArray} {x : List (List ByteArray)} (h : valid t x = 0) : (enc t x).length ≤ 20010104 := by
  obtain ⟨h1, h2, h3⟩ := valid_parts h
  have h4 := tagB_size h1
  have h5 := longB_no h2
  have h6 := bodyS_len x h5.2
  unfold enc
  simp only [List.length_append, bytesOf_length, List.length_cons, List.length_nil]
  omega
theorem valid_fits {t : ByteArray} {x : List (List ByteArray)} (h : valid t x = 0) : fits x := by
  obtain ⟨h1, h2, h3⟩ := valid_parts h
  have h5 := longB_no h2
  refine ⟨by omega, fun e he => ?_, fun e he c hc => ?_⟩
  · have := (h5.2 e he).1; omega
  · have := (h5.2 e he).2 c hc; omega
/- Lists of segments. -/
def errL : List S24 → Int
  | [] => 0
  | s :: r => if valid s.f0 s.f1 = 0 then errL r else valid s.f0 s.f1
def encL (l : List S24) : List Int := l.flatMap fun s => enc s.f0 s.f1
def encR (b : List Int) (l : List S24) : List Int × Int := if errL l = 0 then (b ++ encL l, 0) else ([], errL l)
def fitsL (l : List S24) : Prop := ∀ s ∈ l, fits s.f1
theorem rdT24 (xs : List S24) (i : Nat) (h : i < xs.length) : rd_T24 xs (i : Int) = xs[i] := by unfold rd_T24; simp [h]
theorem encode_l (l : List S24) (hf : fitsL l) (hn : l.length ≤ 1000000) (d : Nat) : ∀ (i : Nat) (b : List Int), i + d = l.length → b.length ≤ i * 20010104 →
    Ev (fun k => segment_Encode.l0 k b l (l.length : Int) (i : Int)) (encR b (l.drop i)) := by
  induction d with
  | zero =>
    intro i b h hb
    rw [List.drop_of_length_le (by omega)]
    refine Ev.step (fun k => by rw [segment_Encode.l0]) (ev_neg (by omega) ?_)
    unfold encR encL
    rw [show errL [] = 0 from rfl, if_pos rfl]
    simp
    exact Ev.now _
  | succ d ih =>
    intro i b h hb
    have hi : i < l.length := by omega
    have hfi := hf _ (List.getElem_mem hi)
    rw [List.drop_eq_getElem_cons hi]
    refine Ev.step (fun k => by rw [segment_Encode.l0]) (ev_pos (by omega) (ev_pos (by omega) (ev_pos (by omega) ?_)))
    rw [rdT24 l i hi]
    refine ev_bind (validate_ev l[i].f0 l[i].f1 hfi.1 hfi.2.1) ?_
    by_cases hv : valid l[i].f0 l[i].f1 = 0
    · refine ev_pos hv ?_
      have hl := enc_len hv
      refine ev_bind (put_ev b l[i].f0 l[i].f1 hfi (by omega)) ?_
      rw [w64 (by omega) (by omega)]
      refine ev_eq (ih (i + 1) _ (by omega) (by rw [List.length_append]; omega)) ?_
      unfold encR encL
      rw [show errL (l[i] :: l.drop (i + 1)) = errL (l.drop (i + 1)) from by rw [errL, if_pos hv], List.flatMap_cons, List.append_assoc]
    · refine ev_neg hv ?_
      unfold encR
      rw [show errL (l[i] :: l.drop (i + 1)) = valid l[i].f0 l[i].f1 from by rw [errL, if_neg hv], if_neg hv]
      exact Ev.now _
theorem encode_ev (l : List S24) (hf : fitsL l) (hn : l.length ≤ 1000000) : Ev (fun k => segment_Encode.f k l) (encR [] l) := by
  have := encode_l l hf hn l.length 0 [] (by omega) (by simp)
  rw [List.drop_zero] at this
  exact this
theorem refEncode_l (l : List S24) (hf : fitsL l) (hn : l.length ≤ 1000000) (d : Nat) : ∀ (i : Nat) (b : List Int), i + d = l.length → b.length ≤ i * 20010104 →
    Ev (fun k => customsref06_Encode.l0 k l b (i : Int)) (encR b (l.drop i)) := by
  induction d with
  | zero =>
    intro i b h hb
    rw [List.drop_of_length_le (by omega)]
    refine Ev.step (fun k => by rw [customsref06_Encode.l0]) (ev_neg (by omega) ?_)
    unfold encR encL
    rw [show errL [] = 0 from rfl, if_pos rfl]
    simp
    exact Ev.now _
  | succ d ih =>
    intro i b h hb
    have hi : i < l.length := by omega
    have hfi := hf _ (List.getElem_mem hi)
    rw [List.drop_eq_getElem_cons hi]
    refine Ev.step (fun k => by rw [customsref06_Encode.l0]) (ev_pos (by omega) (ev_pos (by omega) ?_))
    rw [rdT24 l i hi]
    refine ev_bind (refSegment_ev l[i].f0 l[i].f1 hfi.1 hfi.2.1) ?_
    by_cases hv : valid l[i].f0 l[i].f1 = 0
    · refine ev_pos hv ?_
      have hl := enc_len hv
      refine ev_bind (text_ev l[i].f0 l[i].f1 hfi (by omega)) ?_
      rw [strOfNums_size, bytes_str (isB_enc _ _)]
      refine ev_pos (by omega) ?_
      rw [w64 (by omega) (by omega)]
      refine ev_eq (ih (i + 1) _ (by omega) (by rw [List.length_append]; omega)) ?_
      unfold encR encL
      rw [show errL (l[i] :: l.drop (i + 1)) = errL (l.drop (i + 1)) from by rw [errL, if_pos hv], List.flatMap_cons, List.append_assoc]
    · refine ev_neg hv ?_
      unfold encR
      rw [show errL (l[i] :: l.drop (i + 1)) = valid l[i].f0 l[i].f1 from by rw [errL, if_neg hv], if_neg hv]
      exact Ev.now _
theorem refEncode_ev (l : List S24) (hf : fitsL l) (hn : l.length ≤ 1000000) : Ev (fun k => customsref06_Encode.f k l) (encR [] l) := by
  have := refEncode_l l hf hn l.length 0 [] (by omega) (by simp)
  rw [List.drop_zero] at this
  exact this
end Go.Proofs.Ythdahpnjiighfaa.D
namespace Go.Proofs.Ythdahpnjiighfaa.D
set_option linter.unusedVariables false
set_option linter.unusedSimpArgs false
open Go.RowKit Go.Proofs.YthdahpnjiighfaaW.PrintWords Go.Proofs.YthdahpnjiighfaaW.PrintMore Go.Proofs.Ythdahpnjiighfaa.F
/-- The number of bytes of the first segment, if its end is there. -/
def scan : List Int → Option Nat
  | [] => none
  | [b] => if b = 39 then some 1 else none
  | b :: c :: r => if b = 39 then some 1 else if b = 63 then (scan r).map (· + 2) else (scan (c :: r)).map (· + 1)
theorem scan_end (r : List Int) : scan (39 :: r) = some 1 := by cases r <;> simp [scan]
theorem scan_esc (b : Int) (r : List Int) : scan (63 :: b :: r) = (scan r).map (· + 2) := by simp [scan]
theorem scan_one {b : Int} {r : List Int} (h1 : b ≠ 39) (h2 : b ≠ 63) : scan (b :: r) = (scan r).map (· + 1) := by
  cases r with
  | nil => simp [scan, h1]
  | cons c r => simp [scan, h1, h2]
theorem rd_get (xs : List Int) (i : Nat) (h : i < xs.length) : rd xs (i : Int) = xs[i] := by unfold rd; simp [h]
/-- What the scan tells is found by the loop. -/
def scanR (b : List Int) (i : Nat) (p : Int × Bool) : Prop := match scan (b.drop i) with
  | some m => p = (((i + m : Nat) : Int), true)
  | none => p.2 = false
theorem length_l (b : List Int) (hb : b.length ≤ 9223372036854775000) (d : Nat) : ∀ i : Nat, i ≤ b.length + 1 → b.length + 2 ≤ i + d →
    ∃ p, scanR b i p ∧ Ev (fun k => segment_length.l0 k b (i : Int) false) p := by
  induction d with
  | zero => intro i h h2; omega
  | succ d ih =>
    intro i h h2
    by_cases hi : i < b.length
    · by_cases h63 : b[i] = 63
      · obtain ⟨p, hp, he⟩ := ih (i + 2) (by omega) (by omega)
        refine ⟨p, ?_, Ev.step (fun k => by rw [segment_length.l0]) (ev_pos (by omega) (ev_pos (by omega) ?_))⟩
        · unfold scanR at hp ⊢
          rw [List.drop_eq_getElem_cons hi, h63]
          by_cases h1 : i + 1 < b.length
          · rw [List.drop_eq_getElem_cons h1, scan_esc]
            rw [show i + 1 + 1 = i + 2 from rfl]
            cases hs : scan (b.drop (i + 2)) with
            | none => rw [hs] at hp; exact hp
            | some m =>
              rw [hs] at hp
              show p = (((i + (m + 2) : Nat) : Int), true)
              rw [show i + (m + 2) = i + 2 + m by omega]; exact hp
          · rw [List.drop_of_length_le (show b.length ≤ i + 2 by omega)] at hp
            rw [List.drop_of_length_le (show b.length ≤ i + 1 by omega)]
            show p.2 = false
            exact hp
        · rw [rd_get b i hi]
          refine ev_pos h63 ?_
          rw [w64 (x := (i : Int) + 1) (by omega) (by omega), w64 (by omega) (by omega)]
          exact he
      · by_cases h39 : b[i] = 39
        · refine ⟨(((i + 1 : Nat) : Int), true), ?_, Ev.step (fun k => by rw [segment_length.l0]) (ev_pos (by omega) (ev_pos (by omega) ?_))⟩
          · unfold scanR
            rw [List.drop_eq_getElem_cons hi, h39, scan_end]
          · rw [rd_get b i hi]
            refine ev_neg h63 (ev_pos h39 ?_)
            rw [w64 (by omega) (by omega)]
            exact Ev.now _
        · obtain ⟨p, hp, he⟩ := ih (i + 1) (by omega) (by omega)
          refine ⟨p, ?_, Ev.step (fun k => by rw [segment_length.l0]) (ev_pos (by omega) (ev_pos (by omega) ?_))⟩
          · unfold scanR at hp ⊢
            rw [List.drop_eq_getElem_cons hi, scan_one h39 h63]
            cases hs : scan (b.drop (i + 1)) with
            | none => rw [hs] at hp; exact hp
            | some m =>
              rw [hs] at hp
              show p = (((i + (m + 1) : Nat) : Int), true)
              rw [show i + (m + 1) = i + 1 + m by omega]; exact hp
          · rw [rd_get b i hi]
            refine ev_neg h63 (ev_neg h39 ?_)
            rw [w64 (by omega) (by omega)]
            exact he
    · refine ⟨(wrap64 ((i : Int) + 1), false), ?_, Ev.step (fun k => by rw [segment_length.l0]) (ev_neg (by omega) (Ev.now _))⟩
      unfold scanR
      rw [List.drop_of_length_le (by omega)]
      rfl
theorem length_ev (b : List Int) (hb : b.length ≤ 9223372036854775000) : ∃ p, scanR b 0 p ∧ Ev (fun k => segment_length.f k b) p :=
  length_l b hb (b.length + 2) 0 (by omega) (by omega)
theorem scan_le (d : Nat) : ∀ b : List Int, b.length ≤ d → ∀ m, scan b = some m → 1 ≤ m ∧ m ≤ b.length := by
  induction d with
  | zero => intro b hb m h; cases b with | nil => cases h | cons a l => simp at hb
  | succ d ih =>
    intro b hb m h
    cases b with
    | nil => cases h
    | cons a l =>
      simp only [List.length_cons] at hb ⊢
      by_cases h39 : a = 39
      · subst h39
        rw [scan_end] at h
        obtain rfl := Option.some.inj h
        omega
      · by_cases h63 : a = 63
        · subst h63
          cases l with
          | nil => simp [scan] at h
          | cons c r =>
            rw [scan_esc] at h
            obtain ⟨n, hn, rfl⟩ := Option.map_eq_some_iff.1 h
            simp only [List.length_cons] at hb ⊢
            have := ih r (by omega) n hn
            omega
        · rw [scan_one h39 h63] at h
          obtain ⟨n, hn, rfl⟩ := Option.map_eq_some_iff.1 h
          have := ih l (by omega) n hn
          omega
/-- Division at the separators that no question mark precedes. -/
def splitL (sep : Int) : List Int → List Int → List (List Int)
  | w, [] => [w]
  | w, [b] => if b = 63 then [w ++ [63]] else if b = sep then [w, []] else [w ++ [b]]
  | w, b :: c :: r => if b = 63 then splitL sep (w ++ [63, c]) r else if b = sep then w :: splitL sep [] (c :: r) else splitL sep (w ++ [b]) (c :: r)
theorem split_nil (sep : Int) (w : List Int) : splitL sep w [] = [w] := by rw [splitL]
theorem split_esc (sep : Int) (w : List Int) (b : Int) (r : List Int) : splitL sep w (63 :: b :: r) = splitL sep (w ++ [63, b]) r := by rw [splitL, if_pos rfl]
theorem split_sep {sep : Int} (h : sep ≠ 63) (w r : List Int) : splitL sep w (sep :: r) = w :: splitL sep [] r := by
  cases r with
  | nil => simp only [splitL, if_neg h, if_pos]
  | cons c r => rw [splitL, if_neg h, if_pos rfl]
theorem split_one {sep b : Int} (h1 : b ≠ 63) (h2 : b ≠ sep) (w r : List Int) : splitL sep w (b :: r) = splitL sep (w ++ [b]) r := by
  cases r with
  | nil => simp only [splitL, if_neg h1, if_neg h2]
  | cons c r => rw [splitL, if_neg h1, if_neg h2]
theorem split_last (sep : Int) (w : List Int) : splitL sep w [63] = [w ++ [63]] := by rw [splitL, if_pos rfl]
theorem extract_str (a : ByteArray) (i j : Nat) : a.extract i j = strOfNums (((bytesOf a).take j).drop i) := by
  apply bytes_inj
  rw [bytes_str (fun b hb => isB_bytes a b (List.mem_of_mem_take (List.mem_of_mem_drop hb)))]
  unfold bytesOf
  rw [← List.map_take, ← List.map_drop]
  congr 1
  simp [ByteArray.extract, ByteArray.copySlice, Array.toList_extract, List.extract_eq_take_drop, List.drop_take]
def slice (b : List Int) (i j : Nat) : List Int := (b.take j).drop i
theorem slice_next (b : List Int) (i j : Nat) (h : i ≤ j) (hj : j < b.length) : slice b i (j + 1) = slice b i j ++ [b[j]] := by
  unfold slice
  rw [List.take_succ_eq_append_getElem hj, List.drop_append_of_le_length (by rw [List.length_take]; omega)]
theorem slice_nil (b : List Int) (i : Nat) : slice b i i = [] := by
  unfold slice
  rw [List.drop_of_length_le (by rw [List.length_take]; omega)]
theorem slice_past (b : List Int) (i j : Nat) (h : b.length ≤ j) : slice b i j = slice b i b.length := by
  unfold slice
  rw [List.take_of_length_le h, List.take_length]
theorem split_l (s : ByteArray) (sep : Int) (hsep : sep ≠ 63) (hs : s.size ≤ 8000000000000) (d : Nat) : ∀ (i from_ : Nat) (acc : List ByteArray), i ≤ s.size + 1 → s.size + 2 ≤ i + d → from_ ≤ i → from_ ≤ s.size → acc.length ≤ from_ →
    Ev (fun k => segment_split.l0 k s sep acc (from_ : Int) (i : Int)) (acc ++ (splitL sep (slice (bytesOf s) from_ i) ((bytesOf s).drop i)).map strOfNums) := by
  induction d with
  | zero => intro i fr acc h h2; omega
  | succ d ih =>
    intro i fr acc h h2 h3 h4 h5
    have hl : (bytesOf s).length = s.size := bytesOf_length s
    by_cases hi : i < s.size
    · have hi' : i < (bytesOf s).length := by omega
      rw [List.drop_eq_getElem_cons hi', bytesOf_get s i hi']
      have hsl := slice_next (bytesOf s) fr i h3 hi'
      rw [bytesOf_get s i hi'] at hsl
      refine Ev.step (fun k => by rw [segment_split.l0]) (ev_pos (by omega) (ev_pos (by omega) ?_))
      by_cases h63 : bt s i = 63
      · refine ev_pos h63 ?_
        rw [w64 (x := (i : Int) + 1) (by omega) (by omega), w64 (by omega) (by omega), h63]
        refine ev_eq (ih (i + 2) fr acc (by omega) (by omega) (by omega) h4 h5) ?_
        by_cases h1 : i + 1 < (bytesOf s).length
        · have hsl2 := slice_next (bytesOf s) fr (i + 1) (by omega) h1
          rw [List.drop_eq_getElem_cons h1, split_esc, show i + 1 + 1 = i + 2 from rfl] at *
          rw [hsl2, hsl, h63, List.append_assoc]
          rfl
        · rw [List.drop_of_length_le (show (bytesOf s).length ≤ i + 1 by omega), List.drop_of_length_le (show (bytesOf s).length ≤ i + 2 by omega), split_nil, split_last,
            slice_past _ fr (i + 2) (by omega), ← slice_past _ fr (i + 1) (by omega), hsl, h63]
      · by_cases hc : bt s i = sep
        · refine ev_neg h63 (ev_pos hc (ev_pos (by omega) (ev_pos (by omega) (ev_pos (by omega) (ev_pos (by omega) ?_)))))
          rw [w64 (by omega) (by omega), hc, split_sep hsep, List.map_cons]
          refine ev_eq (ih (i + 1) (i + 1) _ (by omega) (by omega) (by omega) (by omega) (by rw [List.length_append, List.length_cons, List.length_nil]; omega)) ?_
          rw [slice_nil, List.append_assoc, show ((fr : Int)).toNat = fr by omega, show ((i : Int)).toNat = i by omega, extract_str]
          rfl
        · refine ev_neg h63 (ev_neg hc ?_)
          rw [w64 (by omega) (by omega), split_one h63 hc, ← hsl]
          exact ih (i + 1) fr acc (by omega) (by omega) (by omega) h4 h5
    · rw [List.drop_of_length_le (by omega), split_nil, slice_past _ fr i (by omega)]
      refine Ev.step (fun k => by rw [segment_split.l0]) (ev_neg (by omega) (ev_pos (by omega) (ev_pos (by omega) (ev_pos (by omega) ?_))))
      rw [show ((fr : Int)).toNat = fr by omega, extract_str, hl]
      exact Ev.now _
theorem split_ev (s : ByteArray) (sep : Int) (hsep : sep ≠ 63) (hs : s.size ≤ 8000000000000) : Ev (fun k => segment_split.f k s sep) ((splitL sep [] (bytesOf s)).map strOfNums) := by
  have := split_l s sep hsep hs (s.size + 2) 0 0 [] (by omega) (by omega) (by omega) (by omega) (by simp)
  rw [slice_nil, List.drop_zero, List.nil_append] at this
  exact this
theorem split_len (sep : Int) (d : Nat) : ∀ (l w : List Int), l.length ≤ d → (splitL sep w l).length ≤ l.length + 1 ∧ (splitL sep w l) ≠ [] ∧ ∀ p ∈ splitL sep w l, p.length ≤ w.length + l.length := by
  induction d with
  | zero =>
    intro l w h
    cases l with
    | nil => rw [split_nil]; refine ⟨by simp, by simp, fun p hp => ?_⟩; simp at hp; subst hp; omega
    | cons a l => simp at h
  | succ d ih =>
    intro l w h
    cases l with
    | nil => rw [split_nil]; refine ⟨by simp, by simp, fun p hp => ?_⟩; simp at hp; subst hp; omega
    | cons a l =>
      simp only [List.length_cons] at h ⊢
      by_cases h63 : a = 63
      · subst h63
        cases l with
        | nil =>
          rw [split_last]
          refine ⟨by simp, by simp, fun p hp => ?_⟩
          simp only [List.mem_singleton] at hp
          subst hp; simp
        | cons c r =>
          rw [split_esc]
          simp only [List.length_cons] at h ⊢
          obtain ⟨h1, h2, h3⟩ := ih r (w ++ [63, c]) (by omega)
          refine ⟨by omega, h2, fun p hp => ?_⟩
          have := h3 p hp
          simp only [List.length_append, List.length_cons, List.length_nil] at this
          omega
      · by_cases hc : a = sep
        · subst hc
          rw [split_sep h63]
          obtain ⟨h1, h2, h3⟩ := ih l [] (by omega)
          refine ⟨by rw [List.length_cons]; omega, by simp, fun p hp => ?_⟩
          rcases List.mem_cons.1 hp with rfl | hp
          · omega
          · have := h3 p hp
            simp only [List.length_nil] at this
            omega
        · rw [split_one h63 hc]
          obtain ⟨h1, h2, h3⟩ := ih l (w ++ [a]) (by omega)
          refine ⟨by omega, h2, fun p hp => ?_⟩
          have := h3 p hp
          simp only [List.length_append, List.length_cons, List.length_nil] at this
          omega
theorem isB_split (sep : Int) (d : Nat) : ∀ (l w : List Int), l.length ≤ d → isB l → isB w → ∀ p ∈ splitL sep w l, isB p := by
  induction d with
  | zero =>
    intro l w h hl hw p hp
    cases l with
    | nil => rw [split_nil] at hp; simp at hp; subst hp; exact hw
    | cons a l => simp at h
  | succ d ih =>
    intro l w h hl hw p hp
    cases l with
    | nil => rw [split_nil] at hp; simp at hp; subst hp; exact hw
    | cons a l =>
      simp only [List.length_cons] at h
      have ha : isB [a] := fun b hb => hl b (by simp at hb; subst hb; exact List.mem_cons_self)
      have hl' : isB l := fun b hb => hl b (List.mem_cons_of_mem _ hb)
      by_cases h63 : a = 63
      · subst h63
        cases l with
        | nil =>
          rw [split_last] at hp
          simp only [List.mem_singleton] at hp
          subst hp; exact isB_append hw ha
        | cons c r =>
          rw [split_esc] at hp
          simp only [List.length_cons] at h
          refine ih r (w ++ [63, c]) (by omega) (fun b hb => hl' b (List.mem_cons_of_mem _ hb)) (isB_append hw (fun b hb => ?_)) p hp
          simp only [List.mem_cons, List.not_mem_nil, or_false] at hb
          rcases hb with rfl | rfl
          · omega
          · exact hl' _ List.mem_cons_self
      · by_cases hc : a = sep
        · subst hc
          rw [split_sep h63] at hp
          rcases List.mem_cons.1 hp with rfl | hp
          · exact hw
          · exact ih l [] (by omega) hl' (fun b hb => by cases hb) p hp
        · rw [split_one h63 hc] at hp
          exact ih l (w ++ [a]) (by omega) hl' (isB_append hw ha) p hp
/- Components. -/
def plainB (a : ByteArray) : ByteArray := ⟨(plainL a.data.toList).toArray⟩
theorem plainL_len (d : Nat) : ∀ l : List UInt8, l.length ≤ d → (plainL l).length ≤ l.length := by
  induction d with
  | zero => intro l h; cases l with | nil => rw [plainL]; simp | cons a l => simp at h
  | succ d ih =>
    intro l h
    cases l with
    | nil => rw [plainL]; simp
    | cons a l =>
      simp only [List.length_cons] at h ⊢
      by_cases h63 : a = 63 ∧ l ≠ []
      · obtain ⟨rfl, hl⟩ := h63
        cases l with
        | nil => exact absurd rfl hl
        | cons c r =>
          rw [plainL_esc]
          simp only [List.length_cons] at h ⊢
          have := ih r (by omega)
          omega
      · rw [plainL_cons (by by_cases h1 : a = 63; exact Or.inr (Decidable.byContradiction fun h2 => h63 ⟨h1, h2⟩); exact Or.inl h1)]
        have := ih l (by omega)
        rw [List.length_cons]; omega
theorem plainB_size (a : ByteArray) : (plainB a).size ≤ a.size := by
  have h := plainL_len a.data.toList.length a.data.toList (Nat.le_refl _)
  rw [data_length] at h
  unfold plainB
  show (plainL a.data.toList).toArray.size ≤ a.size
  rw [List.size_toArray]; exact h
theorem plain_ev (a : ByteArray) (h : a.size ≤ 70368744177664) : segment_plain.f a = some (plainB a) := by
  unfold segment_plain.f; rw [if_pos h]; rfl
def elS (p : List Int) : List ByteArray := if p = [] then [] else (splitL 58 [] p).map fun w => plainB (strOfNums w)
/-- What the program reads. -/
def readS (b : List Int) : ByteArray × List (List ByteArray) := (strOfNums ((splitL 43 [] b).headD []), (splitL 43 [] b).tail.map elS)
theorem read_l1 (ws : List ByteArray) (hw : ∀ w ∈ ws, w.size ≤ 70368744177664) (hn : ws.length ≤ 8000000000001) (ps : List ByteArray) (n j : Int) (t : ByteArray) (x : List (List ByteArray)) (hx : x.length ≤ 5000000000000) {r : ByteArray × List (List ByteArray)} (d : Nat) : ∀ (i : Nat) (acc : List ByteArray), i + d = ws.length → acc.length = i →
    Ev (fun k => segment_read.l0 k ps n (wrap64 (j + 1)) t (x ++ [acc ++ (ws.drop i).map plainB])) r →
    Ev (fun k => segment_read.l1 k acc ps n j ws (ws.length : Int) (i : Int) t x) r := by
  induction d with
  | zero =>
    intro i acc h ha h1
    rw [List.drop_of_length_le (by omega), List.map_nil, List.append_nil] at h1
    exact Ev.step (fun k => by rw [segment_read.l1]) (ev_neg (by omega) (ev_pos (by omega) h1))
  | succ d ih =>
    intro i acc h ha h1
    have hi : i < ws.length := by omega
    rw [List.drop_eq_getElem_cons hi, List.map_cons] at h1
    refine Ev.step (fun k => by rw [segment_read.l1]) (ev_pos (by omega) (ev_pos (by omega) (ev_pos (by omega) ?_)))
    rw [rdOf_get _ ws i hi, plain_ev _ (hw _ (List.getElem_mem hi))]
    refine ev_let (ev_pos (by omega) ?_)
    rw [w64 (by omega) (by omega)]
    refine ih (i + 1) _ (by omega) (by rw [List.length_append, List.length_cons, List.length_nil]; omega) ?_
    rw [List.append_assoc]
    exact h1
theorem strOfNums_nil (l : List Int) : (strOfNums l).toList = ([] : List UInt8) ↔ l = [] := by
  rw [toList_nil, strOfNums_data]; simp
theorem read_l0 (ps : List (List Int)) (hb : ∀ p ∈ ps, isB p) (hw : ∀ p ∈ ps, p.length ≤ 4000000000000) (hn : ps.length ≤ 4000000000001) (t : ByteArray) (d : Nat) : ∀ (i : Nat) (x : List (List ByteArray)), i + d = ps.length → x.length = i →
    Ev (fun k => segment_read.l0 k (ps.map strOfNums) ((ps.map strOfNums).length : Int) (i : Int) t x) (t, x ++ (ps.drop i).map elS) := by
  induction d with
  | zero =>
    intro i x h hx
    rw [List.drop_of_length_le (by omega), List.map_nil, List.append_nil]
    exact Ev.step (fun k => by rw [segment_read.l0]) (ev_neg (by rw [List.length_map]; omega) (Ev.now _))
  | succ d ih =>
    intro i x h hx
    have hi : i < ps.length := by omega
    have hm := List.getElem_mem hi
    have hi' : i < (ps.map strOfNums).length := by rw [List.length_map]; exact hi
    rw [List.drop_eq_getElem_cons hi, List.map_cons]
    refine Ev.step (fun k => by rw [segment_read.l0]) (ev_pos (by omega) (ev_pos (by omega) (ev_pos (by omega) ?_)))
    rw [rdOf_get _ _ i hi', List.getElem_map]
    by_cases he : ps[i] = []
    · refine ev_pos ((strOfNums_nil _).2 he) (ev_pos (by omega) ?_)
      rw [w64 (by omega) (by omega)]
      refine ev_eq (ih (i + 1) _ (by omega) (by rw [List.length_append, List.length_cons, List.length_nil]; omega)) ?_
      rw [show elS ps[i] = [] from by unfold elS; rw [if_pos he], List.append_assoc]
      rfl
    · have h1 := split_len 58 ps[i].length ps[i] [] (Nat.le_refl _)
      have h0 := hw _ hm
      refine ev_neg (fun h => he ((strOfNums_nil _).1 h)) (ev_bind (split_ev (strOfNums ps[i]) 58 (by decide) (by rw [strOfNums_size]; omega)) ?_)
      rw [bytes_str (hb _ hm)]
      refine read_l1 _ (fun w hw' => ?_) (by rw [List.length_map]; omega) _ _ i t x (by omega) _ 0 [] (by rw [Nat.zero_add]) rfl ?_
      · obtain ⟨p, hp, rfl⟩ := List.mem_map.1 hw'
        have := h1.2.2 p hp
        rw [strOfNums_size]
        simp only [List.length_nil] at this
        omega
      · rw [w64 (by omega) (by omega), List.drop_zero, List.nil_append, List.map_map]
        refine ev_eq (ih (i + 1) _ (by omega) (by rw [List.length_append, List.length_cons, List.length_nil]; omega)) ?_
        rw [List.append_assoc, show elS ps[i] = (splitL 58 [] ps[i]).map fun w => plainB (strOfNums w) from by unfold elS; rw [if_neg he]]
        rfl
theorem read_ev (b : List Int) (hb : isB b) (hn : b.length ≤ 4000000000000) : Ev (fun k => segment_read.f k b) (readS b) := by
  unfold segment_read.f
  refine ev_bind (split_ev (strOfNums b) 43 (by decide) (by rw [strOfNums_size]; omega)) ?_
  rw [bytes_str hb]
  have h1 := split_len 43 b.length b [] (Nat.le_refl _)
  have h2 := isB_split 43 b.length b [] (Nat.le_refl _) hb (fun b hb => by cases hb)
  unfold readS
  generalize splitL 43 [] b = ps at h1 h2
  cases ps with
  | nil => exact absurd rfl h1.2.1
  | cons p ps =>
    simp only [List.length_cons] at h1
    refine ev_pos (by rw [List.length_map, List.length_cons]; omega) (ev_pos (by rw [List.length_map, List.length_cons]; omega) (ev_let ?_))
    have := read_l0 ps (fun q hq => h2 q (List.mem_cons_of_mem _ hq)) (fun q hq => by have := h1.2.2 q (List.mem_cons_of_mem _ hq); simp only [List.length_nil] at this; omega) (by omega) (strOfNums p) ps.length 0 [] (by omega) rfl
    rw [List.drop_zero, List.nil_append] at this
    exact this
theorem read_fits (b : List Int) (hn : b.length ≤ 4000000000000) : fits (readS b).2 := by
  have h1 := split_len 43 b.length b [] (Nat.le_refl _)
  have key : ∀ e ∈ (readS b).2, ∃ p ∈ splitL 43 [] b, e = elS p := fun e he => by
    obtain ⟨p, hp, rfl⟩ := List.mem_map.1 he
    exact ⟨p, List.mem_of_mem_tail hp, rfl⟩
  have el : ∀ p ∈ splitL 43 [] b, (elS p).length ≤ 4000000000001 ∧ ∀ c ∈ elS p, c.size ≤ 4000000000001 := fun p hp => by
    have h2 := h1.2.2 p hp
    simp only [List.length_nil] at h2
    have h3 := split_len 58 p.length p [] (Nat.le_refl _)
    unfold elS
    split
    · exact ⟨by simp, fun c hc => by cases hc⟩
    · refine ⟨by rw [List.length_map]; omega, fun c hc => ?_⟩
      obtain ⟨w, hw, rfl⟩ := List.mem_map.1 hc
      have h4 := h3.2.2 w hw
      simp only [List.length_nil] at h4
      have h5 := plainB_size (strOfNums w)
      rw [strOfNums_size] at h5
      omega
  refine ⟨?_, fun e he => ?_, fun e he c hc => ?_⟩
  · unfold readS
    rw [List.length_map, List.length_tail]; omega
  · obtain ⟨p, hp, rfl⟩ := key e he
    have := (el p hp).1; omega
  · obtain ⟨p, hp, rfl⟩ := key e he
    have := (el p hp).2 c hc; omega
/- Reading back. -/
theorem escI_cons (b : Int) (l : List Int) : escI (b :: l) = esc1 b ++ escI l := rfl
theorem sp_yes {b : Int} (h : sp b = false) : b ≠ 43 ∧ b ≠ 58 ∧ b ≠ 63 ∧ b ≠ 39 := by
  unfold sp at h
  have := of_decide_eq_false h
  omega
theorem scan_escI (l r : List Int) : scan (escI l ++ r) = (scan r).map (· + (escI l).length) := by
  induction l with
  | nil => show scan r = _; cases scan r <;> rfl
  | cons b l ih =>
    rw [escI_cons]
    unfold esc1
    cases h : sp b with
    | true =>
      rw [if_pos rfl]
      show scan (63 :: b :: (escI l ++ r)) = _
      rw [scan_esc, ih, Option.map_map]
      congr 1
    | false =>
      rw [if_neg (by simp)]
      have := sp_yes h
      show scan (b :: (escI l ++ r)) = _
      rw [scan_one this.2.2.2 this.2.2.1, ih, Option.map_map]
      congr 1
theorem split_escI {sep : Int} (hs : sp sep = true) (h63 : sep ≠ 63) (l : List Int) : ∀ w r : List Int, splitL sep w (escI l ++ r) = splitL sep (w ++ escI l) r := by
  induction l with
  | nil => intro w r; show splitL sep w r = splitL sep (w ++ []) r; rw [List.append_nil]
  | cons b l ih =>
    intro w r
    rw [escI_cons]
    unfold esc1
    cases h : sp b with
    | true =>
      rw [if_pos rfl]
      show splitL sep w (63 :: b :: (escI l ++ r)) = _
      rw [split_esc, ih, List.append_assoc]
    | false =>
      rw [if_neg (by simp)]
      have h1 := sp_yes h
      show splitL sep w (b :: (escI l ++ r)) = _
      rw [split_one h1.2.2.1 (fun c => by rw [c, hs] at h; cases h), ih, List.append_assoc]
theorem scan_tailE (es : List ByteArray) (r : List Int) : scan (tailE es ++ r) = (scan r).map (· + (tailE es).length) := by
  induction es with
  | nil => show scan r = _; cases scan r <;> rfl
  | cons c es ih =>
    show scan (58 :: (escI (bytesOf c) ++ tailE es) ++ r) = (scan r).map (· + (58 :: (escI (bytesOf c) ++ tailE es)).length)
    rw [List.cons_append, scan_one (by decide) (by decide), List.append_assoc, scan_escI, ih, Option.map_map, Option.map_map]
    congr 1
    funext n
    simp only [Function.comp, List.length_cons, List.length_append]
    omega
theorem scan_joinE (es : List ByteArray) (r : List Int) : scan (joinE es ++ r) = (scan r).map (· + (joinE es).length) := by
  cases es with
  | nil => show scan r = _; cases scan r <;> rfl
  | cons c es =>
    show scan ((escI (bytesOf c) ++ tailE es) ++ r) = (scan r).map (· + (escI (bytesOf c) ++ tailE es).length)
    rw [List.append_assoc, scan_escI, scan_tailE, Option.map_map]
    congr 1
    funext n
    simp only [Function.comp, List.length_append]
    omega
theorem scan_bodyS (x : List (List ByteArray)) (r : List Int) : scan (bodyS x ++ r) = (scan r).map (· + (bodyS x).length) := by
  induction x with
  | nil => show scan r = _; cases scan r <;> rfl
  | cons e x ih =>
    show scan (43 :: (joinE e ++ bodyS x) ++ r) = (scan r).map (· + (43 :: (joinE e ++ bodyS x)).length)
    rw [List.cons_append, scan_one (by decide) (by decide), List.append_assoc, scan_joinE, ih, Option.map_map, Option.map_map]
    congr 1
    funext n
    simp only [Function.comp, List.length_cons, List.length_append]
    omega
theorem escI_id {l : List Int} (h : ∀ b ∈ l, sp b = false) : escI l = l := by
  induction l with
  | nil => rfl
  | cons b l ih =>
    rw [escI_cons, ih (fun c hc => h c (List.mem_cons_of_mem _ hc))]
    unfold esc1
    rw [h b List.mem_cons_self, if_neg (by simp)]
    rfl
theorem chOK_sp {i b : Int} (h : chOK i b = true) : sp b = false := by
  have := chOK_yes h
  unfold sp
  refine decide_eq_false ?_
  omega
theorem tag_bytes {t : ByteArray} (h : tagB t = true) : escI (bytesOf t) = bytesOf t := by
  refine escI_id (fun b hb => ?_)
  have hs := tagB_size h
  unfold tagB at h
  simp only [Bool.and_eq_true] at h
  obtain ⟨i, hi, rfl⟩ := List.mem_iff_getElem.1 hb
  have hi' := hi
  rw [bytesOf_length, hs] at hi'
  rw [bytesOf_get t i hi]
  match i, hi' with
  | 0, _ => exact chOK_sp h.2.1
  | 1, _ => exact chOK_sp h.2.2.1
  | 2, _ => exact chOK_sp h.2.2.2
theorem scan_enc {t : ByteArray} {x : List (List ByteArray)} (h : valid t x = 0) (r : List Int) : scan (enc t x ++ r) = some (enc t x).length := by
  obtain ⟨h1, h2, h3⟩ := valid_parts h
  unfold enc
  rw [List.append_assoc, List.append_assoc, ← tag_bytes h1, scan_escI, scan_bodyS]
  show ((scan (39 :: r)).map _).map _ = _
  rw [scan_end]
  simp only [Option.map_some, List.length_append, List.length_cons, List.length_nil]
  congr 1
  omega
theorem split43_tailE (es : List ByteArray) : ∀ w r : List Int, splitL 43 w (tailE es ++ r) = splitL 43 (w ++ tailE es) r := by
  induction es with
  | nil => intro w r; show splitL 43 w r = splitL 43 (w ++ []) r; rw [List.append_nil]
  | cons c es ih =>
    intro w r
    show splitL 43 w (58 :: (escI (bytesOf c) ++ tailE es) ++ r) = splitL 43 (w ++ 58 :: (escI (bytesOf c) ++ tailE es)) r
    rw [List.cons_append, split_one (by decide) (by decide), List.append_assoc, split_escI (by decide) (by decide), ih]
    simp
theorem split43_joinE (es : List ByteArray) (w r : List Int) : splitL 43 w (joinE es ++ r) = splitL 43 (w ++ joinE es) r := by
  cases es with
  | nil => show splitL 43 w r = splitL 43 (w ++ []) r; rw [List.append_nil]
  | cons c es =>
    show splitL 43 w ((escI (bytesOf c) ++ tailE es) ++ r) = splitL 43 (w ++ (escI (bytesOf c) ++ tailE es)) r
    rw [List.append_assoc, split_escI (by decide) (by decide), split43_tailE, List.append_assoc]
theorem split43_bodyS (x : List (List ByteArray)) : ∀ w : List Int, splitL 43 w (bodyS x) = w :: x.map joinE := by
  induction x with
  | nil => intro w; show splitL 43 w [] = _; rw [split_nil]; rfl
  | cons e x ih =>
    intro w
    show splitL 43 w (43 :: (joinE e ++ bodyS x)) = _
    rw [split_sep (by decide), split43_joinE, ih]
    rfl
theorem split58_tailE (es : List ByteArray) : ∀ w : List Int, splitL 58 w (tailE es) = w :: es.map escC := by
  induction es with
  | nil => intro w; show splitL 58 w [] = _; rw [split_nil]; rfl
  | cons c es ih =>
    intro w
    show splitL 58 w (58 :: (escI (bytesOf c) ++ tailE es)) = _
    rw [split_sep (by decide), split_escI (by decide) (by decide), ih]
    rfl
theorem split58_joinE (c : ByteArray) (es : List ByteArray) : splitL 58 [] (joinE (c :: es)) = (c :: es).map escC := by
  show splitL 58 [] (escI (bytesOf c) ++ tailE es) = _
  rw [split_escI (by decide) (by decide), split58_tailE]
  rfl
theorem plain_escI (l : List UInt8) : plainL ((escI (l.map fun b => (b.toNat : Int))).map fun n => UInt8.ofNat n.toNat) = l := by
  induction l with
  | nil => rfl
  | cons b l ih =>
    rw [List.map_cons, escI_cons]
    unfold esc1
    cases h : sp (b.toNat : Int) with
    | true =>
      rw [if_pos rfl]
      show plainL (63 :: UInt8.ofNat ((b.toNat : Int).toNat) :: ((escI (l.map fun b => (b.toNat : Int))).map fun n => UInt8.ofNat n.toNat)) = _
      rw [plainL_esc, ih]
      simp
    | false =>
      rw [if_neg (by simp)]
      have h1 := (sp_yes h).2.2.1
      show plainL (UInt8.ofNat ((b.toNat : Int).toNat) :: ((escI (l.map fun b => (b.toNat : Int))).map fun n => UInt8.ofNat n.toNat)) = _
      have e : UInt8.ofNat ((b.toNat : Int).toNat) = b := by simp
      rw [e, plainL_cons (Or.inl (fun c => h1 (by rw [c]; rfl))), ih]
theorem plain_escC (c : ByteArray) : plainB (strOfNums (escC c)) = c := by
  unfold plainB
  rw [strOfNums_data]
  unfold escC bytesOf
  rw [plain_escI]
theorem escI_nil {l : List Int} (h : escI l = []) : l = [] := by
  cases l with
  | nil => rfl
  | cons b l =>
    rw [escI_cons] at h
    unfold esc1 at h
    split at h <;> simp at h
theorem elS_joinE {e : List ByteArray} (h : badE e = false) : elS (joinE e) = e := by
  cases e with
  | nil => rfl
  | cons c es =>
    have hne : joinE (c :: es) ≠ [] := by
      intro hn
      have hn' : escI (bytesOf c) ++ tailE es = [] := hn
      obtain ⟨h1, h2⟩ := List.append_eq_nil_iff.1 hn'
      cases es with
      | nil =>
        have h3 := escI_nil h1
        rw [badE_pos (by simp)] at h
        have h4 := of_decide_eq_false h
        refine h4 ?_
        unfold bytesOf at h3
        simpa using h3
      | cons d es => cases h2
    unfold elS
    rw [if_neg hne, split58_joinE, List.map_map]
    conv => rhs; rw [← List.map_id (c :: es)]
    refine List.map_congr_left (fun a _ => ?_)
    exact plain_escC a
theorem endsB_no {x : List (List ByteArray)} (h : endsB x = false) : ∀ e ∈ x, badE e = false := by
  induction x with
  | nil => intro e he; cases he
  | cons a x ih =>
    rw [endsB_cons] at h
    simp only [Bool.or_eq_false_iff] at h
    intro e he
    rcases List.mem_cons.1 he with rfl | he
    · exact h.2.1
    · exact ih h.2.2 e he
theorem read_enc {t : ByteArray} {x : List (List ByteArray)} (h : valid t x = 0) : readS (bytesOf t ++ bodyS x) = (t, x) := by
  obtain ⟨h1, h2, h3⟩ := valid_parts h
  have e : splitL 43 [] (bytesOf t ++ bodyS x) = bytesOf t :: x.map joinE := by
    have e1 := split_escI (sep := 43) (by decide) (by decide) (bytesOf t) [] (bodyS x)
    rw [tag_bytes h1, List.nil_append] at e1
    rw [e1, split43_bodyS]
  unfold readS
  rw [e]
  show (strOfNums (bytesOf t), (x.map joinE).map elS) = _
  rw [str_bytes, List.map_map]
  congr 1
  conv => rhs; rw [← List.map_id x]
  refine List.map_congr_left (fun a ha => ?_)
  exact elS_joinE (endsB_no h3 a ha)
/- Next and Decode. -/
abbrev NextT := ByteArray × List (List ByteArray) × Int × Int
/-- What Next answers, out of what a reading is. -/
def nextW (rdS : List Int → ByteArray × List (List ByteArray)) (b : List Int) : NextT := match scan b with
  | none => (⟨#[]⟩, [], 0, 5)
  | some n => if valid (rdS (b.take (n - 1))).1 (rdS (b.take (n - 1))).2 = 0 ∧ enc (rdS (b.take (n - 1))).1 (rdS (b.take (n - 1))).2 = b.take n then ((rdS (b.take (n - 1))).1, (rdS (b.take (n - 1))).2, (n : Int), 0) else (⟨#[]⟩, [], 0, 4)
/-- A reading that gives back what was encoded. -/
def Back (rdS : List Int → ByteArray × List (List ByteArray)) : Prop := ∀ t x, valid t x = 0 → rdS (bytesOf t ++ bodyS x) = (t, x)
theorem enc_take (t : ByteArray) (x : List (List ByteArray)) (r : List Int) : (enc t x ++ r).take ((enc t x).length - 1) = bytesOf t ++ bodyS x := by
  have e : enc t x = (bytesOf t ++ bodyS x) ++ [39] := by unfold enc; rw [List.append_assoc]
  rw [e, List.length_append, List.length_cons, List.length_nil, Nat.zero_add, Nat.add_sub_cancel, List.append_assoc, List.take_left']
  rfl
theorem next_enc {rdS : List Int → ByteArray × List (List ByteArray)} (hb : Back rdS) {t : ByteArray} {x : List (List ByteArray)} (h : valid t x = 0) (r : List Int) : nextW rdS (enc t x ++ r) = (t, x, ((enc t x).length : Int), 0) := by
  unfold nextW
  rw [scan_enc h]
  show (if _ then _ else _) = _
  rw [enc_take, hb t x h, if_pos ⟨h, by rw [List.take_left' rfl]⟩]
theorem next_same {r1 r2 : List Int → ByteArray × List (List ByteArray)} (h1 : Back r1) (h2 : Back r2) (b : List Int) : nextW r1 b = nextW r2 b := by
  have half : ∀ {r1 r2 : List Int → ByteArray × List (List ByteArray)}, Back r2 → ∀ n, valid (r1 (b.take (n - 1))).1 (r1 (b.take (n - 1))).2 = 0 → enc (r1 (b.take (n - 1))).1 (r1 (b.take (n - 1))).2 = b.take n → scan b = some n → nextW r2 b = ((r1 (b.take (n - 1))).1, (r1 (b.take (n - 1))).2, (n : Int), 0) := by
    intro r1 r2 h2 n hv he hs
    have := next_enc h2 hv (b.drop n)
    rw [he, List.take_append_drop] at this
    rw [this]
    have hl := (scan_le b.length b (Nat.le_refl _) n hs).2
    rw [List.length_take, Nat.min_eq_left hl]
  cases hs : scan b with
  | none => unfold nextW; rw [hs]
  | some n =>
    by_cases ha : valid (r1 (b.take (n - 1))).1 (r1 (b.take (n - 1))).2 = 0 ∧ enc (r1 (b.take (n - 1))).1 (r1 (b.take (n - 1))).2 = b.take n
    · rw [half (r1 := r1) h2 n ha.1 ha.2 hs, half (r1 := r1) h1 n ha.1 ha.2 hs]
    · by_cases hc : valid (r2 (b.take (n - 1))).1 (r2 (b.take (n - 1))).2 = 0 ∧ enc (r2 (b.take (n - 1))).1 (r2 (b.take (n - 1))).2 = b.take n
      · rw [half (r1 := r2) h1 n hc.1 hc.2 hs, half (r1 := r2) h2 n hc.1 hc.2 hs]
      · unfold nextW
        rw [hs]
        show (if _ then _ else _) = (if _ then _ else _)
        rw [if_neg ha, if_neg hc]
theorem back_readS : Back readS := fun t x h => read_enc h
theorem isB_take {l : List Int} (h : isB l) (n : Nat) : isB (l.take n) := fun b hb => h b (List.mem_of_mem_take hb)
theorem isB_drop {l : List Int} (h : isB l) (n : Nat) : isB (l.drop n) := fun b hb => h b (List.mem_of_mem_drop hb)
theorem str_data {a b : ByteArray} : a = b ↔ a.data.toList = b.data.toList := ⟨fun h => by rw [h], fun h => by cases a; cases b; congr 1; exact Array.ext' h⟩
theorem str_eq_iff {a b : List Int} (ha : isB a) (hb : isB b) : (strOfNums a).toList = (strOfNums b).toList ↔ a = b := by
  rw [ByteArray.toList_eq, ByteArray.toList_eq, ← str_data]
  exact ⟨str_inj ha hb, fun h => by rw [h]⟩
theorem next_ev (b : List Int) (hb : isB b) (hn : b.length ≤ 4000000000000) : Ev (fun k => segment_Next.f k b) (nextW readS b) := by
  unfold segment_Next.f
  obtain ⟨p, hp, he⟩ := length_ev b (by omega)
  refine ev_bind he ?_
  unfold scanR at hp
  rw [List.drop_zero] at hp
  unfold nextW
  cases hs : scan b with
  | none =>
    rw [hs] at hp
    have hp' : p.2 = false := hp
    rw [hp']
    exact ev_neg (by simp) (Ev.now _)
  | some n =>
    rw [hs] at hp
    have hp' : p = (((0 + n : Nat) : Int), true) := hp
    rw [Nat.zero_add] at hp'
    subst hp'
    have hl := scan_le b.length b (Nat.le_refl _) n hs
    show Ev _ (if _ then _ else _)
    refine ev_pos rfl ?_
    rw [w64 (by omega) (by omega)]
    refine ev_pos (by omega) (ev_pos (by omega) ?_)
    rw [show ((n : Int) - 1).toNat = n - 1 by omega]
    refine ev_bind (read_ev (b.take (n - 1)) (isB_take hb _) (by rw [List.length_take]; omega)) ?_
    have hf := read_fits (b.take (n - 1)) (by rw [List.length_take]; omega)
    refine ev_bind (validate_ev _ _ hf.1 hf.2.1) ?_
    by_cases hv : valid (readS (b.take (n - 1))).1 (readS (b.take (n - 1))).2 = 0
    · refine ev_pos hv (ev_bind (put_ev [] _ _ hf (by have := enc_len hv; simp only [List.length_nil]; omega)) ?_)
      refine ev_pos (by omega) (ev_pos (by omega) ?_)
      rw [List.nil_append, show ((n : Int)).toNat = n by omega]
      by_cases hq : enc (readS (b.take (n - 1))).1 (readS (b.take (n - 1))).2 = b.take n
      · refine ev_eq (ev_pos ((str_eq_iff (isB_enc _ _) (isB_take hb _)).2 hq) (Ev.now _)) ?_
        rw [if_pos ⟨hv, hq⟩]
      · refine ev_eq (ev_neg (fun h => hq ((str_eq_iff (isB_enc _ _) (isB_take hb _)).1 h)) (Ev.now _)) ?_
        rw [if_neg (fun h => hq h.2)]
    · refine ev_eq (ev_neg hv (Ev.now _)) ?_
      rw [if_neg (fun h => hv h.1)]
theorem next_pos {rdS : List Int → ByteArray × List (List ByteArray)} (b : List Int) (h : (nextW rdS b).2.2.2 = 0) : 1 ≤ (nextW rdS b).2.2.1 ∧ (nextW rdS b).2.2.1 ≤ b.length := by
  unfold nextW at h ⊢
  cases hs : scan b with
  | none => rw [hs] at h; cases h
  | some n =>
    rw [hs] at h
    have hl := scan_le b.length b (Nat.le_refl _) n hs
    revert h
    show (if _ then _ else _ : NextT).2.2.2 = 0 → 1 ≤ (if _ then _ else _ : NextT).2.2.1 ∧ (if _ then _ else _ : NextT).2.2.1 ≤ _
    split
    · intro _; exact ⟨by show (1 : Int) ≤ (n : Int); omega, by show (n : Int) ≤ _; omega⟩
    · intro h; cases h
/-- What Decode answers: m: so many rounds at most. -/
def decW (rdS : List Int → ByteArray × List (List ByteArray)) : Nat → List Int → List S24 → Int → List S24 × Int × Int
  | 0, _, acc, a => (acc, a, 0)
  | m + 1, b, acc, a => if b = [] then (acc, a, 0) else if (nextW rdS b).2.2.2 = 0 then decW rdS m (b.drop (nextW rdS b).2.2.1.toNat) (acc ++ [⟨(nextW rdS b).1, (nextW rdS b).2.1⟩]) (a + (nextW rdS b).2.2.1) else ([], a, (nextW rdS b).2.2.2)
theorem dec_same {r1 r2 : List Int → ByteArray × List (List ByteArray)} (h1 : Back r1) (h2 : Back r2) (m : Nat) : ∀ b acc a, decW r1 m b acc a = decW r2 m b acc a := by
  induction m with
  | zero => intro b acc a; rfl
  | succ m ih =>
    intro b acc a
    unfold decW
    rw [next_same h1 h2 b, ih]
theorem dec_enc {rdS : List Int → ByteArray × List (List ByteArray)} (hb : Back rdS) (l : List S24) : errL l = 0 → ∀ m acc a, (encL l).length ≤ m → decW rdS m (encL l) acc a = (acc ++ l, a + ((encL l).length : Int), 0) := by
  induction l with
  | nil =>
    intro _ m acc a _
    show decW rdS m [] acc a = (acc ++ [], a + ((0 : Nat) : Int), 0)
    rw [List.append_nil, show a + ((0 : Nat) : Int) = a by omega]
    cases m with
    | zero => rfl
    | succ m => unfold decW; rw [if_pos rfl]
  | cons s l ih =>
    intro he m acc a hm
    have hv : valid s.f0 s.f1 = 0 := by
      unfold errL at he
      split at he
      · assumption
      · exact he
    have he' : errL l = 0 := by
      unfold errL at he
      rw [if_pos hv] at he
      exact he
    have ec : encL (s :: l) = enc s.f0 s.f1 ++ encL l := by unfold encL; rw [List.flatMap_cons]
    have hpos : 1 ≤ (enc s.f0 s.f1).length := by unfold enc; simp only [List.length_append, List.length_cons]; omega
    rw [ec] at hm ⊢
    rw [List.length_append] at hm
    cases m with
    | zero => omega
    | succ m =>
      unfold decW
      rw [if_neg (by intro c; have := congrArg List.length c; rw [List.length_append, List.length_nil] at this; omega), next_enc hb hv, if_pos rfl]
      show decW rdS m ((enc s.f0 s.f1 ++ encL l).drop ((enc s.f0 s.f1).length : Int).toNat) (acc ++ [s]) (a + ((enc s.f0 s.f1).length : Int)) = _
      have hm' : (encL l).length ≤ m := by omega
      rw [show (((enc s.f0 s.f1).length : Nat) : Int).toNat = (enc s.f0 s.f1).length by omega, List.drop_left' rfl, ih he' m _ _ hm', List.append_assoc, List.length_append]
      refine Prod.ext rfl (Prod.ext ?_ rfl)
      show a + ((enc s.f0 s.f1).length : Int) + ((encL l).length : Int) = a + (((enc s.f0 s.f1).length + (encL l).length : Nat) : Int)
      omega
theorem decode_l (b : List Int) (hb : isB b) (hn : b.length ≤ 2000000000000) (m : Nat) : ∀ (i : Nat) (acc : List S24), i ≤ b.length → b.length ≤ i + m → acc.length ≤ i →
    Ev (fun k => segment_Decode.l0 k b acc (i : Int)) (decW readS m (b.drop i) acc (i : Int)) := by
  induction m with
  | zero =>
    intro i acc h h2 h3
    unfold decW
    exact Ev.step (fun k => by rw [segment_Decode.l0]) (ev_neg (by omega) (Ev.now _))
  | succ m ih =>
    intro i acc h h2 h3
    unfold decW
    by_cases hi : i < b.length
    · rw [if_neg (by intro c; have := congrArg List.length c; rw [List.length_drop] at this; simp at this; omega)]
      refine Ev.step (fun k => by rw [segment_Decode.l0]) (ev_pos (by omega) (ev_pos (by omega) (ev_pos (by omega) ?_)))
      rw [show ((i : Int)).toNat = i by omega]
      refine ev_bind (next_ev (b.drop i) (isB_drop hb _) (by rw [List.length_drop]; omega)) ?_
      refine ev_ite2 (fun he => ?_) (fun he => ?_)
      · rw [if_pos he]
        have hp := next_pos (b.drop i) he
        rw [List.length_drop] at hp
        refine ev_pos (by omega) ?_
        obtain ⟨n, hn'⟩ : ∃ n : Nat, (nextW readS (b.drop i)).2.2.1 = (n : Int) := ⟨(nextW readS (b.drop i)).2.2.1.toNat, by omega⟩
        rw [hn'] at hp ⊢
        rw [w64 (by omega) (by omega), List.drop_drop]
        exact ih (i + n) _ (by omega) (by omega) (by rw [List.length_append, List.length_cons, List.length_nil]; omega)
      · rw [if_neg he]
        exact Ev.now _
    · rw [if_pos (List.drop_of_length_le (by omega))]
      exact Ev.step (fun k => by rw [segment_Decode.l0]) (ev_neg (by omega) (Ev.now _))
theorem decode_ev (b : List Int) (hb : isB b) (hn : b.length ≤ 2000000000000) : Ev (fun k => segment_Decode.f k b) (decW readS b.length b [] 0) := by
  have := decode_l b hb hn b.length 0 [] (by omega) (by omega) (by simp)
  rw [List.drop_zero] at this
  exact this
end Go.Proofs.Ythdahpnjiighfaa.D
namespace Go.Proofs.Ythdahpnjiighfaa.D
set_option linter.unusedVariables false
set_option linter.unusedSimpArgs false
open Go.RowKit Go.Proofs.YthdahpnjiighfaaW.PrintWords Go.Proofs.YthdahpnjiighfaaW.PrintMore Go.Proofs.Ythdahpnjiighfaa.F
/- Equal lists. -/
theorem same_l2 (a b : List S24) (i j : Int) (x y : List ByteArray) (hx : x.length ≤ 9223372036854775807) (hl : x.length = y.length) {r : Bool} (d : Nat) : ∀ m : Nat, m + d = x.length →
    (x.drop m ≠ y.drop m → r = false) → (x.drop m = y.drop m → Ev (fun k => customsref06_SameSegments.l1 k a b i (wrap64 (j + 1))) r) →
    Ev (fun k => customsref06_SameSegments.l2 k a b i j x y (m : Int)) r := by
  induction d with
  | zero =>
    intro m h h1 h2
    refine Ev.step (fun k => by rw [customsref06_SameSegments.l2]) (ev_neg (by omega) (h2 ?_))
    rw [List.drop_of_length_le (by omega), List.drop_of_length_le (by omega)]
  | succ d ih =>
    intro m h h1 h2
    have hm : m < x.length := by omega
    have hm' : m < y.length := by omega
    rw [List.drop_eq_getElem_cons hm, List.drop_eq_getElem_cons hm'] at h1 h2
    refine Ev.step (fun k => by rw [customsref06_SameSegments.l2]) (ev_pos (by omega) (ev_pos (by omega) (ev_pos (by omega) ?_)))
    rw [rdOf_get _ x m hm, rdOf_get _ y m hm', w64 (by omega) (by omega)]
    by_cases he : x[m] = y[m]
    · refine ev_pos (by rw [he]) (ih (m + 1) (by omega) (fun h => h1 (fun c => h (List.cons.inj c).2)) (fun h => h2 (by rw [he, h])))
    · refine ev_neg (fun c => he (by rw [ByteArray.toList_eq, ByteArray.toList_eq, ← str_data] at c; exact c)) ?_
      rw [h1 (fun c => he (List.cons.inj c).1)]
      exact Ev.now _
theorem same_l1 (a b : List S24) (i : Nat) (ha : i < a.length) (hb : i < b.length) (hf : fits a[i].f1) (hl : a[i].f1.length = b[i].f1.length) {r : Bool} (d : Nat) : ∀ m : Nat, m + d = a[i].f1.length →
    (a[i].f1.drop m ≠ b[i].f1.drop m → r = false) → (a[i].f1.drop m = b[i].f1.drop m → Ev (fun k => customsref06_SameSegments.l0 k a b (wrap64 ((i : Int) + 1))) r) →
    Ev (fun k => customsref06_SameSegments.l1 k a b (i : Int) (m : Int)) r := by
  have hf1 := hf.1
  induction d with
  | zero =>
    intro m h h1 h2
    refine Ev.step (fun k => by rw [customsref06_SameSegments.l1]) (ev_pos (by omega) (ev_pos (by omega) ?_))
    rw [rdT24 a i ha]
    refine ev_neg (by omega) (h2 ?_)
    rw [List.drop_of_length_le (by omega), List.drop_of_length_le (by omega)]
  | succ d ih =>
    intro m h h1 h2
    have hm : m < a[i].f1.length := by omega
    have hm' : m < b[i].f1.length := by omega
    have hfm := hf.2.1 _ (List.getElem_mem hm)
    rw [List.drop_eq_getElem_cons hm, List.drop_eq_getElem_cons hm'] at h1 h2
    refine Ev.step (fun k => by rw [customsref06_SameSegments.l1]) (ev_pos (by omega) (ev_pos (by omega) ?_))
    rw [rdT24 a i ha, rdT24 b i hb, rdL1 _ m hm, rdL1 _ m hm']
    refine ev_pos (by omega) (ev_pos (by omega) (ev_pos (by omega) (ev_pos (by omega) ?_)))
    by_cases hq : a[i].f1[m].length = b[i].f1[m].length
    · refine ev_pos (by omega) (same_l2 a b i m a[i].f1[m] b[i].f1[m] hfm hq a[i].f1[m].length 0 (by omega) (fun h => h1 (fun c => h ?_)) (fun h => ?_))
      · rw [(List.cons.inj c).1]
      · rw [w64 (by omega) (by omega)]
        rw [List.drop_zero, List.drop_zero] at h
        exact ih (m + 1) (by omega) (fun g => h1 (fun c => g (List.cons.inj c).2)) (fun g => h2 (by rw [h, g]))
    · refine ev_neg (by omega) ?_
      rw [h1 (fun c => hq (by rw [(List.cons.inj c).1]))]
      exact Ev.now _
theorem s24_ext {s t : S24} (h1 : s.f0 = t.f0) (h2 : s.f1 = t.f1) : s = t := by cases s; cases t; cases h1; cases h2; rfl
theorem same_l0 (a b : List S24) (hf : fitsL a) (ha : a.length ≤ 9223372036854775807) (hl : a.length = b.length) {r : Bool} (d : Nat) : ∀ i : Nat, i + d = a.length →
    (a.drop i ≠ b.drop i → r = false) → (a.drop i = b.drop i → r = true) → Ev (fun k => customsref06_SameSegments.l0 k a b (i : Int)) r := by
  induction d with
  | zero =>
    intro i h h1 h2
    refine Ev.step (fun k => by rw [customsref06_SameSegments.l0]) (ev_neg (by omega) ?_)
    rw [h2 (by rw [List.drop_of_length_le (by omega), List.drop_of_length_le (by omega)])]
    exact Ev.now _
  | succ d ih =>
    intro i h h1 h2
    have hi : i < a.length := by omega
    have hi' : i < b.length := by omega
    have hfi := hf _ (List.getElem_mem hi)
    rw [List.drop_eq_getElem_cons hi, List.drop_eq_getElem_cons hi'] at h1 h2
    refine Ev.step (fun k => by rw [customsref06_SameSegments.l0]) (ev_pos (by omega) (ev_pos (by omega) (ev_pos (by omega) ?_)))
    rw [rdT24 a i hi, rdT24 b i hi']
    by_cases ht : a[i].f0 = b[i].f0
    · refine ev_pos (by rw [ht]) (Ev.step (fun k => by rw [customsref06_SameSegments.j1]) ?_)
      by_cases hq : a[i].f1.length = b[i].f1.length
      · refine ev_neg (by simp only [bne_iff_ne, ne_eq, Decidable.not_not]; omega) ?_
        refine same_l1 a b i hi hi' hfi hq a[i].f1.length 0 (by omega) (fun h => h1 (fun c => h ?_)) (fun h => ?_)
        · rw [(List.cons.inj c).1]
        · rw [List.drop_zero, List.drop_zero] at h
          rw [w64 (by omega) (by omega)]
          exact ih (i + 1) (by omega) (fun g => h1 (fun c => g (List.cons.inj c).2)) (fun g => h2 (by rw [s24_ext ht h, g]))
      · refine ev_pos (by simp only [bne_iff_ne, ne_eq]; omega) ?_
        rw [h1 (fun c => hq (by rw [(List.cons.inj c).1]))]
        exact Ev.now _
    · refine ev_neg (fun c => ht (by rw [ByteArray.toList_eq, ByteArray.toList_eq, ← str_data] at c; exact c)) (Ev.step (fun k => by rw [customsref06_SameSegments.j1]) (ev_pos rfl ?_))
      rw [h1 (fun c => ht (by rw [(List.cons.inj c).1]))]
      exact Ev.now _
theorem same_ev (a b : List S24) (hf : fitsL a) (ha : a.length ≤ 9223372036854775807) : ∃ r, Ev (fun k => customsref06_SameSegments.f k a b) r ∧ (r = true ↔ a = b) := by
  by_cases h : a = b
  · refine ⟨true, ?_, by simpa using h⟩
    unfold customsref06_SameSegments.f
    refine ev_pos (by rw [h]) (same_l0 a b hf ha (by rw [h]) a.length 0 (by omega) (fun c => absurd (by rw [h]) c) (fun _ => rfl))
  · refine ⟨false, ?_, by simpa using h⟩
    unfold customsref06_SameSegments.f
    by_cases hl : a.length = b.length
    · refine ev_pos (by omega) (same_l0 a b hf ha hl a.length 0 (by omega) (fun _ => rfl) (fun c => absurd (by simpa using c) h))
    · exact ev_neg (by omega) (Ev.now _)
theorem same_yes (a : List S24) (hf : fitsL a) (ha : a.length ≤ 9223372036854775807) : Ev (fun k => customsref06_SameSegments.f k a a) true := by
  obtain ⟨r, h, k⟩ := same_ev a a hf ha
  rw [k.2 rfl] at h
  exact h
/- The fixed example. -/
def exL : List S24 := [⟨⟨#[76, 79, 84]⟩, [[⟨#[49]⟩], [], [⟨#[97, 58, 98]⟩, ⟨#[99]⟩]]⟩]
theorem errL_all {l : List S24} (h : errL l = 0) : ∀ s ∈ l, valid s.f0 s.f1 = 0 := by
  induction l with
  | nil => intro s hs; cases hs
  | cons a l ih =>
    intro s hs
    unfold errL at h
    split at h
    · rcases List.mem_cons.1 hs with rfl | hs
      · assumption
      · exact ih h s hs
    · exact absurd h ‹_›
theorem all_errL {l : List S24} (h : ∀ s ∈ l, valid s.f0 s.f1 = 0) : errL l = 0 := by
  induction l with
  | nil => rfl
  | cons a l ih =>
    unfold errL
    rw [if_pos (h a List.mem_cons_self)]
    exact ih (fun s hs => h s (List.mem_cons_of_mem _ hs))
theorem errL_fits {l : List S24} (h : errL l = 0) : fitsL l := fun s hs => valid_fits (errL_all h s hs)
theorem encR_ok {l : List S24} (h : errL l = 0) : encR [] l = (encL l, 0) := by unfold encR; rw [if_pos h, List.nil_append]
theorem isB_encL (l : List S24) : isB (encL l) := fun b hb => by
  unfold encL at hb
  obtain ⟨s, _, h⟩ := List.mem_flatMap.1 hb
  exact isB_enc _ _ b h
theorem encL_len {l : List S24} (h : errL l = 0) : (encL l).length ≤ l.length * 20010104 := by
  induction l with
  | nil => simp [encL]
  | cons a l ih =>
    have hv := errL_all h a List.mem_cons_self
    have := ih (all_errL fun s hs => errL_all h s (List.mem_cons_of_mem _ hs))
    have h2 := enc_len hv
    unfold encL at this ⊢
    rw [List.flatMap_cons, List.length_append, List.length_cons]
    omega
theorem exL_err : errL exL = 0 := by decide +kernel
theorem exL_enc : encL exL = [76, 79, 84, 43, 49, 43, 43, 97, 63, 58, 98, 58, 99, 39] := by decide +kernel
theorem ex_dec : (decW readS 3 [65, 39, 66] [] 0).2 = (0, 4) := by decide +kernel
theorem awake_ev : Ev (fun k => customslaw06_awake.f k) true := by
  unfold customslaw06_awake.f
  refine ev_bind (encode_ev exL (errL_fits exL_err) (by decide)) ?_
  refine ev_bind (decode_ev [65, 39, 66] (fun b hb => by simp at hb; omega) (by decide)) ?_
  rw [encR_ok exL_err, exL_enc]
  show Ev (fun k => if (strOfNums [76, 79, 84, 43, 49, 43, 43, 97, 63, 58, 98, 58, 99, 39]).toList = _ then if (0 : Int) = 0 then if (decW readS 3 [65, 39, 66] [] 0).2.1 = 0 then some ((decW readS 3 [65, 39, 66] [] 0).2.2 == 4) else _ else _ else _) true
  rw [ex_dec]
  refine ev_pos (by rw [ByteArray.toList_eq, strOfNums_data]; rfl) (ev_pos rfl (ev_pos rfl (Ev.now _)))
end Go.Proofs.Ythdahpnjiighfaa.D
