/- The law MoneySumSplit over numbers and lists alone: the sum of two lists of small amounts is the sum of their sums. -/
import Derived.Test.YtheknmeeioajfaaDoorMoneyAwake
import Derived.Test.YtheknmeeioajfaaDoorF18 -- customslaw02_MoneySumSplit
import Derived.Test.YtheknmeeioajfaaDoorF16 -- customslaw02_amounts
import Derived.Test.YtheknmeeioajfaaDoorF1 -- customslaw02_amount
import Derived.Test.YtheknmeeioajfaaDoorF17 -- money_Sum
namespace Go.Proofs.YtheknmeeioajfaaDoor.Pure
set_option linter.unusedVariables false
open Go.RowKit Go.Proofs.YtheknmeeioajfaaDoor.F Go.Proofs.YtheknmeeioajfaaDoor.D Go.Proofs.YtheknmeeioajfaaDoorW.PrintWords Go.Proofs.YtheknmeeioajfaaDoorW.PrintLast Go.Proofs.YtheknmeeioajfaaDoorW.PrintMore
def small (x : Int) : Prop := -1000000 < x ∧ x < 1000000
theorem tmod_small (x : Int) : small (Int.tmod x 1000000) := by
  unfold small
  have h1 := Int.tmod_lt_of_pos x (show (0 : Int) < 1000000 by omega)
  have h2 := Int.lt_tmod_of_pos x (show (0 : Int) < 1000000 by omega)
  omega
theorem amounts_loop (l : List Int) (hl : l.length ≤ 1000) (d : Nat) : ∀ (i : Nat) (m : List Int), i + d = l.length → m.length = l.length → (∀ j, (h : j < m.length) → j < i → small m[j]) →
    ∃ r, Ev (fun k => customslaw02_amounts.l0 k l true m (i : Int)) r ∧ r.length = l.length ∧ ∀ x ∈ r, small x := by
  induction d with
  | zero =>
    intro i m h hm hs
    refine ⟨m, Ev.step (fun k => by rw [customslaw02_amounts.l0]) (ev_neg (by omega) (Ev.now _)), hm, fun x hx => ?_⟩
    obtain ⟨j, hj, rfl⟩ := List.getElem_of_mem hx
    exact hs j hj (by omega)
  | succ d ih =>
    intro i m h hm hs
    generalize hv : Int.tmod (rd l (i : Int)) 1000000000001 = v
    have e : rd (m.set i v) (i : Int) = v := by
      rw [rd_get _ i (by simp; omega)]
      simp
    obtain ⟨r, h1, h2, h3⟩ := ih (i + 1) ((m.set i v).set i (Int.tmod v 1000000)) (by omega) (by simp; omega) (fun j hj hlt => by
      by_cases hji : j = i
      · subst hji; simp; exact tmod_small v
      · simp [Ne.symm hji]
        exact hs j (by simpa using hj) (by omega))
    refine ⟨r, Ev.step (fun k => by rw [customslaw02_amounts.l0]) (ev_pos (by omega) (ev_pos (by omega) ?_)), h2, h3⟩
    rw [show customslaw02_amount.f (rd l (i : Int)) = some v by rw [← hv]; rfl]
    refine ev_let (ev_pos (by omega) (ev_let (ev_pos rfl ?_)))
    rw [Int.toNat_natCast, e, w64 (by omega) (by omega)]
    exact h1
theorem amounts_true (l : List Int) (hl : l.length ≤ 1000) : ∃ r, Ev (fun k => customslaw02_amounts.f k l true) r ∧ r.length = l.length ∧ ∀ x ∈ r, small x := by
  obtain ⟨r, h1, h2, h3⟩ := amounts_loop l hl l.length 0 (List.replicate l.length 0) (by omega) (by simp) (fun j _ h => by omega)
  refine ⟨r, ?_, h2, h3⟩
  unfold customslaw02_amounts.f
  rw [Int.toNat_natCast]
  exact ev_pos (by omega) (ev_pos (by omega) h1)
theorem sum_bound (xs : List Int) (hs : ∀ x ∈ xs, small x) : -(1000000 * xs.length : Int) ≤ xs.sum ∧ xs.sum ≤ 1000000 * xs.length := by
  induction xs with
  | nil => simp
  | cons x r ih =>
    have h1 := hs x (List.mem_cons_self ..)
    have h2 := ih (fun y hy => hs y (List.mem_cons_of_mem _ hy))
    unfold small at h1
    rw [List.sum_cons, List.length_cons]
    omega
theorem sum_loop (xs : List Int) (hn : xs.length ≤ 500) (hs : ∀ x ∈ xs, small x) (d : Nat) : ∀ i : Nat, i + d = xs.length →
    Ev (fun k => money_Sum.l0 k 0 ((xs.take i).sum) xs (xs.length : Int) (i : Int)) (xs.sum, 0) := by
  have hb := sum_bound xs hs
  induction d with
  | zero =>
    intro i h
    rw [List.take_of_length_le (by omega)]
    generalize xs.sum = s at hb
    have h1 := Int.tdiv_mul_add_tmod s 1000000
    have h2 := Int.tmod_lt_of_pos s (show (0 : Int) < 1000000 by omega)
    have h3 := Int.lt_tmod_of_pos s (show (0 : Int) < 1000000 by omega)
    refine Ev.step (fun k => by rw [money_Sum.l0]) (ev_neg (by omega) ?_)
    generalize Int.tdiv s 1000000 = q at h1 ⊢
    generalize Int.tmod s 1000000 = r at h1 h2 h3 ⊢
    have e1 : wrap64 (0 + wrap64 q) = q := by rw [w64 (x := q) (by omega) (by omega), w64 (by omega) (by omega)]; omega
    rw [e1]
    refine ev_neg (by omega) ?_
    rw [decide_eq_false (by omega)]
    have e2 : wrap64 (wrap64 (q * 1000000) + r) = s := by rw [w64 (x := q * 1000000) (by omega) (by omega), w64 (by omega) (by omega)]; omega
    refine Ev.step (fun k => by rw [money_Sum.j1]) (ev_neg (by decide) ?_)
    rw [e2]
    exact ev_bind (amount_ev s) (ev_pos (decide_eq_true (by unfold amt; omega)) (Ev.now _))
  | succ d ih =>
    intro i h
    have hi : i < xs.length := by omega
    have hx := hs xs[i] (List.getElem_mem hi)
    have ht := sum_bound (xs.take i) (fun y hy => hs y (List.mem_of_mem_take hy))
    have hl : (xs.take i).length ≤ 500 := by rw [List.length_take]; omega
    have hn2 := ih (i + 1) (by omega)
    rw [List.take_succ_eq_append_getElem hi, List.sum_append] at hn2
    simp only [List.sum_cons, List.sum_nil] at hn2
    unfold small at hx
    refine Ev.step (fun k => by rw [money_Sum.l0]) (ev_pos (by omega) (ev_pos (by omega) (ev_pos (by omega) ?_)))
    rw [rd_get xs i hi]
    generalize xs[i] = x at hx hn2
    generalize (xs.take i).sum = s at ht hn2
    have e1 : Int.tdiv x 1000000 = 0 := by
      by_cases h : x < 0
      · have : x = -(-x) := by omega
        rw [this, Int.neg_tdiv, Int.tdiv_eq_zero_of_lt (by omega) (by omega)]; rfl
      · exact Int.tdiv_eq_zero_of_lt (by omega) (by omega)
    have e2 : Int.tmod x 1000000 = x := by have := Int.tdiv_mul_add_tmod x 1000000; rw [e1] at this; omega
    rw [e1, e2, w64 (x := 0) (by omega) (by omega), w64 (x := 0 + 0) (by omega) (by omega), w64 (x := s + x) (by omega) (by omega), w64 (x := (i : Int) + 1) (by omega) (by omega)]
    rw [Int.add_zero] at hn2
    exact hn2
theorem sum_small (xs : List Int) (hn : xs.length ≤ 500) (hs : ∀ x ∈ xs, small x) : Ev (fun k => money_Sum.f k xs) (xs.sum, 0) := by
  unfold money_Sum.f
  refine ev_bind (amounts_ev xs (by omega)) (ev_pos (List.all_eq_true.2 fun x hx => decide_eq_true ?_) ?_)
  · have := hs x hx; unfold small at this; unfold amt; omega
  · exact sum_loop xs hn hs xs.length 0 (by omega)
theorem split_tail (t : List Int) (a : Int) (ht : t.length ≤ 500) (hs : ∀ x ∈ t, small x) :
    Ev (fun k => if 0 ≤ (mx 0 (mn a (t.length : Int))) then (if (mx 0 (mn a (t.length : Int))) ≤ (t.length : Int) then ((money_Sum.f k (t.take ((mx 0 (mn a (t.length : Int))) : Int).toNat)).bind fun bt256 => ((money_Sum.f k (t.drop ((mx 0 (mn a (t.length : Int))) : Int).toNat)).bind fun bt262 => ((money_Sum.f k t).bind fun bt264 => (if bt256.2 = 0 then (if bt262.2 = 0 then (if bt264.2 = 0 then (if (wrap64 (bt256.1 + bt262.1)) = bt264.1 then ((customslaw02_awake.f k).bind fun t266 => (some t266)) else (some false)) else (some false)) else (some false)) else (some false))))) else (none)) else (none)) true := by
  have hk : 0 ≤ mx 0 (mn a (t.length : Int)) ∧ mx 0 (mn a (t.length : Int)) ≤ (t.length : Int) := by unfold mx mn; split <;> split at * <;> omega
  generalize mx 0 (mn a (t.length : Int)) = c at hk
  obtain ⟨n, rfl⟩ := Int.eq_ofNat_of_zero_le hk.1
  refine ev_pos hk.1 (ev_pos hk.2 ?_)
  rw [Int.toNat_natCast]
  refine ev_bind (sum_small (t.take n) (by rw [List.length_take]; omega) (fun x hx => hs x (List.mem_of_mem_take hx))) ?_
  refine ev_bind (sum_small (t.drop n) (by rw [List.length_drop]; omega) (fun x hx => hs x (List.mem_of_mem_drop hx))) ?_
  refine ev_bind (sum_small t ht hs) (ev_pos rfl (ev_pos rfl (ev_pos rfl (ev_pos ?_ (ev_bind awake_ev (Ev.now _))))))
  have e : (t.take n).sum + (t.drop n).sum = t.sum := by rw [← List.sum_append, List.take_append_drop]
  have hb := sum_bound t hs
  rw [e, w64 (by omega) (by omega)]
theorem MoneySumSplit : customslaw02_MoneySumSplit.Pure := by
  intro l a _ _ _ _
  refine Ev.rounds (g := fun k => customslaw02_MoneySumSplit.f k l a) ?_
  unfold customslaw02_MoneySumSplit.f
  refine ev_ite (fun h => ev_pos (by omega) ?_) (fun h => ?_)
  · obtain ⟨r, h1, h2, h3⟩ := amounts_true (l.take 500) (by rw [List.length_take]; omega)
    exact ev_bind h1 (split_tail r a (by rw [h2, List.length_take]; omega) h3)
  · obtain ⟨r, h1, h2, h3⟩ := amounts_true l (by omega)
    exact ev_bind h1 (split_tail r a (by rw [h2]; omega) h3)
end Go.Proofs.YtheknmeeioajfaaDoor.Pure
