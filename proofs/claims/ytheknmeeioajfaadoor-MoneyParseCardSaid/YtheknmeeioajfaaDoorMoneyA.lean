/- Layer 2 in plain words: which numbers are amounts, and how an amount is written (the program's Format and the reference's). -/
import Derived.Test.YtheknmeeioajfaaDoorEv
import Derived.Test.YtheknmeeioajfaaDoorDec
import Derived.Test.YtheknmeeioajfaaDoorF1 -- money_amounts
import Derived.Test.YtheknmeeioajfaaDoorF9 -- money_Format
import Derived.Test.YtheknmeeioajfaaDoorF13 -- customsref02_Format
import Derived.Test.YtheknmeeioajfaaDoorF4 -- customsref02_Amount
namespace Go.Proofs.YtheknmeeioajfaaDoor.D
set_option linter.unusedVariables false
open Go.RowKit Go.Proofs.YtheknmeeioajfaaDoorW.PrintWords Go.Proofs.YtheknmeeioajfaaDoorW.PrintMore Go.Proofs.YtheknmeeioajfaaDoor.F Go.Lib
def amt (x : Int) : Prop := -1000000000000 ≤ x ∧ x ≤ 1000000000000
instance (x : Int) : Decidable (amt x) := by unfold amt; infer_instance
theorem rd_get (xs : List Int) (i : Nat) (h : i < xs.length) : rd xs (i : Int) = xs[i] := by
  unfold rd; simp [h]
theorem amounts_l (xs : List Int) (hn : xs.length ≤ 9223372036854775807) (d : Nat) : ∀ i : Nat, i + d = xs.length →
    Ev (fun k => money_amounts.l0 k xs (xs.length : Int) (i : Int)) ((xs.drop i).all fun x => decide (amt x)) := by
  induction d with
  | zero =>
    intro i h
    refine Ev.step (fun k => by rw [money_amounts.l0]) (ev_neg (by omega) ?_)
    rw [List.drop_of_length_le (by omega)]
    exact Ev.now true
  | succ d ih =>
    intro i h
    have hi : i < xs.length := by omega
    refine Ev.step (fun k => by rw [money_amounts.l0]) (ev_pos (by omega) (ev_pos (by omega) (ev_pos (by omega) ?_)))
    rw [rd_get xs i hi, List.drop_eq_getElem_cons hi, List.all_cons]
    by_cases ha : amt xs[i]
    · have ha' := ha
      unfold amt at ha'
      refine ev_neg (by omega) (ev_neg (by omega) ?_)
      rw [w64 (by omega) (by omega), decide_eq_true ha, Bool.true_and]
      exact ih (i + 1) (by omega)
    · have ha' := ha
      unfold amt at ha'
      rw [decide_eq_false ha, Bool.false_and]
      exact ev_ite (fun _ => Ev.now _) (fun h1 => ev_pos (by omega) (Ev.now _))
theorem amounts_ev (xs : List Int) (hn : xs.length ≤ 9223372036854775807) : Ev (fun k => money_amounts.f k xs) (xs.all fun x => decide (amt x)) := by
  have h := amounts_l xs hn xs.length 0 (by omega)
  unfold money_amounts.f
  rw [List.drop_zero] at h
  exact h
theorem amount_ev (x : Int) : Ev (fun k => money_amounts.f k [x]) (decide (amt x)) := by
  have h := amounts_ev [x] (by simp)
  simpa using h
/-- The digits of an amount that is not negative. -/
def fmtL (n : Nat) : List UInt8 := decDigits (n / 100) ++ [46, UInt8.ofNat (48 + n / 10 % 10), UInt8.ofNat (48 + n % 10)]
def fmt (x : Int) : List UInt8 := if x < 0 then 45 :: fmtL x.natAbs else fmtL x.toNat
def fmtB (x : Int) : ByteArray := if amt x then ⟨(fmt x).toArray⟩ else ⟨#[]⟩
theorem itoa_f {n : Int} (h0 : -9223372036854775808 ≤ n) (h1 : n ≤ 9223372036854775807) : strconv_Itoa.f n = some ⟨(itoa n).toArray⟩ := by
  unfold strconv_Itoa.f
  rw [if_pos ⟨h0, h1⟩]
theorem itoa_nat (n : Nat) : itoa (n : Int) = decDigits n := by
  unfold itoa
  rw [if_neg (by omega)]
  rfl
theorem dec_three (r : Nat) (h : r < 100) : decDigits (100 + r) = [49, UInt8.ofNat (48 + r / 10), UInt8.ofNat (48 + r % 10)] := by
  rw [dec_big (by omega), dec_big (by omega), dec_small (by omega)]
  have e1 : (100 + r) / 10 / 10 = 1 := by omega
  have e2 : (100 + r) / 10 % 10 = r / 10 := by omega
  have e3 : (100 + r) % 10 = r % 10 := by omega
  rw [e1, e2, e3]
  rfl
theorem size_mk (l : List UInt8) : (⟨l.toArray⟩ : ByteArray).size = l.length := by
  show l.toArray.size = l.length
  simp
theorem mk_append (l m : List UInt8) : (⟨l.toArray⟩ : ByteArray) ++ ⟨m.toArray⟩ = ⟨(l ++ m).toArray⟩ := by
  apply str_ext
  simp
theorem mk_extract (l : List UInt8) (i j : Nat) : (⟨l.toArray⟩ : ByteArray).extract i j = ⟨((l.take j).drop i).toArray⟩ := by
  apply str_ext
  simp [List.drop_take]
theorem dec_len_20 (n : Nat) (h : n < 18446744073709551616) : (decDigits n).length ≤ 20 := dec_len_le n 20 (by omega) (Nat.lt_trans h (by decide))
theorem fmtL_ev (n : Nat) (h : n ≤ 1000000000000) (pre : List UInt8) (hp : pre.length ≤ 1) :
    (⟨pre.toArray⟩ : ByteArray) ++ ⟨(itoa ((n : Int) / 100)).toArray⟩ ++ ⟨#[46]⟩ ++ (⟨(itoa (100 + (n : Int) % 100)).toArray⟩ : ByteArray).extract 1 (⟨(itoa (100 + (n : Int) % 100)).toArray⟩ : ByteArray).size = ⟨(pre ++ fmtL n).toArray⟩ := by
  have e1 : ((n : Int) / 100) = ((n / 100 : Nat) : Int) := by omega
  have e2 : (100 + (n : Int) % 100) = ((100 + n % 100 : Nat) : Int) := by omega
  rw [e1, e2, itoa_nat, itoa_nat, dec_three _ (by omega), mk_append, show (⟨#[46]⟩ : ByteArray) = ⟨[46].toArray⟩ from rfl, mk_append, mk_extract, mk_append]
  unfold fmtL
  have e3 : n % 100 / 10 = n / 10 % 10 := by omega
  have e4 : n % 100 % 10 = n % 10 := by omega
  rw [size_mk, e3, e4]
  simp
theorem format_ev (x : Int) : Ev (fun k => money_Format.f k x) (fmtB x) := by
  unfold money_Format.f fmtB
  refine ev_bind (amount_ev x) ?_
  by_cases h : amt x
  · rw [if_pos h]
    refine ev_pos (decide_eq_true h) ?_
    unfold amt at h
    have s1 : ∀ n : Nat, n ≤ 1000000000000 → (itoa ((n : Int) / 100)).length ≤ 20 ∧ (itoa (100 + (n : Int) % 100)).length = 3 := fun n hn => by
      have e1 : ((n : Int) / 100) = ((n / 100 : Nat) : Int) := by omega
      have e2 : (100 + (n : Int) % 100) = ((100 + n % 100 : Nat) : Int) := by omega
      rw [e1, e2, itoa_nat, itoa_nat, dec_three _ (by omega)]
      exact ⟨dec_len_20 _ (by omega), rfl⟩
    by_cases hx : x < 0
    · refine ev_pos hx ?_
      obtain ⟨n, hn⟩ : ∃ n : Nat, -x = n := ⟨(-x).toNat, by omega⟩
      have hs := s1 n (by omega)
      have hw : wrap64 (-x) = (n : Int) := by rw [w64 (by omega) (by omega), hn]
      rw [hw, tmod_pos (by omega), tdiv_pos (by omega), w64 (by omega) (by omega), w64 (by omega) (by omega), itoa_f (by omega) (by omega), itoa_f (by omega) (by omega)]
      refine ev_let (ev_let ?_)
      rw [size_mk, size_mk]
      refine ev_pos (by omega) (ev_pos (by omega) (ev_pos (by omega) (ev_pos (by omega) ?_)))
      refine ev_eq (Ev.now _) ?_
      have := fmtL_ev n (by omega) [45] (by simp)
      rw [size_mk] at this
      rw [show (⟨#[45]⟩ : ByteArray) = ⟨[45].toArray⟩ from rfl, this]
      unfold fmt
      rw [if_pos hx, show x.natAbs = n by omega]
      rfl
    · refine ev_neg hx ?_
      obtain ⟨n, rfl⟩ := Int.eq_ofNat_of_zero_le (show 0 ≤ x by omega)
      have hs := s1 n (by omega)
      rw [tmod_pos (by omega), tdiv_pos (by omega), w64 (by omega) (by omega), w64 (by omega) (by omega), itoa_f (by omega) (by omega), itoa_f (by omega) (by omega)]
      refine ev_let (ev_let ?_)
      rw [size_mk, size_mk]
      refine ev_pos (by omega) (ev_pos (by omega) (ev_pos (by omega) (ev_pos (by omega) ?_)))
      refine ev_eq (Ev.now _) ?_
      have := fmtL_ev n (by omega) [] (by simp)
      rw [size_mk] at this
      rw [show (⟨#[]⟩ : ByteArray) = ⟨[].toArray⟩ from rfl, this]
      unfold fmt
      rw [if_neg hx]
      rfl
  · rw [if_neg h]
    exact ev_neg (by simp [h]) (Ev.now _)
/-! ### the reference -/
theorem dig_str (m : Nat) (h : m < 10) : strOfNums [(48 + (m : Int)) % 256] = ⟨[UInt8.ofNat (48 + m)].toArray⟩ := by
  unfold strOfNums
  rw [show ((48 + (m : Int)) % 256) = ((48 + m : Nat) : Int) by omega]
  rfl
theorem digits_l (d : Nat) : ∀ (n : Nat) (t : List UInt8), n < 10 ^ d → n < 9223372036854775808 → t.length + d ≤ 100 →
    Ev (fun k => customsref02_Digits.l0 k (n : Int) ⟨t.toArray⟩) ⟨(decDigits n ++ t).toArray⟩ := by
  induction d with
  | zero =>
    intro n t h _ ht
    obtain rfl : n = 0 := by simp at h; omega
    refine Ev.step (fun k => by rw [customsref02_Digits.l0]) (ev_let ?_)
    rw [strOfNums_size, size_mk, tmod_pos (by omega), tdiv_pos (by omega), w64 (by omega) (by omega), w64 (by omega) (by omega)]
    refine ev_pos (by simp; omega) (ev_pos (by omega) (ev_eq (Ev.now _) ?_))
    rw [show (48 + ((0 : Nat) : Int) % 10) = 48 + ((0 : Nat) : Int) by omega, dig_str 0 (by omega), mk_append, dec_small (by omega)]
  | succ d ih =>
    intro n t h hn ht
    refine Ev.step (fun k => by rw [customsref02_Digits.l0]) (ev_let ?_)
    rw [strOfNums_size, size_mk, tmod_pos (by omega), tdiv_pos (by omega), w64 (by omega) (by omega), w64 (by omega) (by omega)]
    rw [show ((n : Int) % 10) = ((n % 10 : Nat) : Int) by omega, dig_str _ (by omega), mk_append]
    refine ev_pos (by simp; omega) ?_
    by_cases hs : n < 10
    · refine ev_pos (by omega) (ev_eq (Ev.now _) ?_)
      rw [dec_small hs, show n % 10 = n by omega]
    · refine ev_neg (by omega) ?_
      rw [show ((n : Int) / 10) = ((n / 10 : Nat) : Int) by omega, dec_big hs, List.append_assoc]
      rw [Nat.pow_succ] at h
      exact ih (n / 10) _ (by omega) (by omega) (by simp; omega)
theorem digits_ev (n : Nat) (h : n < 9223372036854775808) : Ev (fun k => customsref02_Digits.f k (n : Int)) ⟨(decDigits n).toArray⟩ := by
  have e := digits_l 19 n [] (Nat.lt_trans h (by decide)) h (by simp)
  rw [List.append_nil] at e
  exact e
theorem amount_ref (x : Int) : customsref02_Amount.f x = some (decide (amt x)) := by
  unfold customsref02_Amount.f
  by_cases h : amt x
  · rw [decide_eq_true h]
    unfold amt at h
    rw [if_pos (by omega)]
    simp; omega
  · rw [decide_eq_false h]
    unfold amt at h
    by_cases h1 : x ≥ -1000000000000
    · rw [if_pos h1]; simp; omega
    · rw [if_neg h1]
theorem refFormat_pos (n : Nat) (h : n ≤ 1000000000000) : Ev (fun k => customsref02_Format.f k (n : Int)) ⟨(fmtL n).toArray⟩ := by
  refine Ev.step (fun k => by rw [customsref02_Format.f]) ?_
  rw [amount_ref]
  refine ev_let (ev_pos (by unfold amt; simp; omega) (ev_neg (by omega) ?_))
  have s1 : ∀ m : Nat, m < 10 → (decDigits m).length = 1 := fun m hm => by rw [dec_small hm]; rfl
  have s2 : (decDigits (n / 100)).length ≤ 20 := dec_len_20 _ (by omega)
  have t1 : wrap64 (Int.tdiv (n : Int) 100) = ((n / 100 : Nat) : Int) := by rw [tdiv_pos (by omega), w64 (by omega) (by omega)]; omega
  have t2 : Int.tmod (wrap64 (Int.tdiv (n : Int) 10)) 10 = ((n / 10 % 10 : Nat) : Int) := by rw [tdiv_pos (by omega), w64 (by omega) (by omega), tmod_pos (by omega)]; omega
  have t3 : Int.tmod (n : Int) 10 = ((n % 10 : Nat) : Int) := by rw [tmod_pos (by omega)]; omega
  rw [t1, t2, t3]
  refine ev_bind (digits_ev _ (by omega)) ?_
  rw [size_mk]
  refine ev_pos (by omega) (ev_bind (digits_ev _ (by omega)) ?_)
  rw [size_mk, s1 (n / 10 % 10) (by omega)]
  refine ev_pos (by omega) (ev_bind (digits_ev _ (by omega)) ?_)
  rw [size_mk, s1 (n % 10) (by omega)]
  refine ev_pos (by omega) (ev_eq (Ev.now _) ?_)
  rw [show (⟨#[46]⟩ : ByteArray) = ⟨[46].toArray⟩ from rfl, mk_append, mk_append, mk_append, dec_small (show n / 10 % 10 < 10 by omega), dec_small (show n % 10 < 10 by omega)]
  unfold fmtL
  simp
theorem fmtL_len (n : Nat) (h : n ≤ 1000000000000) : 4 ≤ (fmtL n).length ∧ (fmtL n).length ≤ 14 := by
  unfold fmtL
  have h1 := dec_len_le (n / 100) 11 (by omega) (by omega)
  have h2 : 1 ≤ (decDigits (n / 100)).length := by
    rcases Nat.eq_zero_or_pos (decDigits (n / 100)).length with h | h
    · exact absurd (List.length_eq_zero_iff.1 h) (dec_ne _)
    · exact h
  simp; omega
theorem refFormat_ev (x : Int) : Ev (fun k => customsref02_Format.f k x) (fmtB x) := by
  unfold fmtB
  by_cases h : amt x
  · rw [if_pos h]
    have h' := h
    unfold amt at h'
    unfold fmt
    by_cases hx : x < 0
    · rw [if_pos hx]
      refine Ev.step (fun k => by rw [customsref02_Format.f]) ?_
      rw [amount_ref]
      refine ev_let (ev_pos (by simp [h]) (ev_pos hx ?_))
      rw [w64 (by omega) (by omega), show -x = ((x.natAbs : Nat) : Int) by omega]
      refine ev_bind (refFormat_pos _ (by omega)) ?_
      have := fmtL_len x.natAbs (by omega)
      rw [size_mk]
      refine ev_pos (by omega) (ev_eq (Ev.now _) ?_)
      rw [show (⟨#[45]⟩ : ByteArray) = ⟨[45].toArray⟩ from rfl, mk_append]
      rfl
    · rw [if_neg hx]
      have e := refFormat_pos x.toNat (by omega)
      rw [show ((x.toNat : Nat) : Int) = x by omega] at e
      exact e
  · rw [if_neg h]
    refine Ev.step (fun k => by rw [customsref02_Format.f]) ?_
    rw [amount_ref]
    exact ev_let (ev_neg (by simp [h]) (Ev.now _))
end Go.Proofs.YtheknmeeioajfaaDoor.D
