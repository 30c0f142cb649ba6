/- Decimal digits as plain lists: what they spell, and that strconv.Atoi (as the guide's plain function) reads what strconv.Itoa (likewise) writes. -/
import Derived.Lib.AtoiAllCases
import Derived.Lib.ItoaNum
import Derived.Laws.BytesArg
import Derived.Laws.Strings
namespace Go.Proofs.YtheknmeeioajfaaDoor.D
open Go.Lib
def val (acc : Nat) (l : List UInt8) : Nat := l.foldl (fun a c => a * 10 + (c.toNat - 48)) acc
def digs (l : List UInt8) : Prop := ∀ c ∈ l, 48 ≤ c.toNat ∧ c.toNat ≤ 57
theorem digs_nil : digs [] := fun _ h => by cases h
theorem digs_cons {c : UInt8} {l : List UInt8} (h1 : 48 ≤ c.toNat ∧ c.toNat ≤ 57) (h : digs l) : digs (c :: l) := fun x hx => by
  rcases List.mem_cons.1 hx with rfl | hx
  · exact h1
  · exact h x hx
theorem digs_append {l m : List UInt8} (h : digs l) (k : digs m) : digs (l ++ m) := fun x hx => by
  rcases List.mem_append.1 hx with hx | hx
  · exact h x hx
  · exact k x hx
theorem val_nil (acc : Nat) : val acc [] = acc := by unfold val; rw [List.foldl_nil]
theorem val_cons (acc : Nat) (c : UInt8) (r : List UInt8) : val acc (c :: r) = val (acc * 10 + (c.toNat - 48)) r := by unfold val; rw [List.foldl_cons]
theorem val_append (l m : List UInt8) (acc : Nat) : val acc (l ++ m) = val (val acc l) m := by unfold val; rw [List.foldl_append]
theorem val_ge (l : List UInt8) : ∀ acc, acc ≤ val acc l := by
  induction l with
  | nil => intro acc; rw [val_nil]; exact Nat.le_refl _
  | cons c r ih => intro acc; have := ih (acc * 10 + (c.toNat - 48)); rw [val_cons]; omega
theorem parse_val (l : List UInt8) : ∀ acc, digs l → val acc l < 18446744073709551616 → parseUint10 acc l = .ok (val acc l) := by
  induction l with
  | nil => intro acc _ _; rw [val_nil]; rfl
  | cons c r ih =>
    intro acc hd hv
    rw [val_cons] at hv ⊢
    have hc := hd c (List.mem_cons_self ..)
    have hg := val_ge r (acc * 10 + (c.toNat - 48))
    unfold parseUint10
    rw [if_pos hc, if_neg (by omega), if_neg (by omega)]
    exact ih _ (fun x hx => hd x (List.mem_cons_of_mem _ hx)) hv
theorem toNat_dig (n : Nat) (h : n < 10) : (UInt8.ofNat (48 + n)).toNat = 48 + n := by
  rw [UInt8.toNat_ofNat']; omega
theorem dec_small {u : Nat} (h : u < 10) : decDigits u = [UInt8.ofNat (48 + u)] := decDigits_one h
theorem dec_big {u : Nat} (h : ¬ u < 10) : decDigits u = decDigits (u / 10) ++ [UInt8.ofNat (48 + u % 10)] := by rw [decDigits, dif_neg h]
theorem digs_dec (u : Nat) : digs (decDigits u) := by
  induction u using Nat.strongRecOn with
  | _ u ih =>
    by_cases h : u < 10
    · rw [dec_small h]; exact digs_cons (by rw [toNat_dig u h]; omega) digs_nil
    · rw [dec_big h]
      exact digs_append (ih (u / 10) (by omega)) (digs_cons (by rw [toNat_dig _ (by omega)]; omega) digs_nil)
theorem val_dec (u : Nat) : val 0 (decDigits u) = u := by
  induction u using Nat.strongRecOn with
  | _ u ih =>
    by_cases h : u < 10
    · rw [dec_small h, val_cons, val_nil, toNat_dig u h]; omega
    · have e := ih (u / 10) (by omega)
      rw [dec_big h, val_append, e, val_cons, val_nil, toNat_dig _ (show u % 10 < 10 by omega)]; omega
theorem dec_ne (u : Nat) : decDigits u ≠ [] := by
  intro h
  have := decDigits_length u
  rw [h] at this
  have h1 := nDigits_pos u
  simp at this
  omega
theorem dec_len_le (u k : Nat) (hk : 1 ≤ k) (h : u < 10 ^ k) : (decDigits u).length ≤ k := by
  induction k generalizing u with
  | zero => omega
  | succ k ih =>
    by_cases h1 : u < 10
    · rw [dec_small h1]; simp
    · rw [dec_big h1]
      have hk1 : 1 ≤ k := by
        rcases Nat.eq_zero_or_pos k with rfl | h2
        · simp at h; omega
        · exact h2
      have := ih (u / 10) hk1 (by rw [Nat.pow_succ] at h; omega)
      simp; omega
theorem atoi_pos (l : List UInt8) (hd : digs l) (hn : l ≠ []) (hv : val 0 l < 9223372036854775808) : atoiAll l = .ok (val 0 l : Int) := by
  cases l with
  | nil => exact absurd rfl hn
  | cons c r =>
    have hc := hd c (List.mem_cons_self ..)
    rw [atoiAll_plain c r (by omega) (by omega)]
    unfold parseMag
    rw [if_neg hn, parse_val _ 0 hd (by omega)]
    unfold signless
    simp; omega
theorem atoi_neg (l : List UInt8) (hd : digs l) (hn : l ≠ []) (hv : val 0 l ≤ 9223372036854775808) : atoiAll (45 :: l) = .ok (-(val 0 l : Int)) := by
  rw [atoiAll_minus]
  unfold parseMag
  rw [if_neg hn, parse_val _ 0 hd (by omega)]
  unfold signed
  simp; omega
theorem atoi_itoa (n : Int) (h0 : -9223372036854775808 ≤ n) (h1 : n ≤ 9223372036854775807) : atoiAll (itoa n) = .ok n := by
  unfold itoa
  split
  · rw [atoi_neg _ (digs_dec _) (dec_ne _) (by rw [val_dec]; omega), val_dec]
    congr 1; omega
  · rw [atoi_pos _ (digs_dec _) (dec_ne _) (by rw [val_dec]; omega), val_dec]
    congr 1; omega
theorem str_ext {a b : ByteArray} (h : a.data.toList = b.data.toList) : a = b := by
  cases a; cases b; simp at h; simp [h]
theorem str_list (a b : ByteArray) : a.toList = b.toList ↔ a = b := by
  rw [ByteArray.toList_eq, ByteArray.toList_eq]
  exact ⟨str_ext, fun h => by rw [h]⟩
theorem data_size (a : ByteArray) : a.data.toList.length = a.size := by rw [Array.length_toList]; rfl
end Go.Proofs.YtheknmeeioajfaaDoor.D
