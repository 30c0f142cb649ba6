/- Part 11 of the proof of the law DutyEvaluate (its walk through the code, and the plain laws over numbers and texts). Conditions: none. -/
import Derived.Test.YtfpkgdkcllobiaaDoorZDutyEvaluate10
import Derived.Lib.AtoiAllCases
import Derived.Laws.Strings
section
namespace Go.Proofs.YtfpkgdkcllobiaaDoor.D
open Go.Lib
def val (acc : Nat) (l : List UInt8) : Nat := l.foldl (fun a c => a * 10 + (c.toNat - 48)) acc
def digs (l : List UInt8) : Prop := ∀ c ∈ l, 48 ≤ c.toNat ∧ c.toNat ≤ 57
theorem digs_nil : digs [] := fun _ h => by cases h
theorem digs_cons {c : UInt8} {l : List UInt8} (h1 : 48 ≤ c.toNat ∧ c.toNat ≤ 57) (h : digs l) : digs (c :: l) := fun x hx => by
  rcases List.mem_cons.1 hx with rfl | hx
  · exact h1
  · exact h x hx
theorem digs_append {l m : List UInt8} (h : digs l) (k : digs m) : digs (l ++ m) := fun x hx => by
  rcases List.mem_append.1 hx with hx | hx
  · exact h x hx
  · exact k x hx
theorem val_nil (acc : Nat) : val acc [] = acc := by unfold val; rw [List.foldl_nil]
theorem val_cons (acc : Nat) (c : UInt8) (r : List UInt8) : val acc (c :: r) = val (acc * 10 + (c.toNat - 48)) r := by unfold val; rw [List.foldl_cons]
theorem val_append (l m : List UInt8) (acc : Nat) : val acc (l ++ m) = val (val acc l) m := by unfold val; rw [List.foldl_append]
theorem val_ge (l : List UInt8) : ∀ acc, acc ≤ val acc l := by
  induction l with
  | nil => intro acc; rw [val_nil]; exact Nat.le_refl _
  | cons c r ih => intro acc; have := ih (acc * 10 + (c.toNat - 48)); rw [val_cons]; omega
theorem parse_val (l : List UInt8) : ∀ acc, digs l → val acc l < 18446744073709551616 → parseUint10 acc l = .ok (val acc l) := by
  induction l with
  | nil => intro acc _ _; rw [val_nil]; rfl
  | cons c r ih =>
    intro acc hd hv
    rw [val_cons] at hv ⊢
    have hc := hd c (List.mem_cons_self ..)
    have hg := val_ge r (acc * 10 + (c.toNat - 48))
    unfold parseUint10
    rw [if_pos hc, if_neg (by omega), if_neg (by omega)]
    exact ih _ (fun x hx => hd x (List.mem_cons_of_mem _ hx)) hv
theorem toNat_dig (n : Nat) (h : n < 10) : (UInt8.ofNat (48 + n)).toNat = 48 + n := by
  rw [UInt8.toNat_ofNat']; omega
theorem dec_small {u : Nat} (h : u < 10) : decDigits u = [UInt8.ofNat (48 + u)] := decDigits_one h
theorem dec_big {u : Nat} (h : ¬ u < 10) : decDigits u = decDigits (u / 10) ++ [UInt8.ofNat (48 + u % 10)] := by rw [decDigits, dif_neg h]
theorem digs_dec (u : Nat) : digs (decDigits u) := by
  induction u using Nat.strongRecOn with
  | _ u ih =>
    by_cases h : u < 10
    · rw [dec_small h]; exact digs_cons (by rw [toNat_dig u h]; omega) digs_nil
    · rw [dec_big h]
      exact digs_append (ih (u / 10) (by omega)) (digs_cons (by rw [toNat_dig _ (by omega)]; omega) digs_nil)
theorem val_dec (u : Nat) : val 0 (decDigits u) = u := by
  induction u using Nat.strongRecOn with
  | _ u ih =>
    by_cases h : u < 10
    · rw [dec_small h, val_cons, val_nil, toNat_dig u h]; omega
    · have e := ih (u / 10) (by omega)
      rw [dec_big h, val_append, e, val_cons, val_nil, toNat_dig _ (show u % 10 < 10 by omega)]; omega
theorem dec_ne (u : Nat) : decDigits u ≠ [] := by
  intro h
  have := decDigits_length u
  rw [h] at this
  have h1 := nDigits_pos u
  simp at this
  omega
theorem dec_len_le (u k : Nat) (hk : 1 ≤ k) (h : u < 10 ^ k) : (decDigits u).length ≤ k := by
  induction k generalizing u with
  | zero => omega
  | succ k ih =>
    by_cases h1 : u < 10
    · rw [dec_small h1]; simp
    · rw [dec_big h1]
      have hk1 : 1 ≤ k := by
        rcases Nat.eq_zero_or_pos k with rfl | h2
        · simp at h; omega
        · exact h2
      have := ih (u / 10) hk1 (by rw [Nat.pow_succ] at h; omega)
      simp; omega
theorem atoi_pos (l : List UInt8) (hd : digs l) (hn : l ≠ []) (hv : val 0 l < 9223372036854775808) : atoiAll l = .ok (val 0 l : Int) := by
  cases l with
  | nil => exact absurd rfl hn
  | cons c r =>
    have hc := hd c (List.mem_cons_self ..)
    rw [atoiAll_plain c r (by omega) (by omega)]
    unfold parseMag
    rw [if_neg hn, parse_val _ 0 hd (by omega)]
    unfold signless
    simp; omega
theorem atoi_neg (l : List UInt8) (hd : digs l) (hn : l ≠ []) (hv : val 0 l ≤ 9223372036854775808) : atoiAll (45 :: l) = .ok (-(val 0 l : Int)) := by
  rw [atoiAll_minus]
  unfold parseMag
  rw [if_neg hn, parse_val _ 0 hd (by omega)]
  unfold signed
  simp; omega
theorem str_ext {a b : ByteArray} (h : a.data.toList = b.data.toList) : a = b := by
  cases a; cases b; simp at h; simp [h]
theorem str_list (a b : ByteArray) : a.toList = b.toList ↔ a = b := by
  rw [ByteArray.toList_eq, ByteArray.toList_eq]
  exact ⟨str_ext, fun h => by rw [h]⟩
theorem data_size (a : ByteArray) : a.data.toList.length = a.size := by rw [Array.length_toList]; rfl
end Go.Proofs.YtfpkgdkcllobiaaDoor.D
end
section
namespace Go.Proofs.YtfpkgdkcllobiaaDoor.D
set_option linter.unusedVariables false
set_option linter.unusedSimpArgs false
open Go.RowKit Go.Proofs.YtfpkgdkcllobiaaDoorW.PrintWords Go.Proofs.YtfpkgdkcllobiaaDoorW.PrintMore Go.Proofs.YtfpkgdkcllobiaaDoor.F Go.Lib
def amt (x : Int) : Prop := -1000000000000 ≤ x ∧ x ≤ 1000000000000
instance (x : Int) : Decidable (amt x) := by unfold amt; infer_instance
theorem rd_get (xs : List Int) (i : Nat) (h : i < xs.length) : rd xs (i : Int) = xs[i] := by
  unfold rd; simp [h]
theorem amounts_l (xs : List Int) (hn : xs.length ≤ 9223372036854775807) (d : Nat) : ∀ i : Nat, i + d = xs.length →
    Ev (fun k => money_amounts.l0 k xs (xs.length : Int) (i : Int)) ((xs.drop i).all fun x => decide (amt x)) := by
  induction d with
  | zero =>
    intro i h
    refine Ev.step (fun k => by rw [money_amounts.l0]) (ev_neg (by omega) ?_)
    rw [List.drop_of_length_le (by omega)]
    exact Ev.now true
  | succ d ih =>
    intro i h
    have hi : i < xs.length := by omega
    refine Ev.step (fun k => by rw [money_amounts.l0]) (ev_pos (by omega) (ev_pos (by omega) (ev_pos (by omega) ?_)))
    rw [rd_get xs i hi, List.drop_eq_getElem_cons hi, List.all_cons]
    by_cases ha : amt xs[i]
    · have ha' := ha
      unfold amt at ha'
      refine ev_neg (by omega) (ev_neg (by omega) ?_)
      rw [w64 (by omega) (by omega), decide_eq_true ha, Bool.true_and]
      exact ih (i + 1) (by omega)
    · have ha' := ha
      unfold amt at ha'
      rw [decide_eq_false ha, Bool.false_and]
      exact ev_ite (fun _ => Ev.now _) (fun h1 => ev_pos (by omega) (Ev.now _))
theorem amounts_ev (xs : List Int) (hn : xs.length ≤ 9223372036854775807) : Ev (fun k => money_amounts.f k xs) (xs.all fun x => decide (amt x)) := by
  have h := amounts_l xs hn xs.length 0 (by omega)
  unfold money_amounts.f
  rw [List.drop_zero] at h
  exact h
theorem amount_ev (x : Int) : Ev (fun k => money_amounts.f k [x]) (decide (amt x)) := by
  have h := amounts_ev [x] (by simp)
  simpa using h
def fmtL (n : Nat) : List UInt8 := decDigits (n / 100) ++ [46, UInt8.ofNat (48 + n / 10 % 10), UInt8.ofNat (48 + n % 10)]
def fmt (x : Int) : List UInt8 := if x < 0 then 45 :: fmtL x.natAbs else fmtL x.toNat
def fmtB (x : Int) : ByteArray := if amt x then ⟨(fmt x).toArray⟩ else ⟨#[]⟩
theorem itoa_f {n : Int} (h0 : -9223372036854775808 ≤ n) (h1 : n ≤ 9223372036854775807) : strconv_Itoa.f n = some ⟨(itoa n).toArray⟩ := by
  unfold strconv_Itoa.f
  rw [if_pos ⟨h0, h1⟩]
theorem itoa_nat (n : Nat) : itoa (n : Int) = decDigits n := by
  unfold itoa
  rw [if_neg (by omega)]
  rfl
theorem dec_three (r : Nat) (h : r < 100) : decDigits (100 + r) = [49, UInt8.ofNat (48 + r / 10), UInt8.ofNat (48 + r % 10)] := by
  rw [dec_big (by omega), dec_big (by omega), dec_small (by omega)]
  have e1 : (100 + r) / 10 / 10 = 1 := by omega
  have e2 : (100 + r) / 10 % 10 = r / 10 := by omega
  have e3 : (100 + r) % 10 = r % 10 := by omega
  rw [e1, e2, e3]
  rfl
theorem size_mk (l : List UInt8) : (⟨l.toArray⟩ : ByteArray).size = l.length := by
  show l.toArray.size = l.length
  simp
theorem mk_append (l m : List UInt8) : (⟨l.toArray⟩ : ByteArray) ++ ⟨m.toArray⟩ = ⟨(l ++ m).toArray⟩ := by
  apply str_ext
  simp
theorem mk_extract (l : List UInt8) (i j : Nat) : (⟨l.toArray⟩ : ByteArray).extract i j = ⟨((l.take j).drop i).toArray⟩ := by
  apply str_ext
  simp [List.drop_take]
theorem dec_len_20 (n : Nat) (h : n < 18446744073709551616) : (decDigits n).length ≤ 20 := dec_len_le n 20 (by omega) (Nat.lt_trans h (by decide))
theorem fmtL_ev (n : Nat) (h : n ≤ 1000000000000) (pre : List UInt8) (hp : pre.length ≤ 1) :
    (⟨pre.toArray⟩ : ByteArray) ++ ⟨(itoa ((n : Int) / 100)).toArray⟩ ++ ⟨#[46]⟩ ++ (⟨(itoa (100 + (n : Int) % 100)).toArray⟩ : ByteArray).extract 1 (⟨(itoa (100 + (n : Int) % 100)).toArray⟩ : ByteArray).size = ⟨(pre ++ fmtL n).toArray⟩ := by
  have e1 : ((n : Int) / 100) = ((n / 100 : Nat) : Int) := by omega
  have e2 : (100 + (n : Int) % 100) = ((100 + n % 100 : Nat) : Int) := by omega
  rw [e1, e2, itoa_nat, itoa_nat, dec_three _ (by omega), mk_append, show (⟨#[46]⟩ : ByteArray) = ⟨[46].toArray⟩ from rfl, mk_append, mk_extract, mk_append]
  unfold fmtL
  have e3 : n % 100 / 10 = n / 10 % 10 := by omega
  have e4 : n % 100 % 10 = n % 10 := by omega
  rw [size_mk, e3, e4]
  simp
theorem format_ev (x : Int) : Ev (fun k => money_Format.f k x) (fmtB x) := by
  unfold money_Format.f fmtB
  refine ev_bind (amount_ev x) ?_
  by_cases h : amt x
  · rw [if_pos h]
    refine ev_pos (decide_eq_true h) ?_
    unfold amt at h
    have s1 : ∀ n : Nat, n ≤ 1000000000000 → (itoa ((n : Int) / 100)).length ≤ 20 ∧ (itoa (100 + (n : Int) % 100)).length = 3 := fun n hn => by
      have e1 : ((n : Int) / 100) = ((n / 100 : Nat) : Int) := by omega
      have e2 : (100 + (n : Int) % 100) = ((100 + n % 100 : Nat) : Int) := by omega
      rw [e1, e2, itoa_nat, itoa_nat, dec_three _ (by omega)]
      exact ⟨dec_len_20 _ (by omega), rfl⟩
    by_cases hx : x < 0
    · refine ev_pos hx ?_
      obtain ⟨n, hn⟩ : ∃ n : Nat, -x = n := ⟨(-x).toNat, by omega⟩
      have hs := s1 n (by omega)
      have hw : wrap64 (-x) = (n : Int) := by rw [w64 (by omega) (by omega), hn]
      rw [hw, tmod_pos (by omega), tdiv_pos (by omega), w64 (by omega) (by omega), w64 (by omega) (by omega), itoa_f (by omega) (by omega), itoa_f (by omega) (by omega)]
      refine ev_let (ev_let ?_)
      rw [size_mk, size_mk]
      refine ev_pos (by omega) (ev_pos (by omega) (ev_pos (by omega) (ev_pos (by omega) ?_)))
      refine ev_eq (Ev.now _) ?_
      have := fmtL_ev n (by omega) [45] (by simp)
      rw [size_mk] at this
      rw [show (⟨#[45]⟩ : ByteArray) = ⟨[45].toArray⟩ from rfl, this]
      unfold fmt
      rw [if_pos hx, show x.natAbs = n by omega]
      rfl
    · refine ev_neg hx ?_
      obtain ⟨n, rfl⟩ := Int.eq_ofNat_of_zero_le (show 0 ≤ x by omega)
      have hs := s1 n (by omega)
      rw [tmod_pos (by omega), tdiv_pos (by omega), w64 (by omega) (by omega), w64 (by omega) (by omega), itoa_f (by omega) (by omega), itoa_f (by omega) (by omega)]
      refine ev_let (ev_let ?_)
      rw [size_mk, size_mk]
      refine ev_pos (by omega) (ev_pos (by omega) (ev_pos (by omega) (ev_pos (by omega) ?_)))
      refine ev_eq (Ev.now _) ?_
      have := fmtL_ev n (by omega) [] (by simp)
      rw [size_mk] at this
      rw [show (⟨#[]⟩ : ByteArray) = ⟨[].toArray⟩ from rfl, this]
      unfold fmt
      rw [if_neg hx]
      rfl
  · rw [if_neg h]
    exact ev_neg (by simp [h]) (Ev.now _)
theorem fmtL_len (n : Nat) (h : n ≤ 1000000000000) : 4 ≤ (fmtL n).length ∧ (fmtL n).length ≤ 14 := by
  unfold fmtL
  have h1 := dec_len_le (n / 100) 11 (by omega) (by omega)
  have h2 : 1 ≤ (decDigits (n / 100)).length := by
    rcases Nat.eq_zero_or_pos (decDigits (n / 100)).length with h | h
    · exact absurd (List.length_eq_zero_iff.1 h) (dec_ne _)
    · exact h
  simp; omega
theorem digs_two (m : Nat) : digs [UInt8.ofNat (48 + m / 10 % 10), UInt8.ofNat (48 + m % 10)] :=
  digs_cons (by rw [toNat_dig _ (by omega)]; omega) (digs_cons (by rw [toNat_dig _ (by omega)]; omega) digs_nil)
def body (m : Nat) : List UInt8 := decDigits (m / 100) ++ [UInt8.ofNat (48 + m / 10 % 10), UInt8.ofNat (48 + m % 10)]
theorem digs_body (m : Nat) : digs (body m) := digs_append (digs_dec _) (digs_two m)
theorem val_body (m : Nat) : val 0 (body m) = m := by
  unfold body
  rw [val_append, val_dec, val_cons, val_cons, val_nil, toNat_dig _ (by omega), toNat_dig _ (by omega)]
  omega
theorem body_ne (m : Nat) : body m ≠ [] := by unfold body; simp
def pre (x : Int) : List UInt8 := if x < 0 then [45] else []
theorem fmt_eq (x : Int) : fmt x = pre x ++ fmtL x.natAbs := by
  unfold fmt pre
  by_cases h : x < 0
  · rw [if_pos h, if_pos h]; rfl
  · rw [if_neg h, if_neg h, show x.toNat = x.natAbs by omega]; rfl
theorem pre_len (x : Int) : (pre x).length ≤ 1 := by unfold pre; split <;> simp
theorem fmt_len (x : Int) (h : amt x) : 4 ≤ (fmt x).length ∧ (fmt x).length ≤ 15 := by
  unfold amt at h
  rw [fmt_eq, List.length_append]
  have := fmtL_len x.natAbs (by omega)
  have := pre_len x
  omega
theorem fmt_parts (x : Int) : fmt x = (pre x ++ decDigits (x.natAbs / 100)) ++ 46 :: [UInt8.ofNat (48 + x.natAbs / 10 % 10), UInt8.ofNat (48 + x.natAbs % 10)] := by
  rw [fmt_eq]; unfold fmtL; simp
theorem fmt_cut (x : Int) : (fmt x).take ((fmt x).length - 3) ++ (fmt x).drop ((fmt x).length - 2) = pre x ++ body x.natAbs ∧ (fmt x)[(fmt x).length - 3]? = some 46 := by
  have e := fmt_parts x
  generalize hl : pre x ++ decDigits (x.natAbs / 100) = l at e
  have hL : (fmt x).length = l.length + 3 := by rw [e]; simp
  rw [hL, e]
  constructor
  · rw [show l.length + 3 - 3 = l.length by omega, show l.length + 3 - 2 = l.length + 1 by omega, List.take_left', List.drop_append]
    · simp [body, ← hl]
    · rfl
  · rw [show l.length + 3 - 3 = l.length by omega]; simp
theorem atoi_cut (x : Int) (h : amt x) : atoiAll (pre x ++ body x.natAbs) = .ok x := by
  unfold amt at h
  unfold pre
  by_cases hx : x < 0
  · rw [if_pos hx]
    show atoiAll (45 :: body x.natAbs) = _
    rw [atoi_neg _ (digs_body _) (body_ne _) (by rw [val_body]; omega), val_body]
    congr 1; omega
  · rw [if_neg hx]
    show atoiAll (body x.natAbs) = _
    rw [atoi_pos _ (digs_body _) (body_ne _) (by rw [val_body]; omega), val_body]
    congr 1; omega
theorem fmt_inj {x y : Int} (hx : amt x) (hy : amt y) (h : fmt x = fmt y) : x = y := by
  have h1 := atoi_cut x hx
  have h2 := atoi_cut y hy
  rw [← (fmt_cut x).1, h, (fmt_cut y).1, h2] at h1
  injection h1 with h1
  exact h1.symm
theorem fmtB_amt {x : Int} (h : amt x) : fmtB x = ⟨(fmt x).toArray⟩ := by unfold fmtB; rw [if_pos h]
theorem fmtB_list {x : Int} (h : amt x) : (fmtB x).data.toList = fmt x := by rw [fmtB_amt h]
theorem fmtB_size {x : Int} (h : amt x) : (fmtB x).size = (fmt x).length := by rw [← data_size, fmtB_list h]
def IsParse (s : ByteArray) (r : Int × Int) : Prop := (∃ x, amt x ∧ fmtB x = s ∧ r = (x, 0)) ∨ ((∀ x, amt x → fmtB x ≠ s) ∧ r = (0, 4))
theorem isParse_one {s : ByteArray} {r t : Int × Int} (h : IsParse s r) (k : IsParse s t) : r = t := by
  rcases h with ⟨x, hx, ex, rfl⟩ | ⟨hn, rfl⟩
  · rcases k with ⟨y, hy, ey, rfl⟩ | ⟨kn, rfl⟩
    · have := fmt_inj hx hy (by rw [← fmtB_list hx, ← fmtB_list hy, ex, ey])
      rw [this]
    · exact absurd ex (kn x hx)
  · rcases k with ⟨y, hy, ey, rfl⟩ | ⟨kn, rfl⟩
    · exact absurd ey (hn y hy)
    · rfl
theorem isParse_fmt {x : Int} (h : amt x) {r : Int × Int} (k : IsParse (fmtB x) r) : r = (x, 0) := isParse_one k (Or.inl ⟨x, h, rfl, rfl⟩)
theorem bt_data (s : ByteArray) (i : Nat) (h : i < s.size) : bt s (i : Int) = ((s.data.toList[i]'(by rw [data_size]; exact h)).toNat : Int) := by
  unfold bt
  rw [dif_pos (show (i : Int).toNat < s.size by omega)]
  rfl
theorem not_amt_empty {x : Int} (h : ¬ amt x) : fmtB x = ⟨#[]⟩ := by unfold fmtB; rw [if_neg h]
theorem parse_ev (s : ByteArray) (hs : s.size ≤ 140737488351232) : ∃ r, Ev (fun k => money_Parse.f k s) r ∧ IsParse s r := by
  have bad : ∀ {P : Prop}, ¬ (4 ≤ s.size ∧ s.size ≤ 15) → ∃ r, Ev (fun k => money_Parse.j0 k s true) r ∧ IsParse s r := fun hz =>
    ⟨(0, 4), Ev.step (fun k => by rw [money_Parse.j0]) (ev_pos rfl (Ev.now _)), Or.inr ⟨fun x hx e => hz (by rw [← e, fmtB_size hx]; exact fmt_len x hx), rfl⟩⟩
  unfold money_Parse.f
  by_cases h4 : (s.size : Int) < 4
  · obtain ⟨r, h, k⟩ := bad (P := True) (by omega)
    exact ⟨r, ev_pos h4 h, k⟩
  by_cases h16 : (s.size : Int) > 16
  · obtain ⟨r, h, k⟩ := bad (P := True) (by omega)
    exact ⟨r, ev_neg h4 (ev_pos h16 h), k⟩
  have e3 : wrap64 ((s.size : Int) - 3) = ((s.size - 3 : Nat) : Int) := by rw [w64 (by omega) (by omega)]; omega
  have e2 : wrap64 ((s.size : Int) - 2) = ((s.size - 2 : Nat) : Int) := by rw [w64 (by omega) (by omega)]; omega
  rw [e3]
  by_cases hp : bt s ((s.size - 3 : Nat) : Int) = 46
  · generalize hl : s.data.toList.take (s.size - 3) ++ s.data.toList.drop (s.size - 2) = l
    have hext : s.extract 0 (s.size - 3) ++ s.extract (s.size - 2) s.size = ⟨l.toArray⟩ := by
      apply str_ext
      rw [← hl]
      simp [List.take_of_length_le, data_size]
    have hll : l.length ≤ 16 := by rw [← hl]; simp; omega
    have good : ∀ x, amt x → fmtB x = s → atoiAll l = .ok x := fun x hx e => by
      have e1 : s.data.toList = fmt x := by rw [← e, fmtB_list hx]
      have e2 : s.size = (fmt x).length := by rw [← e, fmtB_size hx]
      rw [← hl, e1, e2, (fmt_cut x).1]
      exact atoi_cut x hx
    have hbody : ∀ r, Ev (fun k => (strconv_Atoi.f ⟨l.toArray⟩).bind fun bt166 => (if bt166.2.isNone = true then ((money_Format.f k bt166.1).bind fun t169 => (if t169.toList = s.toList then (some (bt166.1, 0)) else (some (0, 4)))) else (some (0, 4)))) r →
        Ev (fun k => if ((s.size : Int)) < 4 then (money_Parse.j0 k s true) else (if (s.size : Int) > 16 then (money_Parse.j0 k s true) else (if 0 ≤ (((s.size - 3 : Nat) : Int)) then (if (((s.size - 3 : Nat) : Int)) < (s.size : Int) then (money_Parse.j0 k s ((bt s ((s.size - 3 : Nat) : Int)) != 46)) else (none)) else (none)))) r := fun r hr => by
      refine ev_neg h4 (ev_neg h16 (ev_pos (by omega) (ev_pos (by omega) ?_)))
      rw [hp]
      refine Ev.step (fun k => by rw [money_Parse.j0]) (ev_neg (by decide) ?_)
      rw [e3, e2]
      refine ev_pos (by omega) (ev_pos (by omega) (ev_pos (by omega) (ev_pos (by omega) (ev_pos (by omega) ?_))))
      rw [Int.toNat_natCast, Int.toNat_natCast, hext]
      exact hr
    have hsz : (⟨l.toArray⟩ : ByteArray).size ≤ 281474976710656 := by rw [size_mk]; omega
    by_cases ha : ∃ v, atoiAll l = .ok v
    · obtain ⟨v, ha⟩ := ha
      by_cases hv : amt v ∧ fmtB v = s
      · refine ⟨(v, 0), hbody _ ?_, Or.inl ⟨v, hv.1, hv.2, rfl⟩⟩
        rw [strconv_Atoi.ok hsz ha]
        exact ev_let (ev_pos rfl (ev_bind (format_ev v) (ev_pos (by rw [hv.2]) (Ev.now _))))
      · refine ⟨(0, 4), hbody _ ?_, Or.inr ⟨fun x hx e => hv ?_, rfl⟩⟩
        · rw [strconv_Atoi.ok hsz ha]
          refine ev_let (ev_pos rfl (ev_bind (format_ev v) (ev_neg (fun e => hv ?_) (Ev.now _))))
          have e' := (str_list _ _).1 e
          by_cases hva : amt v
          · exact ⟨hva, e'⟩
          · rw [not_amt_empty hva] at e'
            rw [← e'] at h4
            exact absurd (by decide) h4
        · have := good x hx e
          rw [ha] at this
          injection this with this
          rw [this]
          exact ⟨hx, e⟩
    · obtain ⟨n, hn⟩ := strconv_Atoi.bad hsz (fun v h => ha ⟨v, h⟩)
      refine ⟨(0, 4), hbody _ ?_, Or.inr ⟨fun x hx e => ha ⟨x, good x hx e⟩, rfl⟩⟩
      rw [hn]
      exact ev_let (ev_neg (by simp) (Ev.now _))
  · refine ⟨(0, 4), ?_, Or.inr ⟨fun x hx e => hp ?_, rfl⟩⟩
    · refine ev_neg h4 (ev_neg h16 (ev_pos (by omega) (ev_pos (by omega) ?_)))
      rw [show (bt s ((s.size - 3 : Nat) : Int) != 46) = true from bne_iff_ne.2 hp]
      exact Ev.step (fun k => by rw [money_Parse.j0]) (ev_pos rfl (Ev.now _))
    · have e1 : s.data.toList = fmt x := by rw [← e, fmtB_list hx]
      have e2 : s.size = (fmt x).length := by rw [← e, fmtB_size hx]
      rw [bt_data s _ (by omega)]
      have h3 := (fmt_cut x).2
      rw [← e1, data_size] at h3
      rw [List.getElem?_eq_getElem (by rw [data_size]; omega)] at h3
      injection h3 with h3
      rw [h3]
      rfl
end Go.Proofs.YtfpkgdkcllobiaaDoor.D
end
