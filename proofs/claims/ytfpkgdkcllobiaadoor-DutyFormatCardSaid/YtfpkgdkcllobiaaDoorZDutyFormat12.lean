/- Part 12 of the proof of the law DutyFormat (its walk through the code, and the plain laws over numbers and texts). Conditions: none. -/
import Derived.Test.YtfpkgdkcllobiaaDoorZDutyFormat11
import Derived.Lib.TrimByte
import Derived.Test.YtfpkgdkcllobiaaDoorRows
section
namespace Go.Proofs.YtfpkgdkcllobiaaDoor.D
set_option linter.unusedVariables false
set_option linter.unusedSimpArgs false
open Go.RowKit Go.Proofs.YtfpkgdkcllobiaaDoorW.PrintWords Go.Proofs.YtfpkgdkcllobiaaDoorW.PrintMore Go.Proofs.YtfpkgdkcllobiaaDoor.F Go.Lib
/-- A digit. -/
def dg (d : Nat) : UInt8 := UInt8.ofNat (48 + d)
theorem dg_nat {d : Nat} (h : d < 10) : (dg d).toNat = 48 + d := toNat_dig d h
theorem dg_zero {d : Nat} (h : d < 10) : dg d = 48 ↔ d = 0 := by
  constructor
  · intro e
    have := dg_nat h
    rw [e] at this
    simp at this
    omega
  · rintro rfl; rfl
/-- The places behind the point, those that are zeros at the end left out. -/
def tr (r : Nat) : List UInt8 := dg (r / 1000 % 10) :: (if r % 1000 = 0 then [] else dg (r / 100 % 10) :: (if r % 100 = 0 then [] else dg (r / 10 % 10) :: (if r % 10 = 0 then [] else [dg (r % 10)])))
def pct (n : Nat) : List UInt8 := decDigits (n / 10000) ++ (if n % 10000 > 0 then 46 :: tr (n % 10000) else []) ++ [37]
/-- An amount per units. -/
def sp (a p : Nat) : List UInt8 := fmtL a ++ 47 :: decDigits p
def sMost : List UInt8 := [32, 109, 97, 120, 32]
def sLeast : List UInt8 := [32, 109, 105, 110, 32]
def sPlus : List UInt8 := [32, 43, 32]
def hd (r a p : Nat) : List UInt8 := if a = 0 then pct r else if r = 0 then sp a p else pct r ++ sPlus ++ sp a p
def fmtD (r a p : Nat) (hm : Bool) (m : Nat) (hl : Bool) (l : Nat) : List UInt8 := hd r a p ++ (if hm = true then sMost ++ pct m else []) ++ (if hl = true then sLeast ++ pct l else [])
/-- The text, or nothing for a duty that is not valid. -/
def fmtDB (r a p : Int) (hm : Bool) (m : Int) (hl : Bool) (l : Int) : ByteArray := if dvalid r a p hm m hl l = 0 then ⟨(fmtD r.toNat a.toNat p.toNat hm m.toNat hl l.toNat).toArray⟩ else ⟨#[]⟩
theorem tr_len (r : Nat) : (tr r).length ≤ 4 := by unfold tr; (repeat' split) <;> simp
theorem pct_len (n : Nat) (h : n ≤ 10000000) : (pct n).length ≤ 26 := by
  unfold pct
  have h1 := dec_len_20 (n / 10000) (by omega)
  have h2 := tr_len (n % 10000)
  rw [List.length_append, List.length_append]
  split
  · rw [List.length_cons]; simp; omega
  · simp; omega
theorem sp_len (a p : Nat) (ha : a ≤ 100000000) (hp : p ≤ 1000000) : (sp a p).length ≤ 36 := by
  unfold sp
  have h1 := fmtL_len a (by omega)
  have h2 := dec_len_20 p (by omega)
  rw [List.length_append, List.length_cons]
  omega
theorem hd_len (r a p : Nat) (hr : r ≤ 10000000) (ha : a ≤ 100000000) (hp : p ≤ 1000000) : (hd r a p).length ≤ 70 := by
  have h1 := pct_len r hr
  have h2 := sp_len a p ha hp
  unfold hd sPlus
  (repeat' split) <;> (try simp only [List.length_append, List.length_cons, List.length_nil]) <;> omega
theorem dec_four (r : Nat) (h : r < 10000) : decDigits (10000 + r) = [49, dg (r / 1000 % 10), dg (r / 100 % 10), dg (r / 10 % 10), dg (r % 10)] := by
  rw [dec_big (by omega), dec_big (by omega), dec_big (by omega), dec_big (by omega), dec_small (by omega)]
  have e1 : (10000 + r) / 10 / 10 / 10 / 10 = 1 := by omega
  have e2 : (10000 + r) / 10 / 10 / 10 % 10 = r / 1000 % 10 := by omega
  have e3 : (10000 + r) / 10 / 10 % 10 = r / 100 % 10 := by omega
  have e4 : (10000 + r) / 10 % 10 = r / 10 % 10 := by omega
  have e5 : (10000 + r) % 10 = r % 10 := by omega
  rw [e1, e2, e3, e4, e5]
  rfl
theorem trim_four (r : Nat) (h : r < 10000) (h0 : r > 0) : trimRightB [dg (r / 1000 % 10), dg (r / 100 % 10), dg (r / 10 % 10), dg (r % 10)] 48 = tr r := by
  have z : ∀ d : Nat, d < 10 → ((dg d == 48) = decide (d = 0)) := fun d hd => by
    rw [Bool.eq_iff_iff]
    simp [dg_zero hd]
  unfold trimRightB tr
  simp only [List.reverse_cons, List.reverse_nil, List.nil_append, List.cons_append, List.dropWhile_cons, List.dropWhile_nil, z _ (Nat.mod_lt _ (show 10 > 0 by decide))]
  by_cases c0 : r % 10 = 0
  · by_cases c1 : r / 10 % 10 = 0
    · by_cases c2 : r / 100 % 10 = 0
      · have c3 : ¬ r / 1000 % 10 = 0 := by omega
        rw [if_pos (show r % 1000 = 0 by omega)]
        simp [c0, c1, c2, c3]
      · rw [if_neg (show ¬ r % 1000 = 0 by omega), if_pos (show r % 100 = 0 by omega)]
        simp [c0, c1, c2]
    · rw [if_neg (show ¬ r % 1000 = 0 by omega), if_neg (show ¬ r % 100 = 0 by omega), if_pos c0]
      simp [c0, c1]
  · rw [if_neg (show ¬ r % 1000 = 0 by omega), if_neg (show ¬ r % 100 = 0 by omega), if_neg c0]
    simp [c0]
theorem percent_eq (n : Nat) (h : n ≤ 10000000) : duty_percent.f (n : Int) = some ⟨(pct n).toArray⟩ := by
  unfold duty_percent.f
  have l1 := dec_len_20 (n / 10000) (by omega)
  rw [tdiv_pos (by omega), tmod_pos (by omega), w64 (x := (n : Int) / 10000) (by omega) (by omega), itoa_f (by omega) (by omega), show (n : Int) / 10000 = ((n / 10000 : Nat) : Int) by omega, itoa_nat]
  simp only [Option.bind_some]
  by_cases c : n % 10000 > 0
  · have e : wrap64 (10000 + (n : Int) % 10000) = ((10000 + n % 10000 : Nat) : Int) := by rw [w64 (by omega) (by omega)]; omega
    rw [if_pos (by omega), e, itoa_f (by omega) (by omega), itoa_nat, dec_four _ (by omega)]
    simp only [Option.bind_some, size_mk]
    rw [if_pos (by simp), mk_extract]
    have et : strings_TrimRight.f ⟨(List.drop 1 (List.take [49, dg (n % 10000 / 1000 % 10), dg (n % 10000 / 100 % 10), dg (n % 10000 / 10 % 10), dg (n % 10000 % 10)].length [49, dg (n % 10000 / 1000 % 10), dg (n % 10000 / 100 % 10), dg (n % 10000 / 10 % 10), dg (n % 10000 % 10)])).toArray⟩ (⟨#[48]⟩ : ByteArray) = some ⟨(tr (n % 10000)).toArray⟩ := by
      rw [← trim_four (n % 10000) (by omega) c]
      rfl
    rw [et]
    have l2 := tr_len (n % 10000)
    simp only [Option.bind_some, size_mk]
    rw [if_pos (by omega), if_pos (by omega), if_pos (by omega)]
    show some ((⟨(decDigits (n / 10000)).toArray⟩ : ByteArray) ++ ((⟨[46].toArray⟩ : ByteArray) ++ ⟨(tr (n % 10000)).toArray⟩) ++ ⟨[37].toArray⟩) = _
    rw [mk_append, mk_append, mk_append]
    unfold pct
    rw [if_pos c]
    rfl
  · rw [if_neg (by omega), size_mk, if_pos (by omega)]
    show some ((⟨(decDigits (n / 10000)).toArray⟩ : ByteArray) ++ ⟨[37].toArray⟩) = _
    rw [mk_append]
    unfold pct
    rw [if_neg c, List.append_nil]
theorem fmtB_nat (a : Nat) (h : a ≤ 100000000) : fmtB (a : Int) = ⟨(fmtL a).toArray⟩ := by
  rw [fmtB_amt (by unfold amt; omega)]
  unfold fmt
  rw [if_neg (by omega)]
  rfl
theorem form_j0 (s : List UInt8) (hs : s.length ≤ 70) (r a p : Int) (hm : Bool) (m : Nat) (hl : Bool) (l : Nat) (m1 : m ≤ 10000000) (l1 : l ≤ 10000000) :
    Ev (fun k => duty_Format.j0 k ⟨s.toArray⟩ r a p hm (m : Int) hl (l : Int)) ⟨(s ++ (if hm = true then sMost ++ pct m else []) ++ (if hl = true then sLeast ++ pct l else [])).toArray⟩ := by
  refine Ev.step (fun k => by rw [duty_Format.j0]) ?_
  have e1 := pct_len m m1
  have e2 := pct_len l l1
  rw [percent_eq m m1, percent_eq l l1]
  have q1 : (⟨#[32, 109, 97, 120, 32]⟩ : ByteArray) = ⟨sMost.toArray⟩ := rfl
  have q2 : (⟨#[32, 109, 105, 110, 32]⟩ : ByteArray) = ⟨sLeast.toArray⟩ := rfl
  rw [q1, q2]
  cases hm with
  | true =>
    refine ev_pos rfl (ev_let ?_)
    simp only [size_mk]
    refine ev_pos (by omega) (ev_pos (by omega) ?_)
    cases hl with
    | true =>
      refine ev_pos rfl (ev_let ?_)
      simp only [size_mk]
      refine ev_pos (by omega) (ev_pos (by omega) ?_)
      rw [mk_append, mk_append, mk_append, mk_append]
      exact Ev.now _
    | false =>
      refine ev_neg (by decide) ?_
      show Ev _ (⟨(s ++ (sMost ++ pct m) ++ []).toArray⟩ : ByteArray)
      rw [List.append_nil, ← mk_append, ← mk_append]
      exact Ev.now _
  | false =>
    refine ev_neg (by decide) ?_
    rw [if_neg (show ¬ (false = true) by decide), List.append_nil]
    cases hl with
    | true =>
      refine ev_pos rfl (ev_let ?_)
      rw [size_mk, size_mk]
      refine ev_pos (by omega) (ev_pos (by omega) ?_)
      rw [mk_append, mk_append]
      exact Ev.now _
    | false =>
      refine ev_neg (by decide) ?_
      rw [if_neg (by decide), List.append_nil]
      exact Ev.now _
/-- The fields of a valid duty, as natural numbers. -/
structure Nats (r a p : Int) (hm : Bool) (m : Int) (hl : Bool) (l : Int) (R A P M L : Nat) : Prop where
  er : r = R
  ea : a = A
  ep : p = P
  em : m = M
  el : l = L
  r1 : R ≤ 10000000
  a1 : A ≤ 100000000
  p1 : P ≤ 1000000
  m1 : M ≤ 10000000
  l1 : L ≤ 10000000
  ap : A = 0 → P = 0
  pa : A > 0 → 1 ≤ P
theorem nats_of {r a p : Int} {hm : Bool} {m : Int} {hl : Bool} {l : Int} (h : dvalid r a p hm m hl l = 0) : Nats r a p hm m hl l r.toNat a.toNat p.toNat m.toNat l.toNat := by
  obtain ⟨hr, ha0, ha1, hp1, hp2, hm', hl', -, -, -⟩ := dvalid_ok.1 h
  have pp : 0 ≤ p ∧ p ≤ 1000000 := by
    by_cases c : a = 0
    · have := hp1 c; omega
    · have := hp2 (by omega); omega
  unfold rt at hr hm' hl'
  refine ⟨by omega, by omega, by omega, by omega, by omega, by omega, by omega, by omega, by omega, by omega, fun c => ?_, fun c => ?_⟩
  · have := hp1 (by omega); omega
  · have := hp2 (by omega); omega
theorem form_ev (r a p : Int) (hm : Bool) (m : Int) (hl : Bool) (l : Int) : Ev (fun k => duty_Format.f k r a p hm m hl l) (fmtDB r a p hm m hl l) := by
  unfold duty_Format.f fmtDB
  refine ev_bind (dvalidate_ev r a p hm m hl l) ?_
  by_cases hv : dvalid r a p hm m hl l = 0
  · rw [if_pos hv]
    refine ev_pos hv ?_
    have hN := nats_of hv
    generalize r.toNat = R at hN ⊢
    generalize a.toNat = A at hN ⊢
    generalize p.toNat = P at hN ⊢
    generalize m.toNat = M at hN ⊢
    generalize l.toNat = L at hN ⊢
    obtain ⟨rfl, rfl, rfl, rfl, rfl, r1, a1, p1, m1, l1, ap, pa⟩ := hN
    have lr := pct_len R r1
    have lf := fmtL_len A (by omega)
    have lp := dec_len_20 P (by omega)
    have ls := sp_len A P a1 p1
    rw [percent_eq R r1, itoa_f (n := (P : Int)) (by omega) (by omega), itoa_nat]
    unfold duty_kind.f fmtD hd
    by_cases ca : A = 0
    · rw [if_pos (show (A : Int) = 0 by omega), if_pos ca]
      exact ev_let (ev_neg (by decide) (ev_neg (by decide) (ev_let (form_j0 _ (by omega) _ _ _ _ _ _ _ m1 l1))))
    · rw [if_neg (show ¬ (A : Int) = 0 by omega), if_neg ca]
      by_cases cr : R = 0
      · rw [if_pos (show (R : Int) = 0 by omega), if_pos cr]
        refine ev_let (ev_neg (by decide) (ev_pos rfl (ev_bind (format_ev _) ?_)))
        rw [fmtB_nat A a1]
        simp only [size_mk]
        refine ev_pos (by omega) (ev_let ?_)
        simp only [size_mk]
        refine ev_pos (by omega) ?_
        have := form_j0 (sp A P) (by omega) (R : Int) (A : Int) (P : Int) hm M hl L m1 l1
        rw [show (⟨#[]⟩ : ByteArray) = ⟨([] : List UInt8).toArray⟩ from rfl, show (⟨#[47]⟩ : ByteArray) = ⟨[47].toArray⟩ from rfl, mk_append, mk_append, mk_append, List.nil_append, List.append_assoc]
        exact this
      · rw [if_neg (show ¬ (R : Int) = 0 by omega), if_neg cr]
        refine ev_let (ev_pos rfl (ev_let ?_))
        simp only [size_mk]
        refine ev_pos (by omega) (ev_bind (format_ev _) ?_)
        rw [fmtB_nat A a1]
        simp only [size_mk]
        refine ev_pos (by omega) (ev_let ?_)
        simp only [size_mk]
        refine ev_pos (by omega) (ev_pos (by omega) ?_)
        have := form_j0 (pct R ++ sPlus ++ sp A P) (by unfold sPlus; simp only [List.length_append, List.length_cons, List.length_nil]; omega) (R : Int) (A : Int) (P : Int) hm M hl L m1 l1
        rw [show (⟨#[32, 43, 32]⟩ : ByteArray) = ⟨sPlus.toArray⟩ from rfl, show (⟨#[47]⟩ : ByteArray) = ⟨[47].toArray⟩ from rfl, mk_append, mk_append, mk_append, mk_append]
        have e : pct R ++ sPlus ++ (fmtL A ++ [47] ++ decDigits P) = pct R ++ sPlus ++ sp A P := by unfold sp; rw [List.append_assoc (fmtL A)]; rfl
        rw [e]
        exact this
  · rw [if_neg hv]
    exact ev_neg hv (Ev.now _)
end Go.Proofs.YtfpkgdkcllobiaaDoor.D
end
section
namespace Go.Proofs.YtfpkgdkcllobiaaDoor.D
set_option linter.unusedVariables false
set_option linter.unusedSimpArgs false
open Go.RowKit Go.Proofs.YtfpkgdkcllobiaaDoorW.PrintWords Go.Proofs.YtfpkgdkcllobiaaDoorW.PrintMore Go.Proofs.YtfpkgdkcllobiaaDoor.F Go.Lib
/-! ### cutting a text -/
theorem occ_get {s sub : List UInt8} {j i : Nat} {c : UInt8} (h : occAt s sub j = true) (hc : sub[i]? = some c) : s[j + i]? = some c := by
  unfold occAt at h
  obtain ⟨t, ht⟩ := List.isPrefixOf_iff_prefix.1 h
  have h1 : (s.drop j)[i]? = some c := by
    rw [← ht, List.getElem?_append_left (List.getElem?_eq_some_iff.1 hc).1]
    exact hc
  rwa [List.getElem?_drop] at h1
theorem cut_none {s sep : List UInt8} (c : UInt8) (hc : c ∈ sep) (hs : c ∉ s) : cut s sep = (s, [], false) := by
  obtain ⟨i, hi⟩ := List.getElem?_of_mem hc
  have : index s sep = -1 := index_none (fun j _ => by
    cases h : occAt s sep j with
    | false => rfl
    | true => exact absurd (List.mem_of_getElem? (occ_get h hi)) hs)
  unfold cut
  rw [this, if_neg (by decide)]
theorem cut_at (u : List UInt8) (c : UInt8) (v : List UInt8) {X Y : List UInt8} (hu : c ∉ u) (hX : c ∉ X) : cut (X ++ (u ++ c :: v) ++ Y) (u ++ c :: v) = (X, Y, true) := by
  have hi : (u ++ c :: v)[u.length]? = some c := by simp
  have : index (X ++ (u ++ c :: v) ++ Y) (u ++ c :: v) = X.length := index_first (by simp) (by
    unfold occAt
    rw [List.append_assoc, List.drop_left]
    exact List.isPrefixOf_iff_prefix.2 (List.prefix_append _ _)) (fun j hj => by
    cases h : occAt (X ++ (u ++ c :: v) ++ Y) (u ++ c :: v) j with
    | false => rfl
    | true =>
      have hg := occ_get h hi
      rw [List.append_assoc] at hg
      by_cases hlt : j + u.length < X.length
      · rw [List.getElem?_append_left hlt] at hg
        exact absurd (List.mem_of_getElem? hg) hX
      · rw [List.getElem?_append_right (by omega), List.append_assoc, List.getElem?_append_left (by omega)] at hg
        exact absurd (List.mem_of_getElem? hg) hu)
  unfold cut
  rw [this, if_pos (by omega), Int.toNat_natCast]
  refine Prod.ext ?_ (Prod.ext ?_ rfl)
  · simp only [List.append_assoc, List.take_left']
  · show List.drop (X.length + (u ++ c :: v).length) (X ++ (u ++ c :: v) ++ Y) = Y
    rw [show X.length + (u ++ c :: v).length = (X ++ (u ++ c :: v)).length by simp only [List.length_append], List.drop_left]
theorem cut_f (s sep : List UInt8) (h : s.length < 4294967281) : strings_Cut.f ⟨s.toArray⟩ ⟨sep.toArray⟩ = some (⟨(cut s sep).1.toArray⟩, ⟨(cut s sep).2.1.toArray⟩, (cut s sep).2.2) := by
  unfold strings_Cut.f
  rw [if_pos (by rw [size_mk]; exact h)]
theorem cut_len (s sep : List UInt8) : (cut s sep).1.length ≤ s.length ∧ (cut s sep).2.1.length ≤ s.length := by
  unfold cut
  split
  · simp only [List.length_take, List.length_drop]; omega
  · simp
/-! ### what the bytes are -/
theorem digs_not {l : List UInt8} (h : digs l) (c : UInt8) (hc : ¬ (48 ≤ c.toNat ∧ c.toNat ≤ 57)) : c ∉ l := fun hm => hc (h c hm)
theorem dg_digs {d : Nat} (h : d < 10) : 48 ≤ (dg d).toNat ∧ (dg d).toNat ≤ 57 := by rw [dg_nat h]; omega
theorem digs_tr (r : Nat) : digs (tr r) := by
  have m : ∀ n : Nat, n % 10 < 10 := fun n => Nat.mod_lt _ (by decide)
  unfold tr
  refine digs_cons (dg_digs (m _)) ?_
  split
  · exact digs_nil
  · refine digs_cons (dg_digs (m _)) ?_
    split
    · exact digs_nil
    · refine digs_cons (dg_digs (m _)) ?_
      split
      · exact digs_nil
      · exact digs_cons (dg_digs (m _)) digs_nil
/-- A byte that is no digit, no point and no sign of percent isn't in a percentage. -/
theorem pct_not (n : Nat) (c : UInt8) (hc : ¬ (48 ≤ c.toNat ∧ c.toNat ≤ 57)) (h1 : c ≠ 46) (h2 : c ≠ 37) : c ∉ pct n := by
  unfold pct
  simp only [List.mem_append, List.mem_singleton, not_or]
  refine ⟨⟨digs_not (digs_dec _) c hc, ?_⟩, h2⟩
  split
  · rw [List.mem_cons, not_or]; exact ⟨h1, digs_not (digs_tr _) c hc⟩
  · simp
theorem fmtL_not (n : Nat) (c : UInt8) (hc : ¬ (48 ≤ c.toNat ∧ c.toNat ≤ 57)) (h1 : c ≠ 46) : c ∉ fmtL n := by
  unfold fmtL
  have e1 : c ≠ UInt8.ofNat (48 + n / 10 % 10) := fun e => by subst e; exact hc (dg_digs (Nat.mod_lt _ (by decide)))
  have e2 : c ≠ UInt8.ofNat (48 + n % 10) := fun e => by subst e; exact hc (dg_digs (Nat.mod_lt _ (by decide)))
  simp only [List.mem_append, List.mem_cons, List.not_mem_nil, or_false, not_or]
  exact ⟨digs_not (digs_dec _) c hc, h1, e1, e2⟩
theorem sp_not (a p : Nat) (c : UInt8) (hc : ¬ (48 ≤ c.toNat ∧ c.toNat ≤ 57)) (h1 : c ≠ 46) (h2 : c ≠ 47) : c ∉ sp a p := by
  unfold sp
  simp only [List.mem_append, List.mem_cons, not_or]
  exact ⟨fmtL_not a c hc h1, h2, digs_not (digs_dec _) c hc⟩
theorem hd_not (r a p : Nat) (c : UInt8) (hc : ¬ (48 ≤ c.toNat ∧ c.toNat ≤ 57)) (h1 : c ≠ 46) (h2 : c ≠ 47) (h3 : c ≠ 37) (h4 : c ∉ sPlus) : c ∉ hd r a p := by
  unfold hd
  split
  · exact pct_not r c hc h1 h3
  · split
    · exact sp_not a p c hc h1 h2
    · simp only [List.mem_append, not_or]
      exact ⟨⟨pct_not r c hc h1 h3, h4⟩, sp_not a p c hc h1 h2⟩
/-! ### a percentage is read -/
theorem four (r : Nat) (h : r < 10000) (h0 : r > 0) : (tr r ++ [48, 48, 48, 48]).take 4 = [dg (r / 1000 % 10), dg (r / 100 % 10), dg (r / 10 % 10), dg (r % 10)] := by
  have z : dg 0 = 48 := rfl
  unfold tr
  by_cases c1 : r % 1000 = 0
  · rw [if_pos c1, show r / 100 % 10 = 0 by omega, show r / 10 % 10 = 0 by omega, show r % 10 = 0 by omega]; rfl
  · rw [if_neg c1]
    by_cases c2 : r % 100 = 0
    · rw [if_pos c2, show r / 10 % 10 = 0 by omega, show r % 10 = 0 by omega]; rfl
    · rw [if_neg c2]
      by_cases c3 : r % 10 = 0
      · rw [if_pos c3, c3]; rfl
      · rw [if_neg c3]; rfl
theorem atoi_four (r : Nat) (h : r < 10000) : atoiAll [dg (r / 1000 % 10), dg (r / 100 % 10), dg (r / 10 % 10), dg (r % 10)] = .ok (r : Int) := by
  have m : ∀ n : Nat, n % 10 < 10 := fun n => Nat.mod_lt _ (by decide)
  have hv : val 0 [dg (r / 1000 % 10), dg (r / 100 % 10), dg (r / 10 % 10), dg (r % 10)] = r := by
    rw [val_cons, val_cons, val_cons, val_cons, val_nil, dg_nat (m _), dg_nat (m _), dg_nat (m _), dg_nat (m _)]
    omega
  have := atoi_pos [dg (r / 1000 % 10), dg (r / 100 % 10), dg (r / 10 % 10), dg (r % 10)] (digs_cons (dg_digs (m _)) (digs_cons (dg_digs (m _)) (digs_cons (dg_digs (m _)) (digs_cons (dg_digs (m _)) digs_nil)))) (by simp) (by rw [hv]; omega)
  rw [this, hv]
theorem atoi_dec (n : Nat) (h : n < 9223372036854775808) : atoiAll (decDigits n) = .ok (n : Int) := by
  have := atoi_pos (decDigits n) (digs_dec n) (dec_ne n) (by rw [val_dec]; exact h)
  rw [this, val_dec]
theorem atoi_f_ok (l : List UInt8) (n : Int) (hl : l.length ≤ 1000) (h : atoiAll l = .ok n) : strconv_Atoi.f ⟨l.toArray⟩ = some (n, none) := by
  unfold strconv_Atoi.f
  rw [if_pos (by rw [size_mk]; omega)]
  show (match atoiAll l with | .ok v => _ | .range => _ | _ => _) = _
  rw [h]
theorem cutsuffix_pct (l : List UInt8) (hl : l.length ≤ 1000) : strings_CutSuffix.f ⟨(l ++ [37]).toArray⟩ (⟨#[37]⟩ : ByteArray) = some (⟨l.toArray⟩, true) := by
  have e : (⟨#[37]⟩ : ByteArray).size = 1 := rfl
  have en : (((l.length + 1 : Nat) : Int) - ((1 : Nat) : Int)).toNat = l.length := by omega
  have hs : stringslite_HasSuffix.f ⟨(l ++ [37]).toArray⟩ (⟨#[37]⟩ : ByteArray) = some true := by
    unfold stringslite_HasSuffix.f
    rw [size_mk, e, List.length_append, List.length_singleton, w64 (by omega) (by omega), if_pos (by omega), if_pos (by omega), if_pos (by omega), mk_extract, en, List.take_of_length_le (by rw [List.length_append, List.length_singleton]; omega), List.drop_left]
    simp [ByteArray.toList_eq]
  unfold strings_CutSuffix.f stringslite_CutSuffix.f
  rw [hs]
  simp only [Option.bind_some, if_true]
  rw [size_mk, e, List.length_append, List.length_singleton, w64 (by omega) (by omega), if_pos (by omega), if_pos (by omega), mk_extract, en, List.take_left, List.drop_zero]
  rfl
theorem parts_pct (n : Nat) (h : n ≤ 10000000) : Ev (fun k => duty_parts.f k ⟨(pct n).toArray⟩) (n : Int) := by
  have l1 := dec_len_20 (n / 10000) (by omega)
  have l2 := tr_len (n % 10000)
  unfold duty_parts.f pct
  have last : ∀ (fr : List UInt8) (v : Nat), fr.length ≤ 4 → v < 10000 → n = n / 10000 * 10000 + v → atoiAll ((fr ++ [48, 48, 48, 48]).take 4) = .ok (v : Int) → Ev (fun k => duty_parts.j0 k ⟨(decDigits (n / 10000)).toArray⟩ ⟨fr.toArray⟩ (decide (((⟨fr.toArray⟩ : ByteArray).size : Int) > 4))) (n : Int) := by
    intro fr v hf hv hn ha
    rw [size_mk, decide_eq_false (by omega)]
    refine Ev.step (fun k => by rw [duty_parts.j0]) (ev_neg (by decide) ?_)
    rw [atoi_f_ok _ _ (by omega) (atoi_dec (n / 10000) (by omega)), size_mk, show (⟨#[48, 48, 48, 48]⟩ : ByteArray) = ⟨[48, 48, 48, 48].toArray⟩ from rfl, mk_append, size_mk, mk_extract, List.drop_zero, atoi_f_ok _ _ (by rw [List.length_take]; omega) ha]
    refine ev_let (ev_pos (by omega) (ev_pos (by omega) (ev_pos (by simp <;> omega) (ev_let (ev_pos rfl (ev_pos rfl (ev_neg ?_ (ev_neg ?_ (ev_neg ?_ ?_)))))))))
    · show ¬ ((n / 10000 : Nat) : Int) < 0; omega
    · show ¬ ((n / 10000 : Nat) : Int) > 1000; omega
    · show ¬ (v : Int) < 0; omega
    · show Ev (fun _ => some (wrap64 (wrap64 (((n / 10000 : Nat) : Int) * 10000) + (v : Int)))) _
      rw [w64 (x := ((n / 10000 : Nat) : Int) * 10000) (by omega) (by omega), w64 (by omega) (by omega), show ((n / 10000 : Nat) : Int) * 10000 + (v : Int) = (n : Int) by omega]
      exact Ev.now _
  by_cases c : n % 10000 > 0
  · rw [if_pos c, cutsuffix_pct _ (by simp only [List.length_append, List.length_cons]; omega)]
    refine ev_let ?_
    show Ev (fun k => (strings_Cut.f ⟨(decDigits (n / 10000) ++ 46 :: tr (n % 10000)).toArray⟩ ⟨[46].toArray⟩).bind _) _
    have hc := cut_at [] 46 [] (X := decDigits (n / 10000)) (Y := tr (n % 10000)) (by simp) (digs_not (digs_dec _) 46 (by decide))
    simp only [List.nil_append, List.append_assoc, List.singleton_append] at hc
    rw [cut_f _ _ (by simp only [List.length_append, List.length_cons]; omega), hc]
    exact ev_let (ev_pos rfl (last (tr (n % 10000)) (n % 10000) l2 (by omega) (by omega) (by rw [four _ (by omega) c]; exact atoi_four _ (by omega))))
  · rw [if_neg c, List.append_nil, cutsuffix_pct _ (by omega)]
    refine ev_let ?_
    show Ev (fun k => (strings_Cut.f ⟨(decDigits (n / 10000)).toArray⟩ ⟨[46].toArray⟩).bind _) _
    rw [cut_f _ _ (by omega), cut_none 46 (by simp) (digs_not (digs_dec _) 46 (by decide))]
    exact ev_let (ev_pos rfl (last [] 0 (by simp) (by omega) (by omega) (by decide +kernel)))
/-! ### whatever the text is -/
theorem atoi_f_any (l : List UInt8) (hl : l.length ≤ 281474976710656) : ∃ r, strconv_Atoi.f ⟨l.toArray⟩ = some r := by
  unfold strconv_Atoi.f
  rw [if_pos (by rw [size_mk]; omega)]
  split <;> exact ⟨_, rfl⟩
theorem cutsuffix_any (l : List UInt8) (hl : l.length ≤ 4000000000) : ∃ (t : List UInt8) (b : Bool), strings_CutSuffix.f ⟨l.toArray⟩ (⟨#[37]⟩ : ByteArray) = some (⟨t.toArray⟩, b) ∧ t.length ≤ l.length := by
  have e : (⟨#[37]⟩ : ByteArray).size = 1 := rfl
  have hs : ∃ b, stringslite_HasSuffix.f ⟨l.toArray⟩ (⟨#[37]⟩ : ByteArray) = some b ∧ (b = true → 1 ≤ l.length) := by
    unfold stringslite_HasSuffix.f
    rw [size_mk, e]
    by_cases c : (l.length : Int) ≥ (1 : Nat)
    · rw [w64 (by omega) (by omega), if_pos c, if_pos (by omega), if_pos (by omega)]
      exact ⟨_, rfl, fun _ => by omega⟩
    · rw [if_neg c]
      exact ⟨false, rfl, fun h => by cases h⟩
  obtain ⟨b, hb, h1⟩ := hs
  unfold strings_CutSuffix.f stringslite_CutSuffix.f
  rw [hb]
  simp only [Option.bind_some]
  cases b with
  | true =>
    have := h1 rfl
    rw [if_pos rfl, size_mk, e, w64 (by omega) (by omega), if_pos (by omega), if_pos (by omega), mk_extract]
    exact ⟨_, true, rfl, by simp only [List.length_drop, List.length_take]; omega⟩
  | false =>
    rw [if_neg (show ¬ (false = true) by decide)]
    exact ⟨l, false, rfl, Nat.le_refl _⟩
theorem parts_any (l : List UInt8) (hl : l.length ≤ 4000000000) : ∃ v, Ev (fun k => duty_parts.f k ⟨l.toArray⟩) v := by
  obtain ⟨t, b, h1, h2⟩ := cutsuffix_any l hl
  have hlen := cut_len t [46]
  have j : ∀ (x y : List UInt8) (c : Bool), x.length ≤ 4000000000 → y.length ≤ 4000000000 → ∃ v, Ev (fun k => duty_parts.j0 k ⟨x.toArray⟩ ⟨y.toArray⟩ c) v := by
    intro x y c hx hy
    cases c with
    | true => exact ⟨-1, Ev.step (fun k => by rw [duty_parts.j0]) (ev_pos rfl (Ev.now _))⟩
    | false =>
      obtain ⟨⟨r1, r2⟩, e1⟩ := atoi_f_any x (by omega)
      obtain ⟨⟨q1, q2⟩, e2⟩ := atoi_f_any ((y ++ [48, 48, 48, 48]).take 4) (by rw [List.length_take]; omega)
      have st : ∀ k, duty_parts.j0 (k + 1) ⟨x.toArray⟩ ⟨y.toArray⟩ false = (if r2.isNone = true then (if q2.isNone = true then (if r1 < 0 then (some (-1)) else (if r1 > 1000 then (some (-1)) else (if q1 < 0 then (some (-1)) else (some (wrap64 ((wrap64 (r1 * 10000)) + q1)))))) else (some (-1))) else (some (-1))) := fun k => by
        rw [duty_parts.j0, if_neg (by decide), e1, size_mk, show (⟨#[48, 48, 48, 48]⟩ : ByteArray) = ⟨[48, 48, 48, 48].toArray⟩ from rfl, mk_append, size_mk, mk_extract, List.drop_zero, e2]
        simp only [Option.bind_some]
        rw [if_pos (by omega), if_pos (by omega), if_pos (by simp <;> omega)]
      generalize (if r2.isNone = true then (if q2.isNone = true then (if r1 < 0 then (some (-1)) else (if r1 > 1000 then (some (-1)) else (if q1 < 0 then (some (-1)) else (some (wrap64 ((wrap64 (r1 * 10000)) + q1)))))) else (some (-1))) else (some (-1))) = o at st
      have : ∃ v, o = some v := by
        have st0 := st 0
        rw [duty_parts.j0, if_neg (by decide), e1, size_mk, show (⟨#[48, 48, 48, 48]⟩ : ByteArray) = ⟨[48, 48, 48, 48].toArray⟩ from rfl, mk_append, size_mk, mk_extract, List.drop_zero, e2] at st0
        simp only [Option.bind_some] at st0
        rw [if_pos (by omega), if_pos (by omega), if_pos (by simp <;> omega)] at st0
        rw [← st0]
        (repeat' split) <;> exact ⟨_, rfl⟩
      obtain ⟨v, rfl⟩ := this
      exact ⟨v, Ev.step (fun k => st k) (Ev.now _)⟩
  unfold duty_parts.f
  rw [h1]
  have hc := cut_f t [46] (by omega)
  cases b with
  | true =>
    obtain ⟨v, hv⟩ := j (cut t [46]).1 (cut t [46]).2.1 (decide (((⟨(cut t [46]).2.1.toArray⟩ : ByteArray).size : Int) > 4)) (by omega) (by omega)
    refine ⟨v, ev_let ?_⟩
    show Ev (fun k => (strings_Cut.f ⟨t.toArray⟩ ⟨[46].toArray⟩).bind _) _
    rw [hc]
    exact ev_let (ev_pos rfl hv)
  | false =>
    obtain ⟨v, hv⟩ := j (cut t [46]).1 (cut t [46]).2.1 true (by omega) (by omega)
    refine ⟨v, ev_let ?_⟩
    show Ev (fun k => (strings_Cut.f ⟨t.toArray⟩ ⟨[46].toArray⟩).bind _) _
    rw [hc]
    exact ev_let (ev_neg (show ¬ (false = true) by decide) hv)
theorem amount_any (l : List UInt8) (hl : l.length ≤ 4000000000) (r a p : Int) (hm : Bool) (m : Int) (hl' : Bool) (ll : Int) :
    ∃ (b : Bool) (n q : Int), Ev (fun k => duty_amount.f k ⟨l.toArray⟩ r a p hm m hl' ll) (b, r, n, q, hm, m, hl', ll) := by
  have hlen := cut_len l [47]
  obtain ⟨⟨x, e⟩, hp, _⟩ := parse_ev ⟨(cut l [47]).1.toArray⟩ (by rw [size_mk]; omega)
  obtain ⟨⟨y, f⟩, ha⟩ := atoi_f_any (cut l [47]).2.1 (by omega)
  unfold duty_amount.f
  rw [show (⟨#[47]⟩ : ByteArray) = ⟨[47].toArray⟩ from rfl, cut_f l [47] (by omega)]
  by_cases c1 : (cut l [47]).2.2 = true
  · by_cases c2 : e = 0
    · by_cases c3 : f.isNone = true
      · exact ⟨true, x, y, ev_let (ev_bind hp (ev_bind (ev_const ha) (ev_pos c1 (ev_pos c2 (ev_pos c3 (Ev.now _))))))⟩
      · exact ⟨false, a, p, ev_let (ev_bind hp (ev_bind (ev_const ha) (ev_pos c1 (ev_pos c2 (ev_neg c3 (Ev.now _))))))⟩
    · exact ⟨false, a, p, ev_let (ev_bind hp (ev_bind (ev_const ha) (ev_pos c1 (ev_neg c2 (Ev.now _)))))⟩
  · exact ⟨false, a, p, ev_let (ev_bind hp (ev_bind (ev_const ha) (ev_neg c1 (Ev.now _))))⟩
theorem amount_pct (n : Nat) (h : n ≤ 10000000) (r a p : Int) (hm : Bool) (m : Int) (hl' : Bool) (ll : Int) :
    Ev (fun k => duty_amount.f k ⟨(pct n).toArray⟩ r a p hm m hl' ll) (false, r, a, p, hm, m, hl', ll) := by
  have l1 := pct_len n h
  have hc := cut_none (s := pct n) (sep := [47]) 47 (by simp) (pct_not n 47 (by decide) (by decide) (by decide))
  obtain ⟨⟨x, e⟩, hp, _⟩ := parse_ev ⟨(cut (pct n) [47]).1.toArray⟩ (by rw [size_mk, hc]; show (pct n).length ≤ _; omega)
  obtain ⟨⟨y, f⟩, ha⟩ := atoi_f_any (cut (pct n) [47]).2.1 (by rw [hc]; simp)
  unfold duty_amount.f
  rw [show (⟨#[47]⟩ : ByteArray) = ⟨[47].toArray⟩ from rfl, cut_f _ [47] (by omega)]
  exact ev_let (ev_bind hp (ev_bind (ev_const ha) (ev_neg (by rw [hc]; simp) (Ev.now _))))
theorem amount_sp (A P : Nat) (hA : A ≤ 100000000) (hP : P ≤ 1000000) (r a p : Int) (hm : Bool) (m : Int) (hl' : Bool) (ll : Int) :
    Ev (fun k => duty_amount.f k ⟨(sp A P).toArray⟩ r a p hm m hl' ll) (true, r, (A : Int), (P : Int), hm, m, hl', ll) := by
  have l1 := sp_len A P hA hP
  have l2 := dec_len_20 P (by omega)
  have hc := cut_at [] 47 [] (X := fmtL A) (Y := decDigits P) (by simp) (fmtL_not A 47 (by decide) (by decide))
  simp only [List.nil_append, List.append_assoc, List.singleton_append] at hc
  have hc' : cut (sp A P) [47] = (fmtL A, decDigits P, true) := hc
  obtain ⟨t, hp, hq⟩ := parse_ev (fmtB (A : Int)) (by have := fmtL_len A (by omega); rw [fmtB_nat A hA, size_mk]; omega)
  obtain rfl := isParse_fmt (x := (A : Int)) (by unfold amt; omega) hq
  rw [fmtB_nat A hA] at hp
  unfold duty_amount.f
  rw [show (⟨#[47]⟩ : ByteArray) = ⟨[47].toArray⟩ from rfl, cut_f _ [47] (by omega), hc']
  exact ev_let (ev_bind hp (ev_bind (ev_const (atoi_f_ok _ _ (by show (decDigits P).length ≤ _; omega) (atoi_dec P (by omega)))) (ev_pos rfl (ev_pos rfl (ev_pos rfl (Ev.now _))))))
/-! ### Parse -/
abbrev Dres := Int × Int × Int × Bool × Int × Bool × Int × Int
def noDuty : Dres := (0, 0, 0, false, 0, false, 0, 4)
theorem parse_j2 (s : ByteArray) (r a p : Int) (hm : Bool) (m : Int) (hl : Bool) (l : Int) :
    Ev (fun k => duty_Parse.j2 k s r a p hm m hl l) (if dvalid r a p hm m hl l = 0 ∧ fmtDB r a p hm m hl l = s then (r, a, p, hm, m, hl, l, 0) else noDuty) := by
  refine Ev.step (fun k => by rw [duty_Parse.j2]) (ev_bind (dvalidate_ev r a p hm m hl l) ?_)
  by_cases hv : dvalid r a p hm m hl l = 0
  · refine ev_pos hv (ev_bind (form_ev r a p hm m hl l) ?_)
    by_cases hs : fmtDB r a p hm m hl l = s
    · have e : (if dvalid r a p hm m hl l = 0 ∧ fmtDB r a p hm m hl l = s then (r, a, p, hm, m, hl, l, 0) else noDuty) = (r, a, p, hm, m, hl, l, 0) := if_pos ⟨hv, hs⟩
      rw [e]
      exact ev_pos (by rw [hs]) (Ev.now _)
    · have e : (if dvalid r a p hm m hl l = 0 ∧ fmtDB r a p hm m hl l = s then (r, a, p, hm, m, hl, l, 0) else noDuty) = noDuty := if_neg (fun h => hs h.2)
      rw [e]
      exact ev_neg (fun h => hs ((str_list _ _).1 h)) (Ev.now _)
  · have e : (if dvalid r a p hm m hl l = 0 ∧ fmtDB r a p hm m hl l = s then (r, a, p, hm, m, hl, l, 0) else noDuty) = noDuty := if_neg (fun h => hv h.1)
    rw [e]
    exact ev_neg hv (Ev.now _)
/-- What Parse may answer: a valid duty whose text is s, or nothing. -/
def Good (s : ByteArray) (t : Dres) : Prop := (∃ r a p hm m hl l, dvalid r a p hm m hl l = 0 ∧ fmtDB r a p hm m hl l = s ∧ t = (r, a, p, hm, m, hl, l, 0)) ∨ t = noDuty
theorem good_if (s : ByteArray) (r a p : Int) (hm : Bool) (m : Int) (hl : Bool) (l : Int) : Good s (if dvalid r a p hm m hl l = 0 ∧ fmtDB r a p hm m hl l = s then (r, a, p, hm, m, hl, l, 0) else noDuty) := by
  by_cases h : dvalid r a p hm m hl l = 0 ∧ fmtDB r a p hm m hl l = s
  · rw [if_pos h]; exact Or.inl ⟨r, a, p, hm, m, hl, l, h.1, h.2, rfl⟩
  · rw [if_neg h]; exact Or.inr rfl
theorem parse_j1 (s : ByteArray) (x : List UInt8) (hx : x.length ≤ 4000000000) (r a p : Int) (hm : Bool) (m : Int) (hl : Bool) (l : Int) : ∃ t, Ev (fun k => duty_Parse.j1 k s ⟨x.toArray⟩ r a p hm m hl l) t ∧ Good s t := by
  have hlen := cut_len x sPlus
  have st : ∀ k, duty_Parse.j1 (k + 1) s ⟨x.toArray⟩ r a p hm m hl l = _ := fun k => by rw [duty_Parse.j1, show (⟨#[32, 43, 32]⟩ : ByteArray) = ⟨sPlus.toArray⟩ from rfl, cut_f x sPlus (by omega)]
  by_cases c : (cut x sPlus).2.2 = true
  · obtain ⟨v, hv⟩ := parts_any (cut x sPlus).1 (by omega)
    obtain ⟨b, n, q, ha⟩ := amount_any (cut x sPlus).2.1 (by omega) v a p hm m hl l
    cases b with
    | true => exact ⟨_, Ev.step st (ev_let (ev_pos c (ev_bind hv (ev_bind ha (ev_pos rfl (parse_j2 s v n q hm m hl l)))))), good_if _ _ _ _ _ _ _ _⟩
    | false => exact ⟨_, Ev.step st (ev_let (ev_pos c (ev_bind hv (ev_bind ha (ev_neg (show ¬ (false = true) by decide) (Ev.now _)))))), Or.inr rfl⟩
  · obtain ⟨v, hv⟩ := parts_any (cut x sPlus).1 (by omega)
    obtain ⟨b, n, q, ha⟩ := amount_any (cut x sPlus).1 (by omega) r a p hm m hl l
    cases b with
    | true => exact ⟨_, Ev.step st (ev_let (ev_neg c (ev_bind ha (ev_pos rfl (parse_j2 s r n q hm m hl l))))), good_if _ _ _ _ _ _ _ _⟩
    | false => exact ⟨_, Ev.step st (ev_let (ev_neg c (ev_bind ha (ev_neg (show ¬ (false = true) by decide) (ev_bind hv (parse_j2 s v n q hm m hl l)))))), good_if _ _ _ _ _ _ _ _⟩
theorem parse_j0 (s : ByteArray) (x : List UInt8) (hx : x.length ≤ 4000000000) (r a p : Int) (hm : Bool) (m : Int) (hl : Bool) (l : Int) : ∃ t, Ev (fun k => duty_Parse.j0 k s ⟨x.toArray⟩ r a p hm m hl l) t ∧ Good s t := by
  have hlen := cut_len x sMost
  have st : ∀ k, duty_Parse.j0 (k + 1) s ⟨x.toArray⟩ r a p hm m hl l = _ := fun k => by rw [duty_Parse.j0, show (⟨#[32, 109, 97, 120, 32]⟩ : ByteArray) = ⟨sMost.toArray⟩ from rfl, cut_f x sMost (by omega)]
  by_cases c : (cut x sMost).2.2 = true
  · obtain ⟨v, hv⟩ := parts_any (cut x sMost).2.1 (by omega)
    obtain ⟨t, ht, hg⟩ := parse_j1 s (cut x sMost).1 (by omega) r a p true v hl l
    exact ⟨t, Ev.step st (ev_let (ev_pos c (ev_bind hv ht))), hg⟩
  · obtain ⟨t, ht, hg⟩ := parse_j1 s (cut x sMost).1 (by omega) r a p hm m hl l
    exact ⟨t, Ev.step st (ev_let (ev_neg c ht)), hg⟩
theorem dparse_any (s : ByteArray) (hs : s.size ≤ 4000000000) : ∃ t, Ev (fun k => duty_Parse.f k s) t ∧ Good s t := by
  obtain ⟨x, rfl⟩ : ∃ x : List UInt8, s = ⟨x.toArray⟩ := ⟨s.data.toList, str_ext (by simp)⟩
  rw [size_mk] at hs
  have hlen := cut_len x sLeast
  unfold duty_Parse.f
  rw [show (⟨#[32, 109, 105, 110, 32]⟩ : ByteArray) = ⟨sLeast.toArray⟩ from rfl, cut_f x sLeast (by omega)]
  by_cases c : (cut x sLeast).2.2 = true
  · obtain ⟨v, hv⟩ := parts_any (cut x sLeast).2.1 (by omega)
    obtain ⟨t, ht, hg⟩ := parse_j0 ⟨x.toArray⟩ (cut x sLeast).1 (by omega) 0 0 0 false 0 true v
    exact ⟨t, ev_let (ev_pos c (ev_bind hv ht)), hg⟩
  · obtain ⟨t, ht, hg⟩ := parse_j0 ⟨x.toArray⟩ (cut x sLeast).1 (by omega) 0 0 0 false 0 false 0
    exact ⟨t, ev_let (ev_neg c ht), hg⟩
/-! ### Parse of a text of Format -/
theorem ev_one {α : Type} {f : Nat → Option α} {a b : α} (h : Ev f a) (k : Ev f b) : a = b := by
  obtain ⟨K, h⟩ := h
  obtain ⟨L, k⟩ := k
  exact Option.some.inj ((h _ (Nat.le_max_left K L)).symm.trans (k _ (Nat.le_max_right K L)))
theorem dparse_fmt {r a p : Int} {hm : Bool} {m : Int} {hl : Bool} {l : Int} (h : dvalid r a p hm m hl l = 0) : Ev (fun k => duty_Parse.f k (fmtDB r a p hm m hl l)) (r, a, p, hm, m, hl, l, 0) := by
  have hN := nats_of h
  have hj2 := parse_j2 (fmtDB r a p hm m hl l) r a p hm m hl l
  rw [if_pos ⟨h, rfl⟩] at hj2
  obtain ⟨-, -, -, -, -, -, -, hm0, hl0, -⟩ := dvalid_ok.1 h
  have hs : fmtDB r a p hm m hl l = ⟨(fmtD r.toNat a.toNat p.toNat hm m.toNat hl l.toNat).toArray⟩ := by unfold fmtDB; rw [if_pos h]
  generalize hS : fmtDB r a p hm m hl l = S at hj2 hs ⊢
  clear hS
  generalize r.toNat = R at hN hs
  generalize a.toNat = A at hN hs
  generalize p.toNat = P at hN hs
  generalize m.toNat = M at hN hs
  generalize l.toNat = L at hN hs
  obtain ⟨rfl, rfl, rfl, rfl, rfl, r1, a1, p1, m1, l1, ap, pa⟩ := hN
  have lh := hd_len R A P r1 a1 p1
  have lm := pct_len M m1
  have ll := pct_len L l1
  -- the head
  have J1 : Ev (fun k => duty_Parse.j1 k S ⟨(hd R A P).toArray⟩ 0 0 0 hm (M : Int) hl (L : Int)) ((R : Int), (A : Int), (P : Int), hm, (M : Int), hl, (L : Int), 0) := by
    refine Ev.step (fun k => by rw [duty_Parse.j1, show (⟨#[32, 43, 32]⟩ : ByteArray) = ⟨sPlus.toArray⟩ from rfl, cut_f _ sPlus (by omega)]) ?_
    unfold hd
    by_cases ca : A = 0
    · have hP := ap ca
      rw [if_pos ca, cut_none 43 (by decide) (pct_not R 43 (by decide) (by decide) (by decide))]
      subst ca
      subst hP
      exact ev_let (ev_neg (show ¬ (false = true) by decide) (ev_bind (amount_pct R r1 0 0 0 hm M hl L) (ev_neg (show ¬ (false = true) by decide) (ev_bind (parts_pct R r1) hj2))))
    · rw [if_neg ca]
      by_cases cr : R = 0
      · rw [if_pos cr, cut_none 43 (by decide) (sp_not A P 43 (by decide) (by decide) (by decide))]
        subst cr
        exact ev_let (ev_neg (show ¬ (false = true) by decide) (ev_bind (amount_sp A P a1 p1 0 0 0 hm M hl L) (ev_pos rfl hj2)))
      · rw [if_neg cr, show pct R ++ sPlus ++ sp A P = pct R ++ ([32] ++ 43 :: [32]) ++ sp A P from rfl, show sPlus = [32] ++ 43 :: [32] from rfl, cut_at [32] 43 [32] (by decide) (pct_not R 43 (by decide) (by decide) (by decide))]
        exact ev_let (ev_pos rfl (ev_bind (parts_pct R r1) (ev_bind (amount_sp A P a1 p1 R 0 0 hm M hl L) (ev_pos rfl hj2))))
  -- the maximum
  have nh : ∀ c : UInt8, ¬ (48 ≤ c.toNat ∧ c.toNat ≤ 57) → c ≠ 46 → c ≠ 47 → c ≠ 37 → c ∉ sPlus → c ∉ hd R A P := fun c h1 h2 h3 h4 h5 => hd_not R A P c h1 h2 h3 h4 h5
  have J0 : Ev (fun k => duty_Parse.j0 k S ⟨(hd R A P ++ (if hm = true then sMost ++ pct M else [])).toArray⟩ 0 0 0 false 0 hl (L : Int)) ((R : Int), (A : Int), (P : Int), hm, (M : Int), hl, (L : Int), 0) := by
    cases hm with
    | true =>
      have hc : cut (hd R A P ++ (sMost ++ pct M)) sMost = (hd R A P, pct M, true) := by
        have := cut_at [32, 109, 97] 120 [32] (X := hd R A P) (Y := pct M) (by decide) (nh 120 (by decide) (by decide) (by decide) (by decide) (by decide))
        rw [List.append_assoc] at this
        exact this
      rw [if_pos rfl]
      refine Ev.step (fun k => by rw [duty_Parse.j0, show (⟨#[32, 109, 97, 120, 32]⟩ : ByteArray) = ⟨sMost.toArray⟩ from rfl, cut_f _ sMost (by simp only [List.length_append, sMost, List.length_cons, List.length_nil]; omega), hc]) ?_
      exact ev_let (ev_pos rfl (ev_bind (parts_pct M m1) J1))
    | false =>
      have hM := hm0 rfl
      rw [if_neg (show ¬ (false = true) by decide), List.append_nil]
      refine Ev.step (fun k => by rw [duty_Parse.j0, show (⟨#[32, 109, 97, 120, 32]⟩ : ByteArray) = ⟨sMost.toArray⟩ from rfl, cut_f _ sMost (by omega), cut_none 120 (by decide) (nh 120 (by decide) (by decide) (by decide) (by decide) (by decide))]) ?_
      rw [hM] at J1
      rw [hM]
      exact ev_let (ev_neg (show ¬ (false = true) by decide) J1)
  -- the minimum
  have nm : (105 : UInt8) ∉ hd R A P ++ (if hm = true then sMost ++ pct M else []) := by
    simp only [List.mem_append, not_or]
    refine ⟨nh 105 (by decide) (by decide) (by decide) (by decide) (by decide), ?_⟩
    split
    · simp only [List.mem_append, not_or]; exact ⟨by decide, pct_not M 105 (by decide) (by decide) (by decide)⟩
    · simp
  have lx : (hd R A P ++ (if hm = true then sMost ++ pct M else [])).length ≤ 101 := by
    rw [List.length_append]
    split
    · simp only [List.length_append, sMost, List.length_cons, List.length_nil]; omega
    · simp only [List.length_nil]; omega
  unfold fmtD at hs
  generalize hd R A P ++ (if hm = true then sMost ++ pct M else []) = X at hs J0 nm lx
  unfold duty_Parse.f
  cases hl with
  | true =>
    have hc : cut (X ++ (sLeast ++ pct L)) sLeast = (X, pct L, true) := by
      have := cut_at [32, 109] 105 [110, 32] (X := X) (Y := pct L) (by decide) nm
      rw [List.append_assoc] at this
      exact this
    rw [if_pos rfl] at hs
    have hcut : strings_Cut.f S (⟨#[32, 109, 105, 110, 32]⟩ : ByteArray) = some (⟨X.toArray⟩, ⟨(pct L).toArray⟩, true) := by
      rw [hs, show (⟨#[32, 109, 105, 110, 32]⟩ : ByteArray) = ⟨sLeast.toArray⟩ from rfl, cut_f _ sLeast (by simp only [List.length_append, sLeast, List.length_cons, List.length_nil]; omega), hc]
    rw [hcut]
    exact ev_let (ev_pos rfl (ev_bind (parts_pct L l1) J0))
  | false =>
    have hL := hl0 rfl
    rw [if_neg (show ¬ (false = true) by decide), List.append_nil] at hs
    have hcut : strings_Cut.f S (⟨#[32, 109, 105, 110, 32]⟩ : ByteArray) = some (⟨X.toArray⟩, ⟨[].toArray⟩, false) := by
      rw [hs, show (⟨#[32, 109, 105, 110, 32]⟩ : ByteArray) = ⟨sLeast.toArray⟩ from rfl, cut_f _ sLeast (by omega), cut_none 105 (by decide) nm]
    rw [hcut]
    rw [hL] at J0 ⊢
    exact ev_let (ev_neg (show ¬ (false = true) by decide) J0)
end Go.Proofs.YtfpkgdkcllobiaaDoor.D
end
section
namespace Go.Proofs.YtfpkgdkcllobiaaDoor.D
set_option linter.unusedVariables false
open Go.RowKit Go.Proofs.YtfpkgdkcllobiaaDoorW.PrintWords Go.Proofs.YtfpkgdkcllobiaaDoorW.PrintMore Go.Proofs.YtfpkgdkcllobiaaDoor.F Go.Lib
theorem pct_whole (q : Nat) : pct (q * 10000) = decDigits q ++ [37] := by
  unfold pct
  rw [Nat.mul_div_cancel _ (by decide), Nat.mul_mod_left, if_neg (by decide), List.append_nil]
theorem ex_text : fmtDB 50000 320 100 true 100000 true 20000 = (⟨#[53, 37, 32, 43, 32, 51, 46, 50, 48, 47, 49, 48, 48, 32, 109, 97, 120, 32, 49, 48, 37, 32, 109, 105, 110, 32, 50, 37]⟩ : ByteArray) := by
  unfold fmtDB
  rw [if_pos (by decide +kernel)]
  apply str_ext
  show fmtD 50000 320 100 true 100000 true 20000 = [53, 37, 32, 43, 32, 51, 46, 50, 48, 47, 49, 48, 48, 32, 109, 97, 120, 32, 49, 48, 37, 32, 109, 105, 110, 32, 50, 37]
  unfold fmtD hd
  rw [if_neg (by decide), if_neg (by decide), show 50000 = 5 * 10000 from rfl, show 100000 = 10 * 10000 from rfl, show 20000 = 2 * 10000 from rfl, pct_whole, pct_whole, pct_whole]
  unfold sp fmtL
  rw [show 320 / 100 = 3 from rfl, dec_small (u := 3) (by decide), dec_small (u := 5) (by decide), dec_small (u := 2) (by decide), dec_big (u := 100) (by decide), show 100 / 10 = 10 from rfl, dec_big (u := 10) (by decide), show 10 / 10 = 1 from rfl, dec_small (u := 1) (by decide)]
  rfl
theorem zero_text : fmtDB 0 0 0 false 0 false 0 = (⟨#[48, 37]⟩ : ByteArray) := by
  unfold fmtDB
  rw [if_pos (by decide +kernel)]
  apply str_ext
  show fmtD 0 0 0 false 0 false 0 = [48, 37]
  unfold fmtD hd pct
  rw [if_pos rfl, dec_small (by decide)]
  rfl
theorem awake_ev : Ev (fun k => customslaw18_awake.f k) true := by
  unfold customslaw18_awake.f
  have hp := dparse_fmt (r := 50000) (a := 320) (p := 100) (hm := true) (m := 100000) (hl := true) (l := 20000) (by decide +kernel)
  rw [ex_text] at hp
  refine ev_bind hp ?_
  show Ev (fun k => (duty_Evaluate.f 50000 320 100 true 100000 true 20000 10000 100).bind _) _
  rw [show duty_Evaluate.f 50000 320 100 true 100000 true 20000 10000 100 = some (820, 0) from congrArg some (by decide +kernel)]
  refine ev_let (ev_pos rfl (ev_pos rfl (ev_pos rfl (ev_pos rfl (ev_bind (form_ev 0 0 0 false 0 false 0) ?_)))))
  rw [zero_text]
  show Ev (fun _ => some ((⟨#[48, 37]⟩ : ByteArray).toList == [48, 37])) _
  rw [ByteArray.toList_eq]
  exact Ev.now _
end Go.Proofs.YtfpkgdkcllobiaaDoor.D
end
section
namespace Go.Proofs.YtfpkgdkcllobiaaDoor.D
set_option linter.unusedVariables false
set_option linter.unusedSimpArgs false
open Go.RowKit Go.Proofs.YtfpkgdkcllobiaaDoorW.PrintWords Go.Proofs.YtfpkgdkcllobiaaDoorW.PrintMore Go.Proofs.YtfpkgdkcllobiaaDoor.F Go.Lib
/-! ### the reference -/
theorem dig_str (m : Nat) (h : m < 10) : strOfNums [(48 + (m : Int)) % 256] = ⟨[UInt8.ofNat (48 + m)].toArray⟩ := by
  unfold strOfNums
  rw [show ((48 + (m : Int)) % 256) = ((48 + m : Nat) : Int) by omega]
  rfl
theorem digits_l (d : Nat) : ∀ (n : Nat) (t : List UInt8), n < 10 ^ d → n < 9223372036854775808 → t.length + d ≤ 100 →
    Ev (fun k => customsref02_Digits.l0 k (n : Int) ⟨t.toArray⟩) ⟨(decDigits n ++ t).toArray⟩ := by
  induction d with
  | zero =>
    intro n t h _ ht
    obtain rfl : n = 0 := by simp at h; omega
    refine Ev.step (fun k => by rw [customsref02_Digits.l0]) (ev_let ?_)
    rw [strOfNums_size, size_mk, tmod_pos (by omega), tdiv_pos (by omega), w64 (by omega) (by omega), w64 (by omega) (by omega)]
    refine ev_pos (by simp; omega) (ev_pos (by omega) (ev_eq (Ev.now _) ?_))
    rw [show (48 + ((0 : Nat) : Int) % 10) = 48 + ((0 : Nat) : Int) by omega, dig_str 0 (by omega), mk_append, dec_small (by omega)]
  | succ d ih =>
    intro n t h hn ht
    refine Ev.step (fun k => by rw [customsref02_Digits.l0]) (ev_let ?_)
    rw [strOfNums_size, size_mk, tmod_pos (by omega), tdiv_pos (by omega), w64 (by omega) (by omega), w64 (by omega) (by omega)]
    rw [show ((n : Int) % 10) = ((n % 10 : Nat) : Int) by omega, dig_str _ (by omega), mk_append]
    refine ev_pos (by simp; omega) ?_
    by_cases hs : n < 10
    · refine ev_pos (by omega) (ev_eq (Ev.now _) ?_)
      rw [dec_small hs, show n % 10 = n by omega]
    · refine ev_neg (by omega) ?_
      rw [show ((n : Int) / 10) = ((n / 10 : Nat) : Int) by omega, dec_big hs, List.append_assoc]
      rw [Nat.pow_succ] at h
      exact ih (n / 10) _ (by omega) (by omega) (by simp; omega)
theorem digits_ev (n : Nat) (h : n < 9223372036854775808) : Ev (fun k => customsref02_Digits.f k (n : Int)) ⟨(decDigits n).toArray⟩ := by
  have e := digits_l 19 n [] (Nat.lt_trans h (by decide)) h (by simp)
  rw [List.append_nil] at e
  exact e
theorem amount_ref (x : Int) : customsref02_Amount.f x = some (decide (amt x)) := by
  unfold customsref02_Amount.f
  by_cases h : amt x
  · rw [decide_eq_true h]
    unfold amt at h
    rw [if_pos (by omega)]
    simp; omega
  · rw [decide_eq_false h]
    unfold amt at h
    by_cases h1 : x ≥ -1000000000000
    · rw [if_pos h1]; simp; omega
    · rw [if_neg h1]
theorem refFormat_pos (n : Nat) (h : n ≤ 1000000000000) : Ev (fun k => customsref02_Format.f k (n : Int)) ⟨(fmtL n).toArray⟩ := by
  refine Ev.step (fun k => by rw [customsref02_Format.f]) ?_
  rw [amount_ref]
  refine ev_let (ev_pos (by unfold amt; simp; omega) (ev_neg (by omega) ?_))
  have s1 : ∀ m : Nat, m < 10 → (decDigits m).length = 1 := fun m hm => by rw [dec_small hm]; rfl
  have s2 : (decDigits (n / 100)).length ≤ 20 := dec_len_20 _ (by omega)
  have t1 : wrap64 (Int.tdiv (n : Int) 100) = ((n / 100 : Nat) : Int) := by rw [tdiv_pos (by omega), w64 (by omega) (by omega)]; omega
  have t2 : Int.tmod (wrap64 (Int.tdiv (n : Int) 10)) 10 = ((n / 10 % 10 : Nat) : Int) := by rw [tdiv_pos (by omega), w64 (by omega) (by omega), tmod_pos (by omega)]; omega
  have t3 : Int.tmod (n : Int) 10 = ((n % 10 : Nat) : Int) := by rw [tmod_pos (by omega)]; omega
  rw [t1, t2, t3]
  refine ev_bind (digits_ev _ (by omega)) ?_
  rw [size_mk]
  refine ev_pos (by omega) (ev_bind (digits_ev _ (by omega)) ?_)
  rw [size_mk, s1 (n / 10 % 10) (by omega)]
  refine ev_pos (by omega) (ev_bind (digits_ev _ (by omega)) ?_)
  rw [size_mk, s1 (n % 10) (by omega)]
  refine ev_pos (by omega) (ev_eq (Ev.now _) ?_)
  rw [show (⟨#[46]⟩ : ByteArray) = ⟨[46].toArray⟩ from rfl, mk_append, mk_append, mk_append, dec_small (show n / 10 % 10 < 10 by omega), dec_small (show n % 10 < 10 by omega)]
  unfold fmtL
  simp
theorem refFormat_ev (x : Int) : Ev (fun k => customsref02_Format.f k x) (fmtB x) := by
  unfold fmtB
  by_cases h : amt x
  · rw [if_pos h]
    have h' := h
    unfold amt at h'
    unfold fmt
    by_cases hx : x < 0
    · rw [if_pos hx]
      refine Ev.step (fun k => by rw [customsref02_Format.f]) ?_
      rw [amount_ref]
      refine ev_let (ev_pos (by simp [h]) (ev_pos hx ?_))
      rw [w64 (by omega) (by omega), show -x = ((x.natAbs : Nat) : Int) by omega]
      refine ev_bind (refFormat_pos _ (by omega)) ?_
      have := fmtL_len x.natAbs (by omega)
      rw [size_mk]
      refine ev_pos (by omega) (ev_eq (Ev.now _) ?_)
      rw [show (⟨#[45]⟩ : ByteArray) = ⟨[45].toArray⟩ from rfl, mk_append]
      rfl
    · rw [if_neg hx]
      have e := refFormat_pos x.toNat (by omega)
      rw [show ((x.toNat : Nat) : Int) = x by omega] at e
      exact e
  · rw [if_neg h]
    refine Ev.step (fun k => by rw [customsref02_Format.f]) ?_
    rw [amount_ref]
    exact ev_let (ev_neg (by simp [h]) (Ev.now _))
end Go.Proofs.YtfpkgdkcllobiaaDoor.D
end
section
namespace Go.Proofs.YtfpkgdkcllobiaaDoor.D
set_option linter.unusedVariables false
set_option linter.unusedSimpArgs false
open Go.RowKit Go.Proofs.YtfpkgdkcllobiaaDoorW.PrintWords Go.Proofs.YtfpkgdkcllobiaaDoorW.PrintMore Go.Proofs.YtfpkgdkcllobiaaDoor.F
theorem in_eq (a b : Int) : customsref17_in.f a b = some (decide (0 ≤ a ∧ a ≤ b)) := by
  unfold customsref17_in.f
  by_cases h : a ≥ 0
  · rw [if_pos h]
    congr 1
    exact decide_eq_decide.2 ⟨fun k => ⟨h, k⟩, fun k => k.2⟩
  · rw [if_neg h, decide_eq_false (fun k => h k.1)]
theorem rdv_j0 (r a p : Int) (hm : Bool) (m : Int) (hl : Bool) (l : Int) (b : Bool) (hb : b = true → dvalid r a p hm m hl l = 2) (hn : b = false → ¬ (¬ rt r ∨ a < 0 ∨ a > 100000000 ∨ (a = 0 ∧ p ≠ 0) ∨ (a > 0 ∧ (p < 1 ∨ p > 1000000)) ∨ ¬ rt m ∨ ¬ rt l)) :
    Ev (fun k => customsref17_Duty.j0 k b r a p hm m hl l) (dvalid r a p hm m hl l) := by
  refine Ev.step (fun k => by rw [customsref17_Duty.j0]) ?_
  cases b with
  | true => rw [hb rfl]; exact ev_pos rfl (Ev.now _)
  | false =>
    have h := hn rfl
    rw [dv_in h]
    refine ev_neg (by simp) ?_
    have key : ∀ x y : Int, x = y → Ev (fun _ => some x) y := fun x y e => by rw [e]; exact Ev.now _
    have K0 : ∀ {c : Prop} [Decidable c], ¬ c → Ev (fun _ => some (0 : Int)) (if c then 1 else 0) := fun hc => key _ _ (by rw [if_neg hc])
    have K1 : ∀ {c : Prop} [Decidable c], c → Ev (fun _ => some (1 : Int)) (if c then 1 else 0) := fun hc => key _ _ (by rw [if_pos hc])
    cases hm <;> cases hl <;>
      refine ev_ite (fun c1 => ev_ite (fun c2 => ?_) (fun c2 => ?_)) (fun c1 => ?_)
    · exact ev_neg (by simp) (K0 (by simp; omega))
    · exact ev_neg (by simp) (K1 (by simp; omega))
    · exact ev_neg (by simp) (K1 (by simp; omega))
    · exact ev_neg (by simp) (K0 (by simp; omega))
    · exact ev_pos rfl (ev_neg (by simp) (K0 (by simp; omega)))
    · exact ev_neg (by simp) (K1 (by simp; omega))
    · exact ev_pos rfl (ev_neg (by simp) (K0 (by simp; omega)))
    · exact ev_neg (by simp) (K1 (by simp; omega))
    · exact ev_pos rfl (ev_ite (fun c3 => ev_neg (by simp) (K0 (by simp; omega))) (fun c3 => ev_neg (by simp) (K1 (by simp; omega))))
    · exact ev_pos rfl (ev_pos rfl (ev_ite (fun c3 => K1 (by simp; omega)) (fun c3 => K0 (by simp; omega))))
    · exact ev_pos rfl (ev_pos rfl (ev_ite (fun c3 => K1 (by simp; omega)) (fun c3 => K0 (by simp; omega))))
    · exact ev_pos rfl (ev_ite (fun c3 => ev_pos rfl (ev_ite (fun c4 => K1 (by simp; omega)) (fun c4 => K0 (by simp; omega)))) (fun c3 => ev_pos rfl (ev_ite (fun c4 => K1 (by simp; omega)) (fun c4 => K0 (by simp; omega)))))
theorem refDuty_ev (r a p : Int) (hm : Bool) (m : Int) (hl : Bool) (l : Int) : Ev (fun k => customsref17_Duty.f k r a p hm m hl l) (dvalid r a p hm m hl l) := by
  unfold customsref17_Duty.f
  simp only [in_eq]
  have bad : (¬ rt r ∨ a < 0 ∨ a > 100000000 ∨ (a = 0 ∧ p ≠ 0) ∨ (a > 0 ∧ (p < 1 ∨ p > 1000000)) ∨ ¬ rt m ∨ ¬ rt l) → Ev (fun k => customsref17_Duty.j0 k true r a p hm m hl l) (dvalid r a p hm m hl l) := fun h => rdv_j0 _ _ _ _ _ _ _ _ (fun _ => dv_range h) (fun hb => by cases hb)
  have last : rt r → 0 ≤ a → a ≤ 100000000 → (a = 0 → p = 0) → (a > 0 → 1 ≤ p ∧ p ≤ 1000000) → Ev (fun k => (some (decide (0 ≤ m ∧ m ≤ 10000000))).bind fun t151 => (if t151 = true then ((some (decide (0 ≤ l ∧ l ≤ 10000000))).bind fun t152 => (customsref17_Duty.j0 k (!t152) r a p hm m hl l)) else (customsref17_Duty.j0 k true r a p hm m hl l))) (dvalid r a p hm m hl l) := by
    intro h1 h2 h3 h4 h5
    refine ev_let ?_
    by_cases c1 : rt m
    · refine ev_pos (decide_eq_true c1) (ev_let ?_)
      by_cases c2 : rt l
      · rw [decide_eq_true c2]
        exact rdv_j0 _ _ _ _ _ _ _ _ (fun hb => by cases hb) (fun _ => by omega)
      · rw [decide_eq_false c2]
        exact bad (by omega)
    · exact ev_neg (fun c => c1 (of_decide_eq_true c)) (bad (by omega))
  refine ev_let ?_
  by_cases c1 : rt r
  · refine ev_pos (decide_eq_true c1) (ev_let ?_)
    by_cases c2 : 0 ≤ a ∧ a ≤ 100000000
    · refine ev_pos (decide_eq_true c2) (ev_ite (fun c3 => ev_ite (fun c4 => bad (by omega)) (fun c4 => ev_ite (fun c5 => bad (by omega)) (fun c5 => ev_neg (by omega) (last c1 c2.1 c2.2 (by omega) (by omega))))) (fun c3 => ev_pos (by omega) (ev_ite (fun c4 => last c1 c2.1 c2.2 (by omega) (by omega)) (fun c4 => bad (by omega)))))
    · exact ev_neg (fun c => c2 (of_decide_eq_true c)) (bad (by omega))
  · exact ev_neg (fun c => c1 (of_decide_eq_true c)) (bad (by omega))
end Go.Proofs.YtfpkgdkcllobiaaDoor.D
end
section
namespace Go.Proofs.YtfpkgdkcllobiaaDoor.D
set_option linter.unusedVariables false
set_option linter.unusedSimpArgs false
open Go.RowKit Go.Proofs.YtfpkgdkcllobiaaDoorW.PrintWords Go.Proofs.YtfpkgdkcllobiaaDoorW.PrintMore Go.Proofs.YtfpkgdkcllobiaaDoor.F Go.Lib
/-- The reference writes the places behind the point as long as there is a rest. -/
def rest4 : Nat → Nat → List UInt8
  | 0, _ => []
  | j + 1, x => if x > 0 then dg (x / 10 ^ j) :: rest4 j (x % 10 ^ j) else []
theorem rest_tr (x : Nat) (h : x < 10000) (h0 : x > 0) : rest4 4 x = tr x := by
  unfold tr
  show (if x > 0 then dg (x / 1000) :: (if x % 1000 > 0 then dg (x % 1000 / 100) :: (if x % 1000 % 100 > 0 then dg (x % 1000 % 100 / 10) :: (if x % 1000 % 100 % 10 > 0 then dg (x % 1000 % 100 % 10 / 1) :: [] else []) else []) else []) else []) = _
  rw [if_pos h0, show x / 1000 % 10 = x / 1000 by omega]
  congr 1
  by_cases c1 : x % 1000 = 0
  · rw [if_pos c1, if_neg (by omega)]
  · rw [if_neg c1, if_pos (by omega), show x % 1000 / 100 = x / 100 % 10 by omega]
    congr 1
    by_cases c2 : x % 100 = 0
    · rw [if_pos c2, if_neg (by omega)]
    · rw [if_neg c2, if_pos (by omega), show x % 1000 % 100 / 10 = x / 10 % 10 by omega]
      congr 1
      by_cases c3 : x % 10 = 0
      · rw [if_pos c3, if_neg (by omega)]
      · rw [if_neg c3, if_pos (by omega), show x % 1000 % 100 % 10 / 1 = x % 10 by omega]
theorem rest_len (j : Nat) : ∀ x, (rest4 j x).length ≤ j := by
  induction j with
  | zero => intro x; simp [rest4]
  | succ j ih =>
    intro x
    rw [rest4]
    split
    · rw [List.length_cons]; have := ih (x % 10 ^ j); omega
    · simp
theorem perc_l (j : Nat) : ∀ (x : Nat) (s : List UInt8), j ≤ 4 → x < 10 ^ j → s.length + j ≤ 100 →
    Ev (fun k => customsref12_Percent.l0 k ⟨s.toArray⟩ (x : Int) (if j = 0 then 0 else (10 : Int) ^ (j - 1))) ⟨(s ++ rest4 j x ++ [37]).toArray⟩ := by
  induction j with
  | zero =>
    intro x s _ hx hs
    have : x = 0 := by simpa using hx
    subst this
    refine Ev.step (fun k => by rw [customsref12_Percent.l0]) (ev_neg (by decide) ?_)
    rw [size_mk]
    refine ev_pos (by omega) ?_
    rw [show (⟨#[37]⟩ : ByteArray) = ⟨[37].toArray⟩ from rfl, mk_append, rest4, List.append_nil]
    exact Ev.now _
  | succ j ih =>
    intro x s hj hx hs
    rw [if_neg (by omega), Nat.add_sub_cancel]
    rw [rest4]
    refine Ev.step (fun k => by rw [customsref12_Percent.l0]) ?_
    by_cases c : x > 0
    · rw [if_pos c]
      have hp : (10 : Nat) ^ j > 0 := Nat.pow_pos (by decide)
      have hp4 : (10 : Nat) ^ j ≤ 1000 := by
        have : j = 0 ∨ j = 1 ∨ j = 2 ∨ j = 3 := by omega
        rcases this with rfl | rfl | rfl | rfl <;> decide
      have hd : x / 10 ^ j < 10 := by
        rw [Nat.div_lt_iff_lt_mul hp]
        rw [Nat.pow_succ] at hx
        omega
      have ei : (10 : Int) ^ j = ((10 ^ j : Nat) : Int) := by rw [Int.natCast_pow]; rfl
      have hx2 : x ≤ 10000 := by
        have : (10 : Nat) ^ (j + 1) ≤ 10000 := by rw [Nat.pow_succ]; omega
        omega
      have hq : x / 10 ^ j ≤ x := Nat.div_le_self _ _
      have ed : wrap64 (Int.tdiv (x : Int) ((10 : Int) ^ j)) = ((x / 10 ^ j : Nat) : Int) := by
        rw [ei, tdiv_pos (by omega), ← Int.natCast_ediv]
        generalize x / 10 ^ j = Q at hq ⊢
        exact w64 (by omega) (by omega)
      have em : Int.tmod (x : Int) ((10 : Int) ^ j) = ((x % 10 ^ j : Nat) : Int) := by
        rw [ei, tmod_pos (by omega), ← Int.natCast_emod]
      have ep : wrap64 (Int.tdiv ((10 : Int) ^ j) 10) = (if j = 0 then 0 else (10 : Int) ^ (j - 1)) := by
        have : j = 0 ∨ j = 1 ∨ j = 2 ∨ j = 3 := by omega
        rcases this with rfl | rfl | rfl | rfl <;> decide +kernel
      refine ev_pos (by omega) (ev_neg (by rw [ei]; omega) ?_)
      rw [ed, em, ep]
      refine ev_bind (digits_ev _ (by omega)) ?_
      rw [dec_small hd, size_mk, size_mk]
      refine ev_pos (by rw [List.length_singleton]; omega) ?_
      rw [mk_append]
      have := ih (x % 10 ^ j) (s ++ [dg (x / 10 ^ j)]) (by omega) (Nat.mod_lt _ hp) (by rw [List.length_append, List.length_singleton]; omega)
      rw [List.append_assoc s, List.singleton_append] at this
      exact this
    · rw [if_neg c, List.append_nil]
      refine ev_neg (by omega) ?_
      rw [size_mk]
      refine ev_pos (by omega) ?_
      rw [show (⟨#[37]⟩ : ByteArray) = ⟨[37].toArray⟩ from rfl, mk_append]
      exact Ev.now _
theorem rpercent_ev (n : Nat) (h : n ≤ 10000000) : Ev (fun k => customsref12_Percent.f k (n : Int)) ⟨(pct n).toArray⟩ := by
  unfold customsref12_Percent.f
  have l1 := dec_len_20 (n / 10000) (by omega)
  rw [tdiv_pos (by omega), tmod_pos (by omega), w64 (x := (n : Int) / 10000) (by omega) (by omega), show (n : Int) / 10000 = ((n / 10000 : Nat) : Int) by omega]
  refine ev_bind (digits_ev _ (by omega)) ?_
  rw [size_mk]
  unfold pct
  by_cases c : n % 10000 > 0
  · rw [if_pos c, ← rest_tr _ (by omega) c]
    refine ev_pos (by omega) (ev_pos (by omega) ?_)
    rw [show (⟨#[46]⟩ : ByteArray) = ⟨[46].toArray⟩ from rfl, mk_append]
    have := perc_l 4 (n % 10000) (decDigits (n / 10000) ++ [46]) (by omega) (by omega) (by rw [List.length_append, List.length_singleton]; omega)
    rw [if_neg (by omega), show (10 : Int) ^ (4 - 1) = 1000 from rfl, List.append_assoc (decDigits (n / 10000)), List.singleton_append] at this
    rw [show (n : Int) % 10000 = ((n % 10000 : Nat) : Int) by omega]
    exact this
  · rw [if_neg c, List.append_nil]
    refine ev_neg (by omega) (ev_pos (by omega) ?_)
    rw [show (⟨#[37]⟩ : ByteArray) = ⟨[37].toArray⟩ from rfl, mk_append]
    exact Ev.now _
theorem rform_j0 (s : List UInt8) (hs : s.length ≤ 70) (r a p : Int) (hm : Bool) (m : Nat) (hl : Bool) (l : Nat) (m1 : m ≤ 10000000) (l1 : l ≤ 10000000) :
    Ev (fun k => customsref17_FormatDuty.j0 k ⟨s.toArray⟩ r a p hm (m : Int) hl (l : Int)) ⟨(s ++ (if hm = true then sMost ++ pct m else []) ++ (if hl = true then sLeast ++ pct l else [])).toArray⟩ := by
  refine Ev.step (fun k => by rw [customsref17_FormatDuty.j0]) ?_
  have e1 := pct_len m m1
  have e2 := pct_len l l1
  have q1 : (⟨#[32, 109, 97, 120, 32]⟩ : ByteArray) = ⟨sMost.toArray⟩ := rfl
  have q2 : (⟨#[32, 109, 105, 110, 32]⟩ : ByteArray) = ⟨sLeast.toArray⟩ := rfl
  rw [q1, q2, size_mk]
  cases hm with
  | true =>
    refine ev_pos rfl (ev_pos (by omega) (ev_bind (rpercent_ev m m1) ?_))
    rw [size_mk]
    refine ev_pos (by omega) ?_
    cases hl with
    | true =>
      refine ev_pos rfl (ev_pos (by omega) (ev_bind (rpercent_ev l l1) ?_))
      rw [size_mk]
      refine ev_pos (by omega) ?_
      rw [mk_append, mk_append, mk_append, mk_append]
      show Ev (fun _ => some (⟨(s ++ sMost ++ pct m ++ sLeast ++ pct l).toArray⟩ : ByteArray)) ⟨(s ++ (sMost ++ pct m) ++ (sLeast ++ pct l)).toArray⟩
      simp only [List.append_assoc]
      exact Ev.now _
    | false =>
      refine ev_neg (show ¬ (false = true) by decide) ?_
      rw [mk_append, mk_append]
      show Ev (fun _ => some (⟨(s ++ sMost ++ pct m).toArray⟩ : ByteArray)) ⟨(s ++ (sMost ++ pct m) ++ []).toArray⟩
      simp only [List.append_assoc, List.append_nil]
      exact Ev.now _
  | false =>
    refine ev_neg (show ¬ (false = true) by decide) ?_
    rw [if_neg (show ¬ (false = true) by decide), List.append_nil]
    cases hl with
    | true =>
      refine ev_pos rfl (ev_pos (by omega) (ev_bind (rpercent_ev l l1) ?_))
      rw [size_mk]
      refine ev_pos (by omega) ?_
      rw [mk_append, mk_append]
      show Ev (fun _ => some (⟨(s ++ sLeast ++ pct l).toArray⟩ : ByteArray)) ⟨(s ++ (sLeast ++ pct l)).toArray⟩
      simp only [List.append_assoc]
      exact Ev.now _
    | false =>
      refine ev_neg (show ¬ (false = true) by decide) ?_
      rw [if_neg (show ¬ (false = true) by decide), List.append_nil]
      exact Ev.now _
theorem rform_ev (r a p : Int) (hm : Bool) (m : Int) (hl : Bool) (l : Int) : Ev (fun k => customsref17_FormatDuty.f k r a p hm m hl l) (fmtDB r a p hm m hl l) := by
  unfold customsref17_FormatDuty.f fmtDB
  refine ev_bind (refDuty_ev r a p hm m hl l) ?_
  by_cases hv : dvalid r a p hm m hl l = 0
  · rw [if_pos hv]
    refine ev_pos hv ?_
    have hN := nats_of hv
    generalize r.toNat = R at hN ⊢
    generalize a.toNat = A at hN ⊢
    generalize p.toNat = P at hN ⊢
    generalize m.toNat = M at hN ⊢
    generalize l.toNat = L at hN ⊢
    obtain ⟨rfl, rfl, rfl, rfl, rfl, r1, a1, p1, m1, l1, ap, pa⟩ := hN
    have lr := pct_len R r1
    have lf := fmtL_len A (by omega)
    have lp := dec_len_20 P (by omega)
    have ls := sp_len A P a1 p1
    unfold fmtD hd
    refine ev_bind (rpercent_ev R r1) ?_
    by_cases ca : A = 0
    · rw [if_pos ca]
      exact ev_neg (by omega) (rform_j0 _ (by omega) _ _ _ _ _ _ _ m1 l1)
    · rw [if_neg ca]
      refine ev_pos (by omega) (ev_bind (refFormat_ev _) ?_)
      rw [fmtB_nat A a1, size_mk]
      refine ev_pos (by omega) (ev_bind (digits_ev P (by omega)) ?_)
      rw [size_mk, show (⟨#[47]⟩ : ByteArray) = ⟨[47].toArray⟩ from rfl, mk_append, mk_append, List.append_assoc (fmtL A), List.singleton_append]
      refine ev_pos (by omega) ?_
      by_cases cr : R = 0
      · rw [if_pos cr]
        exact ev_pos (by omega) (rform_j0 (sp A P) (by omega) _ _ _ _ _ _ _ m1 l1)
      · rw [if_neg cr, size_mk]
        refine ev_neg (by omega) (ev_pos (by omega) (ev_pos (by omega) ?_))
        rw [show (⟨#[32, 43, 32]⟩ : ByteArray) = ⟨sPlus.toArray⟩ from rfl, mk_append, mk_append]
        exact rform_j0 (pct R ++ sPlus ++ sp A P) (by unfold sPlus; simp only [List.length_append, List.length_cons, List.length_nil]; omega) _ _ _ _ _ _ _ m1 l1
  · rw [if_neg hv]
    exact ev_neg hv (Ev.now _)
end Go.Proofs.YtfpkgdkcllobiaaDoor.D
end
section
namespace Go.Proofs.YtfpkgdkcllobiaaDoor.D
set_option linter.unusedVariables false
set_option linter.unusedSimpArgs false
open Go.RowKit Go.Proofs.YtfpkgdkcllobiaaDoorW.PrintWords Go.Proofs.YtfpkgdkcllobiaaDoorW.PrintMore Go.Proofs.YtfpkgdkcllobiaaDoor.F
theorem within_ev (a n : Int) (h0 : 1 ≤ n) (h1 : n ≤ 1000000000000000) : ∃ v, customsmade_Within.f a n = some v ∧ 0 ≤ v ∧ v < n := by
  unfold customsmade_Within.f
  rw [if_neg (by omega)]
  have h2 : -n < Int.tmod a n ∧ Int.tmod a n < n := by
    have := Int.tmod_lt_of_pos a (show 0 < n by omega)
    have h3 := Int.tmod_lt_of_pos (-a) (show 0 < n by omega)
    rw [Int.neg_tmod] at h3
    omega
  rw [w64 (by omega) (by omega), tmod_pos (by omega)]
  exact ⟨_, rfl, Int.emod_nonneg _ (by omega), Int.emod_lt_of_pos _ (by omega)⟩
theorem src_next (xs : List Int) (hl : xs.length ≤ 1000000000000) (n : Int) (h0 : 1 ≤ n) (h1 : n ≤ 1000000000000000) (p : Nat) (hp : p ≤ xs.length) :
    ∃ (v : Int) (q : Nat), customsmade_Source_Next.f xs (p : Int) n = some (v, (q : Int)) ∧ q ≤ xs.length ∧ 0 ≤ v ∧ v < n := by
  unfold customsmade_Source_Next.f
  by_cases h : p < xs.length
  · rw [if_neg (by omega), w64 (x := (p : Int) + 1) (by omega) (by omega), w64 (by omega) (by omega), if_pos (by omega), if_pos (by omega)]
    obtain ⟨v, e, v0, v1⟩ := within_ev (rd xs ((p : Int) + 1 - 1)) n h0 h1
    rw [e]
    exact ⟨v, p + 1, rfl, by omega, v0, v1⟩
  · rw [if_pos (by omega)]
    exact ⟨0, p, rfl, hp, by omega, by omega⟩
theorem src_rate (xs : List Int) (hl : xs.length ≤ 1000000000000) (p : Nat) (hp : p ≤ xs.length) :
    ∃ (v : Int) (q : Nat), customsmade_Source_rate.f xs (p : Int) = some (v, (q : Int)) ∧ q ≤ xs.length ∧ 0 ≤ v ∧ v ≤ 1000000 := by
  unfold customsmade_Source_rate.f
  obtain ⟨v, q, e, hq, v0, v1⟩ := src_next xs hl 4 (by decide) (by decide) p hp
  rw [e]
  show ∃ (v_1 : Int) (q_1 : Nat), (if v > 0 then _ else _) = _ ∧ _
  by_cases h : v > 0
  · obtain ⟨v', q', e', hq', v0', v1'⟩ := src_next xs hl 101 (by decide) (by decide) q hq
    refine ⟨10000 * v', q', ?_, hq', by omega, by omega⟩
    rw [if_pos h]
    show (customsmade_Source_Next.f xs (q : Int) 101).bind _ = _
    rw [e']
    show some (wrap64 (10000 * v'), (q' : Int)) = _
    rw [w64 (by omega) (by omega)]
  · obtain ⟨v', q', e', hq', v0', v1'⟩ := src_next xs hl 1000001 (by decide) (by decide) q hq
    refine ⟨v', q', ?_, hq', by omega, by omega⟩
    rw [if_neg h]
    show (customsmade_Source_Next.f xs (q : Int) 1000001).bind _ = _
    rw [e']
    rfl
/-- What a made duty is. -/
structure Made (r a p : Int) (hm : Bool) (m : Int) (hl : Bool) (l : Int) : Prop where
  r0 : 0 ≤ r
  r1 : r ≤ 250000
  a0 : 0 ≤ a
  a1 : a ≤ 500
  p0 : a = 0 → p = 0
  p1 : a > 0 → 1 ≤ p ∧ p ≤ 1000000
  m0 : 0 ≤ m
  m1 : m ≤ 1000000
  l0 : 0 ≤ l
  l1 : l ≤ 1000000
  hm0 : hm = false → m = 0
  hl0 : hl = false → l = 0
  lm : hm = true → hl = true → l ≤ m
theorem Made.valid {r a p : Int} {hm : Bool} {m : Int} {hl : Bool} {l : Int} (h : Made r a p hm m hl l) : dvalid r a p hm m hl l = 0 :=
  dvalid_ok.2 ⟨⟨h.r0, by have := h.r1; omega⟩, h.a0, by have := h.a1; omega, h.p0, h.p1, ⟨h.m0, by have := h.m1; omega⟩, ⟨h.l0, by have := h.l1; omega⟩, h.hm0, h.hl0, h.lm⟩
theorem duty_j2 (xs : List Int) (hx : xs.length ≤ 1000000000000) (p : Nat) (hp : p ≤ xs.length) (r a pr : Int) (hm : Bool) (m : Int) (m0 : 0 ≤ m) (m1 : m ≤ 1000000) :
    ∃ (hl : Bool) (l : Int) (q : Int), Ev (fun k => customsmade_Source_duty.j2 k xs (p : Int) r a pr hm m false 0) (r, a, pr, hm, m, hl, l, q) ∧ 0 ≤ l ∧ l ≤ 1000000 ∧ (hl = false → l = 0) ∧ (hm = true → hl = true → l ≤ m) := by
  obtain ⟨v, q, e, hq, v0, v1⟩ := src_next xs hx 4 (by decide) (by decide) p hp
  by_cases h : v = 1
  · obtain ⟨v', q', e', hq', v0', v1'⟩ := src_rate xs hx q hq
    have ed : wrap64 (Int.tdiv v' 8) = v' / 8 := by rw [tdiv_pos v0', w64 (by omega) (by omega)]
    cases hm with
    | true =>
      refine ⟨true, mn (v' / 8) m, q', Ev.step (fun k => by rw [customsmade_Source_duty.j2]) (ev_bind (ev_const e) (ev_pos h (ev_bind (ev_const e') (ev_pos rfl ?_)))), ?_, ?_, (fun h => by cases h), fun _ _ => ?_⟩
      · show Ev (fun _ => some (r, a, pr, true, m, true, mn (wrap64 (Int.tdiv v' 8)) m, (q' : Int))) _
        rw [ed]
        exact Ev.now _
      · unfold mn; split <;> omega
      · unfold mn; split <;> omega
      · unfold mn; split <;> omega
    | false =>
      refine ⟨true, v' / 8, q', Ev.step (fun k => by rw [customsmade_Source_duty.j2]) (ev_bind (ev_const e) (ev_pos h (ev_bind (ev_const e') (ev_neg (show ¬ (false = true) by decide) ?_)))), by omega, by omega, (fun h => by cases h), fun h => by cases h⟩
      show Ev (fun _ => some (r, a, pr, false, m, true, wrap64 (Int.tdiv v' 8), (q' : Int))) _
      rw [ed]
      exact Ev.now _
  · exact ⟨false, 0, q, Ev.step (fun k => by rw [customsmade_Source_duty.j2]) (ev_bind (ev_const e) (ev_neg h (Ev.now _))), by omega, by omega, fun _ => rfl, fun _ h => by cases h⟩
theorem duty_j1 (xs : List Int) (hx : xs.length ≤ 1000000000000) (p : Nat) (hp : p ≤ xs.length) (r a pr : Int) :
    ∃ (hm : Bool) (m : Int) (hl : Bool) (l : Int) (q : Int), Ev (fun k => customsmade_Source_duty.j1 k xs (p : Int) r a pr false 0 false 0) (r, a, pr, hm, m, hl, l, q) ∧ 0 ≤ m ∧ m ≤ 1000000 ∧ (hm = false → m = 0) ∧ 0 ≤ l ∧ l ≤ 1000000 ∧ (hl = false → l = 0) ∧ (hm = true → hl = true → l ≤ m) := by
  obtain ⟨v, q, e, hq, v0, v1⟩ := src_next xs hx 4 (by decide) (by decide) p hp
  by_cases h : v = 1
  · obtain ⟨v', q', e', hq', v0', v1'⟩ := src_rate xs hx q hq
    obtain ⟨hl, l, z, he, l0, l1, l2, l3⟩ := duty_j2 xs hx q' hq' r a pr true v' v0' v1'
    exact ⟨true, v', hl, l, z, Ev.step (fun k => by rw [customsmade_Source_duty.j1]) (ev_bind (ev_const e) (ev_pos h (ev_bind (ev_const e') he))), v0', v1', (fun h => by cases h), l0, l1, l2, l3⟩
  · obtain ⟨hl, l, z, he, l0, l1, l2, l3⟩ := duty_j2 xs hx q hq r a pr false 0 (by omega) (by omega)
    exact ⟨false, 0, hl, l, z, Ev.step (fun k => by rw [customsmade_Source_duty.j1]) (ev_bind (ev_const e) (ev_neg h he)), by omega, by omega, fun _ => rfl, l0, l1, l2, l3⟩
theorem rd_five {v : Int} (h0 : 0 ≤ v) (h1 : v < 5) : 1 ≤ rd [1, 100, 1000, 1000000, 7] v ∧ rd [1, 100, 1000, 1000000, 7] v ≤ 1000000 := by
  have : v = 0 ∨ v = 1 ∨ v = 2 ∨ v = 3 ∨ v = 4 := by omega
  rcases this with rfl | rfl | rfl | rfl | rfl <;> exact ⟨by decide, by decide⟩
theorem duty_j0 (xs : List Int) (hx : xs.length ≤ 1000000000000) (p : Nat) (hp : p ≤ xs.length) (r : Int) (r0 : 0 ≤ r) (r1 : r ≤ 250000) :
    ∃ (a pr : Int) (hm : Bool) (m : Int) (hl : Bool) (l : Int) (q : Int), Ev (fun k => customsmade_Source_duty.j0 k xs (p : Int) r 0 0 false 0 false 0) (r, a, pr, hm, m, hl, l, q) ∧ Made r a pr hm m hl l := by
  obtain ⟨v, q, e, hq, v0, v1⟩ := src_next xs hx 3 (by decide) (by decide) p hp
  by_cases h : v = 1
  · obtain ⟨v', q', e', hq', v0', v1'⟩ := src_next xs hx 500 (by decide) (by decide) q hq
    obtain ⟨v2, q2, e2, hq2, v02, v12⟩ := src_next xs hx 5 (by decide) (by decide) q' hq'
    have h5 := rd_five v02 v12
    obtain ⟨hm, m, hl, l, z, he, m0, m1, m2, l0, l1, l2, l3⟩ := duty_j1 xs hx q2 hq2 r (1 + v') (rd [1, 100, 1000, 1000000, 7] v2)
    refine ⟨1 + v', _, hm, m, hl, l, z, Ev.step (fun k => by rw [customsmade_Source_duty.j0]) (ev_bind (ev_const e) (ev_pos h (ev_bind (ev_const e') (ev_let (ev_bind (ev_const e2) (ev_pos v02 (ev_pos v12 ?_))))))), ⟨r0, r1, by omega, by omega, (fun h => by omega), (fun _ => h5), m0, m1, l0, l1, m2, l2, l3⟩⟩
    rw [w64 (x := 1 + v') (by omega) (by omega)]
    exact he
  · obtain ⟨hm, m, hl, l, z, he, m0, m1, m2, l0, l1, l2, l3⟩ := duty_j1 xs hx q hq r 0 0
    exact ⟨0, 0, hm, m, hl, l, z, Ev.step (fun k => by rw [customsmade_Source_duty.j0]) (ev_bind (ev_const e) (ev_neg h he)), ⟨r0, r1, by omega, by omega, fun _ => rfl, fun h => by omega, m0, m1, l0, l1, m2, l2, l3⟩⟩
theorem src_duty_ev (xs : List Int) (hx : xs.length ≤ 1000000000000) : ∃ (r a p : Int) (hm : Bool) (m : Int) (hl : Bool) (l q : Int), Ev (fun k => customsmade_Source_duty.f k xs 0) (r, a, p, hm, m, hl, l, q) ∧ Made r a p hm m hl l := by
  obtain ⟨v, q, e, hq, v0, v1⟩ := src_next xs hx 3 (by decide) (by decide) 0 (by omega)
  by_cases h : v > 0
  · obtain ⟨v', q', e', hq', v0', v1'⟩ := src_rate xs hx q hq
    obtain ⟨a, pr, hm, m, hl, l, z, he, hM⟩ := duty_j0 xs hx q' hq' (v' / 4) (by omega) (by omega)
    refine ⟨_, a, pr, hm, m, hl, l, z, ev_bind (ev_const e) (ev_pos h (ev_bind (ev_const e') ?_)), hM⟩
    show Ev (fun k => customsmade_Source_duty.j0 k xs (q' : Int) (wrap64 (Int.tdiv v' 4)) 0 0 false 0 false 0) _
    rw [tdiv_pos v0', w64 (by omega) (by omega)]
    exact he
  · obtain ⟨a, pr, hm, m, hl, l, z, he, hM⟩ := duty_j0 xs hx q hq 0 (by omega) (by omega)
    exact ⟨_, a, pr, hm, m, hl, l, z, ev_bind (ev_const e) (ev_neg h he), hM⟩
theorem made_ev (l0 : List Int) : ∃ (r a p : Int) (hm : Bool) (m : Int) (hl : Bool) (l : Int), Ev (fun k => customsmade_Duty.f k l0) (r, a, p, hm, m, hl, l) ∧ Made r a p hm m hl l := by
  obtain ⟨r, a, p, hm, m, hl, l, q, he, hM⟩ := src_duty_ev (l0.take 12) (by rw [List.length_take]; omega)
  exact ⟨r, a, p, hm, m, hl, l, ev_bind he (Ev.now _), hM⟩
theorem amount_small (n : Int) : ∃ v, customslaw18_amount.f n true = some v ∧ 0 ≤ v ∧ v < 100000 := by
  obtain ⟨v, e, v0, v1⟩ := within_ev n 100000 (by decide) (by decide)
  exact ⟨v, by unfold customslaw18_amount.f; rw [if_pos rfl, e]; rfl, v0, v1⟩
end Go.Proofs.YtfpkgdkcllobiaaDoor.D
end
section
namespace Go.Proofs.YtfpkgdkcllobiaaDoor.D
open Go.Joins Go.ChangeShapes Go.WideShapes Go.RowKit Go.Deep
section
variable {H : Type} {enc : TypeId × Value → H} {P : Program} {w : World} {base : Nat} {spare : Nat → Bool} {held : Bool}
theorem open_agg7 {r : Reach} {b0 : Nat} {t : TypeId} {f0 f1 f2 f3 f4 f5 f6 : Field} {v : Value} {d : DataW H} {p : List MemPlace} (hs : P.underlying t = some (.struct #[f0, f1, f2, f3, f4, f5, f6])) (hone : oneCellFields P #[f0, f1, f2, f3, f4, f5, f6] = true) (hC : P.cellsOf t = 7)
    (hv : Value.okWide P w r b0 t v) (h : DataW.Trod enc P w base spare held t v d p) :
    ∃ (v0 v1 v2 v3 v4 v5 v6 : Value) (y0 y1 y2 y3 y4 y5 y6 : DataW H × List MemPlace) (n : Nat), v = .agg #[v0, v1, v2, v3, v4, v5, v6] ∧ d = .agg [y0.1, y1.1, y2.1, y3.1, y4.1, y5.1, y6.1] ∧ p = y0.2 ++ (y1.2 ++ (y2.2 ++ (y3.2 ++ (y4.2 ++ (y5.2 ++ y6.2))))) ∧
      DataW.trod enc P w base spare held n f0.type [v0] = some y0 ∧ DataW.trod enc P w base spare held n f1.type [v1] = some y1 ∧ DataW.trod enc P w base spare held n f2.type [v2] = some y2 ∧ DataW.trod enc P w base spare held n f3.type [v3] = some y3 ∧ DataW.trod enc P w base spare held n f4.type [v4] = some y4 ∧ DataW.trod enc P w base spare held n f5.type [v5] = some y5 ∧ DataW.trod enc P w base spare held n f6.type [v6] = some y6 := by
  obtain ⟨cs, rfl, hsz⟩ := okWide_struct hs hv
  obtain ⟨l⟩ := cs
  match l, hsz.trans hC with
  | [c0, c1, c2, c3, c4, c5, c6], _ =>
    obtain ⟨fuel, hf⟩ := h
    obtain ⟨xs, n, _, hx, _, hlen, hg⟩ := DataW.trod_struct hs hf
    obtain ⟨o0, k0⟩ := hone_of hone 0 f0 rfl
    obtain ⟨o1, k1⟩ := hone_of hone 1 f1 rfl
    obtain ⟨o2, k2⟩ := hone_of hone 2 f2 rfl
    obtain ⟨o3, k3⟩ := hone_of hone 3 f3 rfl
    obtain ⟨o4, k4⟩ := hone_of hone 4 f4 rfl
    obtain ⟨o5, k5⟩ := hone_of hone 5 f5 rfl
    obtain ⟨o6, k6⟩ := hone_of hone 6 f6 rfl
    match xs, hlen with
    | [y0, y1, y2, y3, y4, y5, y6], _ =>
      simp only [Prod.mk.injEq] at hx
      exact ⟨c0, c1, c2, c3, c4, c5, c6, y0, y1, y2, y3, y4, y5, y6, n, rfl, by simpa using hx.1, by simpa using hx.2, by simpa [Value.cells, o0, k0] using hg 0 f0 rfl, by simpa [Value.cells, o1, k1] using hg 1 f1 rfl, by simpa [Value.cells, o2, k2] using hg 2 f2 rfl, by simpa [Value.cells, o3, k3] using hg 3 f3 rfl, by simpa [Value.cells, o4, k4] using hg 4 f4 rfl, by simpa [Value.cells, o5, k5] using hg 5 f5 rfl, by simpa [Value.cells, o6, k6] using hg 6 f6 rfl⟩
end
end Go.Proofs.YtfpkgdkcllobiaaDoor.D
end
section
namespace Go.Proofs.YtfpkgdkcllobiaaDoor.Pure
set_option linter.unusedVariables false
open Go.RowKit Go.Proofs.YtfpkgdkcllobiaaDoor.F Go.Proofs.YtfpkgdkcllobiaaDoor.D Go.Proofs.YtfpkgdkcllobiaaDoorW.PrintWords Go.Proofs.YtfpkgdkcllobiaaDoorW.PrintLast Go.Proofs.YtfpkgdkcllobiaaDoorW.PrintMore
theorem DutyFormat (l0 : List Int) (a1_0 a1_1 a1_2 : Int) (a1_3 : Bool) (a1_4 : Int) (a1_5 : Bool) (a1_6 : Int) : ∃ k, customslaw18_DutyFormat.f k l0 a1_0 a1_1 a1_2 a1_3 a1_4 a1_5 a1_6 = some true := by
  refine Ev.rounds ?_
  obtain ⟨r, a, p, hm, m, hl, l, he, hM⟩ := made_ev l0
  unfold customslaw18_DutyFormat.f
  refine ev_bind he (ev_bind (form_ev r a p hm m hl l) (ev_bind (rform_ev r a p hm m hl l) (ev_pos rfl (ev_bind (form_ev _ _ _ _ _ _ _) (ev_bind (rform_ev _ _ _ _ _ _ _) ?_)))))
  rw [show ((fmtDB a1_0 a1_1 a1_2 a1_3 a1_4 a1_5 a1_6).toList != (fmtDB a1_0 a1_1 a1_2 a1_3 a1_4 a1_5 a1_6).toList) = false by simp]
  refine Ev.step (fun k => by rw [customslaw18_DutyFormat.j0]) (ev_neg (show ¬ (false = true) by decide) (ev_bind (dparse_fmt hM.valid) ?_))
  refine ev_pos ?_ (ev_pos rfl (ev_bind awake_ev (Ev.now _)))
  show (r == r && (a == a && (p == p && (hm == hm && (m == m && (hl == hl && l == l)))))) = true
  simp
end Go.Proofs.YtfpkgdkcllobiaaDoor.Pure
end
