/- Part 12 of the proof of the law DutyEvaluate (its walk through the code, and the plain laws over numbers and texts). Conditions: none. -/
import Derived.Test.YtfpkgdkcllobiaaDoorZDutyEvaluate11
import Derived.Lib.TrimByte
import Derived.Test.YtfpkgdkcllobiaaDoorRows
section
namespace Go.Proofs.YtfpkgdkcllobiaaDoor.D
set_option linter.unusedVariables false
set_option linter.unusedSimpArgs false
open Go.RowKit Go.Proofs.YtfpkgdkcllobiaaDoorW.PrintWords Go.Proofs.YtfpkgdkcllobiaaDoorW.PrintMore Go.Proofs.YtfpkgdkcllobiaaDoor.F Go.Lib
def dg (d : Nat) : UInt8 := UInt8.ofNat (48 + d)
theorem dg_nat {d : Nat} (h : d < 10) : (dg d).toNat = 48 + d := toNat_dig d h
theorem dg_zero {d : Nat} (h : d < 10) : dg d = 48 ↔ d = 0 := by
  constructor
  · intro e
    have := dg_nat h
    rw [e] at this
    simp at this
    omega
  · rintro rfl; rfl
def tr (r : Nat) : List UInt8 := dg (r / 1000 % 10) :: (if r % 1000 = 0 then [] else dg (r / 100 % 10) :: (if r % 100 = 0 then [] else dg (r / 10 % 10) :: (if r % 10 = 0 then [] else [dg (r % 10)])))
def pct (n : Nat) : List UInt8 := decDigits (n / 10000) ++ (if n % 10000 > 0 then 46 :: tr (n % 10000) else []) ++ [37]
def sp (a p : Nat) : List UInt8 := fmtL a ++ 47 :: decDigits p
def sMost : List UInt8 := [32, 109, 97, 120, 32]
def sLeast : List UInt8 := [32, 109, 105, 110, 32]
def sPlus : List UInt8 := [32, 43, 32]
def hd (r a p : Nat) : List UInt8 := if a = 0 then pct r else if r = 0 then sp a p else pct r ++ sPlus ++ sp a p
def fmtD (r a p : Nat) (hm : Bool) (m : Nat) (hl : Bool) (l : Nat) : List UInt8 := hd r a p ++ (if hm = true then sMost ++ pct m else []) ++ (if hl = true then sLeast ++ pct l else [])
def fmtDB (r a p : Int) (hm : Bool) (m : Int) (hl : Bool) (l : Int) : ByteArray := if dvalid r a p hm m hl l = 0 then ⟨(fmtD r.toNat a.toNat p.toNat hm m.toNat hl l.toNat).toArray⟩ else ⟨#[]⟩
theorem tr_len (r : Nat) : (tr r).length ≤ 4 := by unfold tr; (repeat' split) <;> simp
theorem pct_len (n : Nat) (h : n ≤ 10000000) : (pct n).length ≤ 26 := by
  unfold pct
  have h1 := dec_len_20 (n / 10000) (by omega)
  have h2 := tr_len (n % 10000)
  rw [List.length_append, List.length_append]
  split
  · rw [List.length_cons]; simp; omega
  · simp; omega
theorem sp_len (a p : Nat) (ha : a ≤ 100000000) (hp : p ≤ 1000000) : (sp a p).length ≤ 36 := by
  unfold sp
  have h1 := fmtL_len a (by omega)
  have h2 := dec_len_20 p (by omega)
  rw [List.length_append, List.length_cons]
  omega
theorem hd_len (r a p : Nat) (hr : r ≤ 10000000) (ha : a ≤ 100000000) (hp : p ≤ 1000000) : (hd r a p).length ≤ 70 := by
  have h1 := pct_len r hr
  have h2 := sp_len a p ha hp
  unfold hd sPlus
  (repeat' split) <;> (try simp only [List.length_append, List.length_cons, List.length_nil]) <;> omega
theorem dec_four (r : Nat) (h : r < 10000) : decDigits (10000 + r) = [49, dg (r / 1000 % 10), dg (r / 100 % 10), dg (r / 10 % 10), dg (r % 10)] := by
  rw [dec_big (by omega), dec_big (by omega), dec_big (by omega), dec_big (by omega), dec_small (by omega)]
  have e1 : (10000 + r) / 10 / 10 / 10 / 10 = 1 := by omega
  have e2 : (10000 + r) / 10 / 10 / 10 % 10 = r / 1000 % 10 := by omega
  have e3 : (10000 + r) / 10 / 10 % 10 = r / 100 % 10 := by omega
  have e4 : (10000 + r) / 10 % 10 = r / 10 % 10 := by omega
  have e5 : (10000 + r) % 10 = r % 10 := by omega
  rw [e1, e2, e3, e4, e5]
  rfl
theorem trim_four (r : Nat) (h : r < 10000) (h0 : r > 0) : trimRightB [dg (r / 1000 % 10), dg (r / 100 % 10), dg (r / 10 % 10), dg (r % 10)] 48 = tr r := by
  have z : ∀ d : Nat, d < 10 → ((dg d == 48) = decide (d = 0)) := fun d hd => by
    rw [Bool.eq_iff_iff]
    simp [dg_zero hd]
  unfold trimRightB tr
  simp only [List.reverse_cons, List.reverse_nil, List.nil_append, List.cons_append, List.dropWhile_cons, List.dropWhile_nil, z _ (Nat.mod_lt _ (show 10 > 0 by decide))]
  by_cases c0 : r % 10 = 0
  · by_cases c1 : r / 10 % 10 = 0
    · by_cases c2 : r / 100 % 10 = 0
      · have c3 : ¬ r / 1000 % 10 = 0 := by omega
        rw [if_pos (show r % 1000 = 0 by omega)]
        simp [c0, c1, c2, c3]
      · rw [if_neg (show ¬ r % 1000 = 0 by omega), if_pos (show r % 100 = 0 by omega)]
        simp [c0, c1, c2]
    · rw [if_neg (show ¬ r % 1000 = 0 by omega), if_neg (show ¬ r % 100 = 0 by omega), if_pos c0]
      simp [c0, c1]
  · rw [if_neg (show ¬ r % 1000 = 0 by omega), if_neg (show ¬ r % 100 = 0 by omega), if_neg c0]
    simp [c0]
theorem percent_eq (n : Nat) (h : n ≤ 10000000) : duty_percent.f (n : Int) = some ⟨(pct n).toArray⟩ := by
  unfold duty_percent.f
  have l1 := dec_len_20 (n / 10000) (by omega)
  rw [tdiv_pos (by omega), tmod_pos (by omega), w64 (x := (n : Int) / 10000) (by omega) (by omega), itoa_f (by omega) (by omega), show (n : Int) / 10000 = ((n / 10000 : Nat) : Int) by omega, itoa_nat]
  simp only [Option.bind_some]
  by_cases c : n % 10000 > 0
  · have e : wrap64 (10000 + (n : Int) % 10000) = ((10000 + n % 10000 : Nat) : Int) := by rw [w64 (by omega) (by omega)]; omega
    rw [if_pos (by omega), e, itoa_f (by omega) (by omega), itoa_nat, dec_four _ (by omega)]
    simp only [Option.bind_some, size_mk]
    rw [if_pos (by simp), mk_extract]
    have et : strings_TrimRight.f ⟨(List.drop 1 (List.take [49, dg (n % 10000 / 1000 % 10), dg (n % 10000 / 100 % 10), dg (n % 10000 / 10 % 10), dg (n % 10000 % 10)].length [49, dg (n % 10000 / 1000 % 10), dg (n % 10000 / 100 % 10), dg (n % 10000 / 10 % 10), dg (n % 10000 % 10)])).toArray⟩ (⟨#[48]⟩ : ByteArray) = some ⟨(tr (n % 10000)).toArray⟩ := by
      rw [← trim_four (n % 10000) (by omega) c]
      rfl
    rw [et]
    have l2 := tr_len (n % 10000)
    simp only [Option.bind_some, size_mk]
    rw [if_pos (by omega), if_pos (by omega), if_pos (by omega)]
    show some ((⟨(decDigits (n / 10000)).toArray⟩ : ByteArray) ++ ((⟨[46].toArray⟩ : ByteArray) ++ ⟨(tr (n % 10000)).toArray⟩) ++ ⟨[37].toArray⟩) = _
    rw [mk_append, mk_append, mk_append]
    unfold pct
    rw [if_pos c]
    rfl
  · rw [if_neg (by omega), size_mk, if_pos (by omega)]
    show some ((⟨(decDigits (n / 10000)).toArray⟩ : ByteArray) ++ ⟨[37].toArray⟩) = _
    rw [mk_append]
    unfold pct
    rw [if_neg c, List.append_nil]
theorem fmtB_nat (a : Nat) (h : a ≤ 100000000) : fmtB (a : Int) = ⟨(fmtL a).toArray⟩ := by
  rw [fmtB_amt (by unfold amt; omega)]
  unfold fmt
  rw [if_neg (by omega)]
  rfl
theorem form_j0 (s : List UInt8) (hs : s.length ≤ 70) (r a p : Int) (hm : Bool) (m : Nat) (hl : Bool) (l : Nat) (m1 : m ≤ 10000000) (l1 : l ≤ 10000000) :
    Ev (fun k => duty_Format.j0 k ⟨s.toArray⟩ r a p hm (m : Int) hl (l : Int)) ⟨(s ++ (if hm = true then sMost ++ pct m else []) ++ (if hl = true then sLeast ++ pct l else [])).toArray⟩ := by
  refine Ev.step (fun k => by rw [duty_Format.j0]) ?_
  have e1 := pct_len m m1
  have e2 := pct_len l l1
  rw [percent_eq m m1, percent_eq l l1]
  have q1 : (⟨#[32, 109, 97, 120, 32]⟩ : ByteArray) = ⟨sMost.toArray⟩ := rfl
  have q2 : (⟨#[32, 109, 105, 110, 32]⟩ : ByteArray) = ⟨sLeast.toArray⟩ := rfl
  rw [q1, q2]
  cases hm with
  | true =>
    refine ev_pos rfl (ev_let ?_)
    simp only [size_mk]
    refine ev_pos (by omega) (ev_pos (by omega) ?_)
    cases hl with
    | true =>
      refine ev_pos rfl (ev_let ?_)
      simp only [size_mk]
      refine ev_pos (by omega) (ev_pos (by omega) ?_)
      rw [mk_append, mk_append, mk_append, mk_append]
      exact Ev.now _
    | false =>
      refine ev_neg (by decide) ?_
      show Ev _ (⟨(s ++ (sMost ++ pct m) ++ []).toArray⟩ : ByteArray)
      rw [List.append_nil, ← mk_append, ← mk_append]
      exact Ev.now _
  | false =>
    refine ev_neg (by decide) ?_
    rw [if_neg (show ¬ (false = true) by decide), List.append_nil]
    cases hl with
    | true =>
      refine ev_pos rfl (ev_let ?_)
      rw [size_mk, size_mk]
      refine ev_pos (by omega) (ev_pos (by omega) ?_)
      rw [mk_append, mk_append]
      exact Ev.now _
    | false =>
      refine ev_neg (by decide) ?_
      rw [if_neg (by decide), List.append_nil]
      exact Ev.now _
structure Nats (r a p : Int) (hm : Bool) (m : Int) (hl : Bool) (l : Int) (R A P M L : Nat) : Prop where
  er : r = R
  ea : a = A
  ep : p = P
  em : m = M
  el : l = L
  r1 : R ≤ 10000000
  a1 : A ≤ 100000000
  p1 : P ≤ 1000000
  m1 : M ≤ 10000000
  l1 : L ≤ 10000000
  ap : A = 0 → P = 0
  pa : A > 0 → 1 ≤ P
theorem nats_of {r a p : Int} {hm : Bool} {m : Int} {hl : Bool} {l : Int} (h : dvalid r a p hm m hl l = 0) : Nats r a p hm m hl l r.toNat a.toNat p.toNat m.toNat l.toNat := by
  obtain ⟨hr, ha0, ha1, hp1, hp2, hm', hl', -, -, -⟩ := dvalid_ok.1 h
  have pp : 0 ≤ p ∧ p ≤ 1000000 := by
    by_cases c : a = 0
    · have := hp1 c; omega
    · have := hp2 (by omega); omega
  unfold rt at hr hm' hl'
  refine ⟨by omega, by omega, by omega, by omega, by omega, by omega, by omega, by omega, by omega, by omega, fun c => ?_, fun c => ?_⟩
  · have := hp1 (by omega); omega
  · have := hp2 (by omega); omega
theorem form_ev (r a p : Int) (hm : Bool) (m : Int) (hl : Bool) (l : Int) : Ev (fun k => duty_Format.f k r a p hm m hl l) (fmtDB r a p hm m hl l) := by
  unfold duty_Format.f fmtDB
  refine ev_bind (dvalidate_ev r a p hm m hl l) ?_
  by_cases hv : dvalid r a p hm m hl l = 0
  · rw [if_pos hv]
    refine ev_pos hv ?_
    have hN := nats_of hv
    generalize r.toNat = R at hN ⊢
    generalize a.toNat = A at hN ⊢
    generalize p.toNat = P at hN ⊢
    generalize m.toNat = M at hN ⊢
    generalize l.toNat = L at hN ⊢
    obtain ⟨rfl, rfl, rfl, rfl, rfl, r1, a1, p1, m1, l1, ap, pa⟩ := hN
    have lr := pct_len R r1
    have lf := fmtL_len A (by omega)
    have lp := dec_len_20 P (by omega)
    have ls := sp_len A P a1 p1
    rw [percent_eq R r1, itoa_f (n := (P : Int)) (by omega) (by omega), itoa_nat]
    unfold duty_kind.f fmtD hd
    by_cases ca : A = 0
    · rw [if_pos (show (A : Int) = 0 by omega), if_pos ca]
      exact ev_let (ev_neg (by decide) (ev_neg (by decide) (ev_let (form_j0 _ (by omega) _ _ _ _ _ _ _ m1 l1))))
    · rw [if_neg (show ¬ (A : Int) = 0 by omega), if_neg ca]
      by_cases cr : R = 0
      · rw [if_pos (show (R : Int) = 0 by omega), if_pos cr]
        refine ev_let (ev_neg (by decide) (ev_pos rfl (ev_bind (format_ev _) ?_)))
        rw [fmtB_nat A a1]
        simp only [size_mk]
        refine ev_pos (by omega) (ev_let ?_)
        simp only [size_mk]
        refine ev_pos (by omega) ?_
        have := form_j0 (sp A P) (by omega) (R : Int) (A : Int) (P : Int) hm M hl L m1 l1
        rw [show (⟨#[]⟩ : ByteArray) = ⟨([] : List UInt8).toArray⟩ from rfl, show (⟨#[47]⟩ : ByteArray) = ⟨[47].toArray⟩ from rfl, mk_append, mk_append, mk_append, List.nil_append, List.append_assoc]
        exact this
      · rw [if_neg (show ¬ (R : Int) = 0 by omega), if_neg cr]
        refine ev_let (ev_pos rfl (ev_let ?_))
        simp only [size_mk]
        refine ev_pos (by omega) (ev_bind (format_ev _) ?_)
        rw [fmtB_nat A a1]
        simp only [size_mk]
        refine ev_pos (by omega) (ev_let ?_)
        simp only [size_mk]
        refine ev_pos (by omega) (ev_pos (by omega) ?_)
        have := form_j0 (pct R ++ sPlus ++ sp A P) (by unfold sPlus; simp only [List.length_append, List.length_cons, List.length_nil]; omega) (R : Int) (A : Int) (P : Int) hm M hl L m1 l1
        rw [show (⟨#[32, 43, 32]⟩ : ByteArray) = ⟨sPlus.toArray⟩ from rfl, show (⟨#[47]⟩ : ByteArray) = ⟨[47].toArray⟩ from rfl, mk_append, mk_append, mk_append, mk_append]
        have e : pct R ++ sPlus ++ (fmtL A ++ [47] ++ decDigits P) = pct R ++ sPlus ++ sp A P := by unfold sp; rw [List.append_assoc (fmtL A)]; rfl
        rw [e]
        exact this
  · rw [if_neg hv]
    exact ev_neg hv (Ev.now _)
end Go.Proofs.YtfpkgdkcllobiaaDoor.D
end
section
namespace Go.Proofs.YtfpkgdkcllobiaaDoor.D
set_option linter.unusedVariables false
set_option linter.unusedSimpArgs false
open Go.RowKit Go.Proofs.YtfpkgdkcllobiaaDoorW.PrintWords Go.Proofs.YtfpkgdkcllobiaaDoorW.PrintMore Go.Proofs.YtfpkgdkcllobiaaDoor.F Go.Lib
theorem occ_get {s sub : List UInt8} {j i : Nat} {c : UInt8} (h : occAt s sub j = true) (hc : sub[i]? = some c) : s[j + i]? = some c := by
  unfold occAt at h
  obtain ⟨t, ht⟩ := List.isPrefixOf_iff_prefix.1 h
  have h1 : (s.drop j)[i]? = some c := by
    rw [← ht, List.getElem?_append_left (List.getElem?_eq_some_iff.1 hc).1]
    exact hc
  rwa [List.getElem?_drop] at h1
theorem cut_none {s sep : List UInt8} (c : UInt8) (hc : c ∈ sep) (hs : c ∉ s) : cut s sep = (s, [], false) := by
  obtain ⟨i, hi⟩ := List.getElem?_of_mem hc
  have : index s sep = -1 := index_none (fun j _ => by
    cases h : occAt s sep j with
    | false => rfl
    | true => exact absurd (List.mem_of_getElem? (occ_get h hi)) hs)
  unfold cut
  rw [this, if_neg (by decide)]
theorem cut_at (u : List UInt8) (c : UInt8) (v : List UInt8) {X Y : List UInt8} (hu : c ∉ u) (hX : c ∉ X) : cut (X ++ (u ++ c :: v) ++ Y) (u ++ c :: v) = (X, Y, true) := by
  have hi : (u ++ c :: v)[u.length]? = some c := by simp
  have : index (X ++ (u ++ c :: v) ++ Y) (u ++ c :: v) = X.length := index_first (by simp) (by
    unfold occAt
    rw [List.append_assoc, List.drop_left]
    exact List.isPrefixOf_iff_prefix.2 (List.prefix_append _ _)) (fun j hj => by
    cases h : occAt (X ++ (u ++ c :: v) ++ Y) (u ++ c :: v) j with
    | false => rfl
    | true =>
      have hg := occ_get h hi
      rw [List.append_assoc] at hg
      by_cases hlt : j + u.length < X.length
      · rw [List.getElem?_append_left hlt] at hg
        exact absurd (List.mem_of_getElem? hg) hX
      · rw [List.getElem?_append_right (by omega), List.append_assoc, List.getElem?_append_left (by omega)] at hg
        exact absurd (List.mem_of_getElem? hg) hu)
  unfold cut
  rw [this, if_pos (by omega), Int.toNat_natCast]
  refine Prod.ext ?_ (Prod.ext ?_ rfl)
  · simp only [List.append_assoc, List.take_left']
  · show List.drop (X.length + (u ++ c :: v).length) (X ++ (u ++ c :: v) ++ Y) = Y
    rw [show X.length + (u ++ c :: v).length = (X ++ (u ++ c :: v)).length by simp only [List.length_append], List.drop_left]
theorem cut_f (s sep : List UInt8) (h : s.length < 4294967281) : strings_Cut.f ⟨s.toArray⟩ ⟨sep.toArray⟩ = some (⟨(cut s sep).1.toArray⟩, ⟨(cut s sep).2.1.toArray⟩, (cut s sep).2.2) := by
  unfold strings_Cut.f
  rw [if_pos (by rw [size_mk]; exact h)]
theorem digs_not {l : List UInt8} (h : digs l) (c : UInt8) (hc : ¬ (48 ≤ c.toNat ∧ c.toNat ≤ 57)) : c ∉ l := fun hm => hc (h c hm)
theorem dg_digs {d : Nat} (h : d < 10) : 48 ≤ (dg d).toNat ∧ (dg d).toNat ≤ 57 := by rw [dg_nat h]; omega
theorem digs_tr (r : Nat) : digs (tr r) := by
  have m : ∀ n : Nat, n % 10 < 10 := fun n => Nat.mod_lt _ (by decide)
  unfold tr
  refine digs_cons (dg_digs (m _)) ?_
  split
  · exact digs_nil
  · refine digs_cons (dg_digs (m _)) ?_
    split
    · exact digs_nil
    · refine digs_cons (dg_digs (m _)) ?_
      split
      · exact digs_nil
      · exact digs_cons (dg_digs (m _)) digs_nil
theorem pct_not (n : Nat) (c : UInt8) (hc : ¬ (48 ≤ c.toNat ∧ c.toNat ≤ 57)) (h1 : c ≠ 46) (h2 : c ≠ 37) : c ∉ pct n := by
  unfold pct
  simp only [List.mem_append, List.mem_singleton, not_or]
  refine ⟨⟨digs_not (digs_dec _) c hc, ?_⟩, h2⟩
  split
  · rw [List.mem_cons, not_or]; exact ⟨h1, digs_not (digs_tr _) c hc⟩
  · simp
theorem fmtL_not (n : Nat) (c : UInt8) (hc : ¬ (48 ≤ c.toNat ∧ c.toNat ≤ 57)) (h1 : c ≠ 46) : c ∉ fmtL n := by
  unfold fmtL
  have e1 : c ≠ UInt8.ofNat (48 + n / 10 % 10) := fun e => by subst e; exact hc (dg_digs (Nat.mod_lt _ (by decide)))
  have e2 : c ≠ UInt8.ofNat (48 + n % 10) := fun e => by subst e; exact hc (dg_digs (Nat.mod_lt _ (by decide)))
  simp only [List.mem_append, List.mem_cons, List.not_mem_nil, or_false, not_or]
  exact ⟨digs_not (digs_dec _) c hc, h1, e1, e2⟩
theorem sp_not (a p : Nat) (c : UInt8) (hc : ¬ (48 ≤ c.toNat ∧ c.toNat ≤ 57)) (h1 : c ≠ 46) (h2 : c ≠ 47) : c ∉ sp a p := by
  unfold sp
  simp only [List.mem_append, List.mem_cons, not_or]
  exact ⟨fmtL_not a c hc h1, h2, digs_not (digs_dec _) c hc⟩
theorem hd_not (r a p : Nat) (c : UInt8) (hc : ¬ (48 ≤ c.toNat ∧ c.toNat ≤ 57)) (h1 : c ≠ 46) (h2 : c ≠ 47) (h3 : c ≠ 37) (h4 : c ∉ sPlus) : c ∉ hd r a p := by
  unfold hd
  split
  · exact pct_not r c hc h1 h3
  · split
    · exact sp_not a p c hc h1 h2
    · simp only [List.mem_append, not_or]
      exact ⟨⟨pct_not r c hc h1 h3, h4⟩, sp_not a p c hc h1 h2⟩
theorem four (r : Nat) (h : r < 10000) (h0 : r > 0) : (tr r ++ [48, 48, 48, 48]).take 4 = [dg (r / 1000 % 10), dg (r / 100 % 10), dg (r / 10 % 10), dg (r % 10)] := by
  have z : dg 0 = 48 := rfl
  unfold tr
  by_cases c1 : r % 1000 = 0
  · rw [if_pos c1, show r / 100 % 10 = 0 by omega, show r / 10 % 10 = 0 by omega, show r % 10 = 0 by omega]; rfl
  · rw [if_neg c1]
    by_cases c2 : r % 100 = 0
    · rw [if_pos c2, show r / 10 % 10 = 0 by omega, show r % 10 = 0 by omega]; rfl
    · rw [if_neg c2]
      by_cases c3 : r % 10 = 0
      · rw [if_pos c3, c3]; rfl
      · rw [if_neg c3]; rfl
theorem atoi_four (r : Nat) (h : r < 10000) : atoiAll [dg (r / 1000 % 10), dg (r / 100 % 10), dg (r / 10 % 10), dg (r % 10)] = .ok (r : Int) := by
  have m : ∀ n : Nat, n % 10 < 10 := fun n => Nat.mod_lt _ (by decide)
  have hv : val 0 [dg (r / 1000 % 10), dg (r / 100 % 10), dg (r / 10 % 10), dg (r % 10)] = r := by
    rw [val_cons, val_cons, val_cons, val_cons, val_nil, dg_nat (m _), dg_nat (m _), dg_nat (m _), dg_nat (m _)]
    omega
  have := atoi_pos [dg (r / 1000 % 10), dg (r / 100 % 10), dg (r / 10 % 10), dg (r % 10)] (digs_cons (dg_digs (m _)) (digs_cons (dg_digs (m _)) (digs_cons (dg_digs (m _)) (digs_cons (dg_digs (m _)) digs_nil)))) (by simp) (by rw [hv]; omega)
  rw [this, hv]
theorem atoi_dec (n : Nat) (h : n < 9223372036854775808) : atoiAll (decDigits n) = .ok (n : Int) := by
  have := atoi_pos (decDigits n) (digs_dec n) (dec_ne n) (by rw [val_dec]; exact h)
  rw [this, val_dec]
theorem atoi_f_ok (l : List UInt8) (n : Int) (hl : l.length ≤ 1000) (h : atoiAll l = .ok n) : strconv_Atoi.f ⟨l.toArray⟩ = some (n, none) := by
  unfold strconv_Atoi.f
  rw [if_pos (by rw [size_mk]; omega)]
  show (match atoiAll l with | .ok v => _ | .range => _ | _ => _) = _
  rw [h]
theorem cutsuffix_pct (l : List UInt8) (hl : l.length ≤ 1000) : strings_CutSuffix.f ⟨(l ++ [37]).toArray⟩ (⟨#[37]⟩ : ByteArray) = some (⟨l.toArray⟩, true) := by
  have e : (⟨#[37]⟩ : ByteArray).size = 1 := rfl
  have en : (((l.length + 1 : Nat) : Int) - ((1 : Nat) : Int)).toNat = l.length := by omega
  have hs : stringslite_HasSuffix.f ⟨(l ++ [37]).toArray⟩ (⟨#[37]⟩ : ByteArray) = some true := by
    unfold stringslite_HasSuffix.f
    rw [size_mk, e, List.length_append, List.length_singleton, w64 (by omega) (by omega), if_pos (by omega), if_pos (by omega), if_pos (by omega), mk_extract, en, List.take_of_length_le (by rw [List.length_append, List.length_singleton]; omega), List.drop_left]
    simp [ByteArray.toList_eq]
  unfold strings_CutSuffix.f stringslite_CutSuffix.f
  rw [hs]
  simp only [Option.bind_some, if_true]
  rw [size_mk, e, List.length_append, List.length_singleton, w64 (by omega) (by omega), if_pos (by omega), if_pos (by omega), mk_extract, en, List.take_left, List.drop_zero]
  rfl
theorem parts_pct (n : Nat) (h : n ≤ 10000000) : Ev (fun k => duty_parts.f k ⟨(pct n).toArray⟩) (n : Int) := by
  have l1 := dec_len_20 (n / 10000) (by omega)
  have l2 := tr_len (n % 10000)
  unfold duty_parts.f pct
  have last : ∀ (fr : List UInt8) (v : Nat), fr.length ≤ 4 → v < 10000 → n = n / 10000 * 10000 + v → atoiAll ((fr ++ [48, 48, 48, 48]).take 4) = .ok (v : Int) → Ev (fun k => duty_parts.j0 k ⟨(decDigits (n / 10000)).toArray⟩ ⟨fr.toArray⟩ (decide (((⟨fr.toArray⟩ : ByteArray).size : Int) > 4))) (n : Int) := by
    intro fr v hf hv hn ha
    rw [size_mk, decide_eq_false (by omega)]
    refine Ev.step (fun k => by rw [duty_parts.j0]) (ev_neg (by decide) ?_)
    rw [atoi_f_ok _ _ (by omega) (atoi_dec (n / 10000) (by omega)), size_mk, show (⟨#[48, 48, 48, 48]⟩ : ByteArray) = ⟨[48, 48, 48, 48].toArray⟩ from rfl, mk_append, size_mk, mk_extract, List.drop_zero, atoi_f_ok _ _ (by rw [List.length_take]; omega) ha]
    refine ev_let (ev_pos (by omega) (ev_pos (by omega) (ev_pos (by simp <;> omega) (ev_let (ev_pos rfl (ev_pos rfl (ev_neg ?_ (ev_neg ?_ (ev_neg ?_ ?_)))))))))
    · show ¬ ((n / 10000 : Nat) : Int) < 0; omega
    · show ¬ ((n / 10000 : Nat) : Int) > 1000; omega
    · show ¬ (v : Int) < 0; omega
    · show Ev (fun _ => some (wrap64 (wrap64 (((n / 10000 : Nat) : Int) * 10000) + (v : Int)))) _
      rw [w64 (x := ((n / 10000 : Nat) : Int) * 10000) (by omega) (by omega), w64 (by omega) (by omega), show ((n / 10000 : Nat) : Int) * 10000 + (v : Int) = (n : Int) by omega]
      exact Ev.now _
  by_cases c : n % 10000 > 0
  · rw [if_pos c, cutsuffix_pct _ (by simp only [List.length_append, List.length_cons]; omega)]
    refine ev_let ?_
    show Ev (fun k => (strings_Cut.f ⟨(decDigits (n / 10000) ++ 46 :: tr (n % 10000)).toArray⟩ ⟨[46].toArray⟩).bind _) _
    have hc := cut_at [] 46 [] (X := decDigits (n / 10000)) (Y := tr (n % 10000)) (by simp) (digs_not (digs_dec _) 46 (by decide))
    simp only [List.nil_append, List.append_assoc, List.singleton_append] at hc
    rw [cut_f _ _ (by simp only [List.length_append, List.length_cons]; omega), hc]
    exact ev_let (ev_pos rfl (last (tr (n % 10000)) (n % 10000) l2 (by omega) (by omega) (by rw [four _ (by omega) c]; exact atoi_four _ (by omega))))
  · rw [if_neg c, List.append_nil, cutsuffix_pct _ (by omega)]
    refine ev_let ?_
    show Ev (fun k => (strings_Cut.f ⟨(decDigits (n / 10000)).toArray⟩ ⟨[46].toArray⟩).bind _) _
    rw [cut_f _ _ (by omega), cut_none 46 (by simp) (digs_not (digs_dec _) 46 (by decide))]
    exact ev_let (ev_pos rfl (last [] 0 (by simp) (by omega) (by omega) (by decide +kernel)))
theorem atoi_f_any (l : List UInt8) (hl : l.length ≤ 281474976710656) : ∃ r, strconv_Atoi.f ⟨l.toArray⟩ = some r := by
  unfold strconv_Atoi.f
  rw [if_pos (by rw [size_mk]; omega)]
  split <;> exact ⟨_, rfl⟩
theorem amount_pct (n : Nat) (h : n ≤ 10000000) (r a p : Int) (hm : Bool) (m : Int) (hl' : Bool) (ll : Int) :
    Ev (fun k => duty_amount.f k ⟨(pct n).toArray⟩ r a p hm m hl' ll) (false, r, a, p, hm, m, hl', ll) := by
  have l1 := pct_len n h
  have hc := cut_none (s := pct n) (sep := [47]) 47 (by simp) (pct_not n 47 (by decide) (by decide) (by decide))
  obtain ⟨⟨x, e⟩, hp, _⟩ := parse_ev ⟨(cut (pct n) [47]).1.toArray⟩ (by rw [size_mk, hc]; show (pct n).length ≤ _; omega)
  obtain ⟨⟨y, f⟩, ha⟩ := atoi_f_any (cut (pct n) [47]).2.1 (by rw [hc]; simp)
  unfold duty_amount.f
  rw [show (⟨#[47]⟩ : ByteArray) = ⟨[47].toArray⟩ from rfl, cut_f _ [47] (by omega)]
  exact ev_let (ev_bind hp (ev_bind (ev_const ha) (ev_neg (by rw [hc]; simp) (Ev.now _))))
theorem amount_sp (A P : Nat) (hA : A ≤ 100000000) (hP : P ≤ 1000000) (r a p : Int) (hm : Bool) (m : Int) (hl' : Bool) (ll : Int) :
    Ev (fun k => duty_amount.f k ⟨(sp A P).toArray⟩ r a p hm m hl' ll) (true, r, (A : Int), (P : Int), hm, m, hl', ll) := by
  have l1 := sp_len A P hA hP
  have l2 := dec_len_20 P (by omega)
  have hc := cut_at [] 47 [] (X := fmtL A) (Y := decDigits P) (by simp) (fmtL_not A 47 (by decide) (by decide))
  simp only [List.nil_append, List.append_assoc, List.singleton_append] at hc
  have hc' : cut (sp A P) [47] = (fmtL A, decDigits P, true) := hc
  obtain ⟨t, hp, hq⟩ := parse_ev (fmtB (A : Int)) (by have := fmtL_len A (by omega); rw [fmtB_nat A hA, size_mk]; omega)
  obtain rfl := isParse_fmt (x := (A : Int)) (by unfold amt; omega) hq
  rw [fmtB_nat A hA] at hp
  unfold duty_amount.f
  rw [show (⟨#[47]⟩ : ByteArray) = ⟨[47].toArray⟩ from rfl, cut_f _ [47] (by omega), hc']
  exact ev_let (ev_bind hp (ev_bind (ev_const (atoi_f_ok _ _ (by show (decDigits P).length ≤ _; omega) (atoi_dec P (by omega)))) (ev_pos rfl (ev_pos rfl (ev_pos rfl (Ev.now _))))))
abbrev Dres := Int × Int × Int × Bool × Int × Bool × Int × Int
def noDuty : Dres := (0, 0, 0, false, 0, false, 0, 4)
theorem parse_j2 (s : ByteArray) (r a p : Int) (hm : Bool) (m : Int) (hl : Bool) (l : Int) :
    Ev (fun k => duty_Parse.j2 k s r a p hm m hl l) (if dvalid r a p hm m hl l = 0 ∧ fmtDB r a p hm m hl l = s then (r, a, p, hm, m, hl, l, 0) else noDuty) := by
  refine Ev.step (fun k => by rw [duty_Parse.j2]) (ev_bind (dvalidate_ev r a p hm m hl l) ?_)
  by_cases hv : dvalid r a p hm m hl l = 0
  · refine ev_pos hv (ev_bind (form_ev r a p hm m hl l) ?_)
    by_cases hs : fmtDB r a p hm m hl l = s
    · have e : (if dvalid r a p hm m hl l = 0 ∧ fmtDB r a p hm m hl l = s then (r, a, p, hm, m, hl, l, 0) else noDuty) = (r, a, p, hm, m, hl, l, 0) := if_pos ⟨hv, hs⟩
      rw [e]
      exact ev_pos (by rw [hs]) (Ev.now _)
    · have e : (if dvalid r a p hm m hl l = 0 ∧ fmtDB r a p hm m hl l = s then (r, a, p, hm, m, hl, l, 0) else noDuty) = noDuty := if_neg (fun h => hs h.2)
      rw [e]
      exact ev_neg (fun h => hs ((str_list _ _).1 h)) (Ev.now _)
  · have e : (if dvalid r a p hm m hl l = 0 ∧ fmtDB r a p hm m hl l = s then (r, a, p, hm, m, hl, l, 0) else noDuty) = noDuty := if_neg (fun h => hv h.1)
    rw [e]
    exact ev_neg hv (Ev.now _)
theorem dparse_fmt {r a p : Int} {hm : Bool} {m : Int} {hl : Bool} {l : Int} (h : dvalid r a p hm m hl l = 0) : Ev (fun k => duty_Parse.f k (fmtDB r a p hm m hl l)) (r, a, p, hm, m, hl, l, 0) := by
  have hN := nats_of h
  have hj2 := parse_j2 (fmtDB r a p hm m hl l) r a p hm m hl l
  rw [if_pos ⟨h, rfl⟩] at hj2
  obtain ⟨-, -, -, -, -, -, -, hm0, hl0, -⟩ := dvalid_ok.1 h
  have hs : fmtDB r a p hm m hl l = ⟨(fmtD r.toNat a.toNat p.toNat hm m.toNat hl l.toNat).toArray⟩ := by unfold fmtDB; rw [if_pos h]
  generalize hS : fmtDB r a p hm m hl l = S at hj2 hs ⊢
  clear hS
  generalize r.toNat = R at hN hs
  generalize a.toNat = A at hN hs
  generalize p.toNat = P at hN hs
  generalize m.toNat = M at hN hs
  generalize l.toNat = L at hN hs
  obtain ⟨rfl, rfl, rfl, rfl, rfl, r1, a1, p1, m1, l1, ap, pa⟩ := hN
  have lh := hd_len R A P r1 a1 p1
  have lm := pct_len M m1
  have ll := pct_len L l1
  
  have J1 : Ev (fun k => duty_Parse.j1 k S ⟨(hd R A P).toArray⟩ 0 0 0 hm (M : Int) hl (L : Int)) ((R : Int), (A : Int), (P : Int), hm, (M : Int), hl, (L : Int), 0) := by
    refine Ev.step (fun k => by rw [duty_Parse.j1, show (⟨#[32, 43, 32]⟩ : ByteArray) = ⟨sPlus.toArray⟩ from rfl, cut_f _ sPlus (by omega)]) ?_
    unfold hd
    by_cases ca : A = 0
    · have hP := ap ca
      rw [if_pos ca, cut_none 43 (by decide) (pct_not R 43 (by decide) (by decide) (by decide))]
      subst ca
      subst hP
      exact ev_let (ev_neg (show ¬ (false = true) by decide) (ev_bind (amount_pct R r1 0 0 0 hm M hl L) (ev_neg (show ¬ (false = true) by decide) (ev_bind (parts_pct R r1) hj2))))
    · rw [if_neg ca]
      by_cases cr : R = 0
      · rw [if_pos cr, cut_none 43 (by decide) (sp_not A P 43 (by decide) (by decide) (by decide))]
        subst cr
        exact ev_let (ev_neg (show ¬ (false = true) by decide) (ev_bind (amount_sp A P a1 p1 0 0 0 hm M hl L) (ev_pos rfl hj2)))
      · rw [if_neg cr, show pct R ++ sPlus ++ sp A P = pct R ++ ([32] ++ 43 :: [32]) ++ sp A P from rfl, show sPlus = [32] ++ 43 :: [32] from rfl, cut_at [32] 43 [32] (by decide) (pct_not R 43 (by decide) (by decide) (by decide))]
        exact ev_let (ev_pos rfl (ev_bind (parts_pct R r1) (ev_bind (amount_sp A P a1 p1 R 0 0 hm M hl L) (ev_pos rfl hj2))))
  
  have nh : ∀ c : UInt8, ¬ (48 ≤ c.toNat ∧ c.toNat ≤ 57) → c ≠ 46 → c ≠ 47 → c ≠ 37 → c ∉ sPlus → c ∉ hd R A P := fun c h1 h2 h3 h4 h5 => hd_not R A P c h1 h2 h3 h4 h5
  have J0 : Ev (fun k => duty_Parse.j0 k S ⟨(hd R A P ++ (if hm = true then sMost ++ pct M else [])).toArray⟩ 0 0 0 false 0 hl (L : Int)) ((R : Int), (A : Int), (P : Int), hm, (M : Int), hl, (L : Int), 0) := by
    cases hm with
    | true =>
      have hc : cut (hd R A P ++ (sMost ++ pct M)) sMost = (hd R A P, pct M, true) := by
        have := cut_at [32, 109, 97] 120 [32] (X := hd R A P) (Y := pct M) (by decide) (nh 120 (by decide) (by decide) (by decide) (by decide) (by decide))
        rw [List.append_assoc] at this
        exact this
      rw [if_pos rfl]
      refine Ev.step (fun k => by rw [duty_Parse.j0, show (⟨#[32, 109, 97, 120, 32]⟩ : ByteArray) = ⟨sMost.toArray⟩ from rfl, cut_f _ sMost (by simp only [List.length_append, sMost, List.length_cons, List.length_nil]; omega), hc]) ?_
      exact ev_let (ev_pos rfl (ev_bind (parts_pct M m1) J1))
    | false =>
      have hM := hm0 rfl
      rw [if_neg (show ¬ (false = true) by decide), List.append_nil]
      refine Ev.step (fun k => by rw [duty_Parse.j0, show (⟨#[32, 109, 97, 120, 32]⟩ : ByteArray) = ⟨sMost.toArray⟩ from rfl, cut_f _ sMost (by omega), cut_none 120 (by decide) (nh 120 (by decide) (by decide) (by decide) (by decide) (by decide))]) ?_
      rw [hM] at J1
      rw [hM]
      exact ev_let (ev_neg (show ¬ (false = true) by decide) J1)
  
  have nm : (105 : UInt8) ∉ hd R A P ++ (if hm = true then sMost ++ pct M else []) := by
    simp only [List.mem_append, not_or]
    refine ⟨nh 105 (by decide) (by decide) (by decide) (by decide) (by decide), ?_⟩
    split
    · simp only [List.mem_append, not_or]; exact ⟨by decide, pct_not M 105 (by decide) (by decide) (by decide)⟩
    · simp
  have lx : (hd R A P ++ (if hm = true then sMost ++ pct M else [])).length ≤ 101 := by
    rw [List.length_append]
    split
    · simp only [List.length_append, sMost, List.length_cons, List.length_nil]; omega
    · simp only [List.length_nil]; omega
  unfold fmtD at hs
  generalize hd R A P ++ (if hm = true then sMost ++ pct M else []) = X at hs J0 nm lx
  unfold duty_Parse.f
  cases hl with
  | true =>
    have hc : cut (X ++ (sLeast ++ pct L)) sLeast = (X, pct L, true) := by
      have := cut_at [32, 109] 105 [110, 32] (X := X) (Y := pct L) (by decide) nm
      rw [List.append_assoc] at this
      exact this
    rw [if_pos rfl] at hs
    have hcut : strings_Cut.f S (⟨#[32, 109, 105, 110, 32]⟩ : ByteArray) = some (⟨X.toArray⟩, ⟨(pct L).toArray⟩, true) := by
      rw [hs, show (⟨#[32, 109, 105, 110, 32]⟩ : ByteArray) = ⟨sLeast.toArray⟩ from rfl, cut_f _ sLeast (by simp only [List.length_append, sLeast, List.length_cons, List.length_nil]; omega), hc]
    rw [hcut]
    exact ev_let (ev_pos rfl (ev_bind (parts_pct L l1) J0))
  | false =>
    have hL := hl0 rfl
    rw [if_neg (show ¬ (false = true) by decide), List.append_nil] at hs
    have hcut : strings_Cut.f S (⟨#[32, 109, 105, 110, 32]⟩ : ByteArray) = some (⟨X.toArray⟩, ⟨[].toArray⟩, false) := by
      rw [hs, show (⟨#[32, 109, 105, 110, 32]⟩ : ByteArray) = ⟨sLeast.toArray⟩ from rfl, cut_f _ sLeast (by omega), cut_none 105 (by decide) nm]
    rw [hcut]
    rw [hL] at J0 ⊢
    exact ev_let (ev_neg (show ¬ (false = true) by decide) J0)
end Go.Proofs.YtfpkgdkcllobiaaDoor.D
end
section
namespace Go.Proofs.YtfpkgdkcllobiaaDoor.D
set_option linter.unusedVariables false
open Go.RowKit Go.Proofs.YtfpkgdkcllobiaaDoorW.PrintWords Go.Proofs.YtfpkgdkcllobiaaDoorW.PrintMore Go.Proofs.YtfpkgdkcllobiaaDoor.F Go.Lib
theorem pct_whole (q : Nat) : pct (q * 10000) = decDigits q ++ [37] := by
  unfold pct
  rw [Nat.mul_div_cancel _ (by decide), Nat.mul_mod_left, if_neg (by decide), List.append_nil]
theorem ex_text : fmtDB 50000 320 100 true 100000 true 20000 = (⟨#[53, 37, 32, 43, 32, 51, 46, 50, 48, 47, 49, 48, 48, 32, 109, 97, 120, 32, 49, 48, 37, 32, 109, 105, 110, 32, 50, 37]⟩ : ByteArray) := by
  unfold fmtDB
  rw [if_pos (by decide +kernel)]
  apply str_ext
  show fmtD 50000 320 100 true 100000 true 20000 = [53, 37, 32, 43, 32, 51, 46, 50, 48, 47, 49, 48, 48, 32, 109, 97, 120, 32, 49, 48, 37, 32, 109, 105, 110, 32, 50, 37]
  unfold fmtD hd
  rw [if_neg (by decide), if_neg (by decide), show 50000 = 5 * 10000 from rfl, show 100000 = 10 * 10000 from rfl, show 20000 = 2 * 10000 from rfl, pct_whole, pct_whole, pct_whole]
  unfold sp fmtL
  rw [show 320 / 100 = 3 from rfl, dec_small (u := 3) (by decide), dec_small (u := 5) (by decide), dec_small (u := 2) (by decide), dec_big (u := 100) (by decide), show 100 / 10 = 10 from rfl, dec_big (u := 10) (by decide), show 10 / 10 = 1 from rfl, dec_small (u := 1) (by decide)]
  rfl
theorem zero_text : fmtDB 0 0 0 false 0 false 0 = (⟨#[48, 37]⟩ : ByteArray) := by
  unfold fmtDB
  rw [if_pos (by decide +kernel)]
  apply str_ext
  show fmtD 0 0 0 false 0 false 0 = [48, 37]
  unfold fmtD hd pct
  rw [if_pos rfl, dec_small (by decide)]
  rfl
theorem awake_ev : Ev (fun k => customslaw18_awake.f k) true := by
  unfold customslaw18_awake.f
  have hp := dparse_fmt (r := 50000) (a := 320) (p := 100) (hm := true) (m := 100000) (hl := true) (l := 20000) (by decide +kernel)
  rw [ex_text] at hp
  refine ev_bind hp ?_
  show Ev (fun k => (duty_Evaluate.f 50000 320 100 true 100000 true 20000 10000 100).bind _) _
  rw [show duty_Evaluate.f 50000 320 100 true 100000 true 20000 10000 100 = some (820, 0) from congrArg some (by decide +kernel)]
  refine ev_let (ev_pos rfl (ev_pos rfl (ev_pos rfl (ev_pos rfl (ev_bind (form_ev 0 0 0 false 0 false 0) ?_)))))
  rw [zero_text]
  show Ev (fun _ => some ((⟨#[48, 37]⟩ : ByteArray).toList == [48, 37])) _
  rw [ByteArray.toList_eq]
  exact Ev.now _
end Go.Proofs.YtfpkgdkcllobiaaDoor.D
end
section
namespace Go.Proofs.YtfpkgdkcllobiaaDoor.D
set_option linter.unusedVariables false
set_option linter.unusedSimpArgs false
open Go.RowKit Go.Proofs.YtfpkgdkcllobiaaDoor.F Go.Proofs.YtfpkgdkcllobiaaDoorW.PrintWords Go.Proofs.YtfpkgdkcllobiaaDoorW.PrintMore
theorem add_eq {A B : Int} (a0 : 0 ≤ A) (b0 : 0 ≤ B) (h : A + B < 340282366920938463463374607431768211456) :
    customsref01_Add.f (A / 18446744073709551616) (A % 18446744073709551616) (B / 18446744073709551616) (B % 18446744073709551616) = some ((A + B) / 18446744073709551616, (A + B) % 18446744073709551616, false) := by
  unfold customsref01_Add.f
  by_cases hc : A % 18446744073709551616 + B % 18446744073709551616 < 18446744073709551616
  · rw [u64w (x := A % 18446744073709551616 + B % 18446744073709551616) (by omega) hc, if_neg (by omega), u64w (by omega) (by omega), decide_eq_false (by omega)]
    congr 1
    refine Prod.ext ?_ (Prod.ext ?_ rfl) <;> (simp only; omega)
  · have hw : IntKind.u64.wrap (A % 18446744073709551616 + B % 18446744073709551616) = A % 18446744073709551616 + B % 18446744073709551616 - 18446744073709551616 := by rw [u64m]; omega
    rw [hw, if_pos (by omega), u64w (x := A / 18446744073709551616 + B / 18446744073709551616) (by omega) (by omega), if_neg (by omega), u64w (by omega) (by omega)]
    have : ((A / 18446744073709551616 + B / 18446744073709551616 + 1) == 0) = false := beq_eq_false_iff_ne.2 (by omega)
    rw [this]
    congr 1
    refine Prod.ext ?_ (Prod.ext ?_ rfl) <;> (simp only; omega)
theorem bit_cast (x i : Nat) : ((x / 2 ^ i % 2 : Nat) : Int) = (x : Int) / 2 ^ i % 2 := by
  rw [Int.natCast_emod, Int.natCast_ediv, Int.natCast_pow]; rfl
theorem div_two_pow (x i : Nat) : x / 2 ^ i = 2 * (x / 2 ^ (i + 1)) + x / 2 ^ i % 2 := by
  have : x / 2 ^ (i + 1) = x / 2 ^ i / 2 := by rw [Nat.pow_succ, Nat.div_div_eq_div_mul]
  omega
theorem shr_bit {x i : Nat} (hi : i ≤ 64) (hx : x < 18446744073709551616) : bits .and .u64 (shr .u64 (x : Int) (i : Int)) 1 = ((x / 2 ^ i % 2 : Nat) : Int) := by
  rw [shr_in hi, bit_cast]
  have h1 : (0 : Int) ≤ (x : Int) / 2 ^ i := Int.ediv_nonneg (by omega) (by have := Nat.two_pow_pos i; exact_mod_cast Nat.zero_le _)
  have h2 : (x : Int) / 2 ^ i ≤ x := Int.ediv_le_self _ (by omega)
  exact and_one h1 (by omega)
theorem refMul_l (a b : Nat) (ha : a < 18446744073709551616) (hb : b < 18446744073709551616) (j : Nat) : j ≤ 64 → ∀ V : Nat, V = a * (b / 2 ^ j) →
    Ev (fun k => customsref01_Mul.l0 k (a : Int) (b : Int) ((j : Int) - 1) ((V : Int) / 18446744073709551616) ((V : Int) % 18446744073709551616)) (((a * b : Nat) : Int) / 18446744073709551616, ((a * b : Nat) : Int) % 18446744073709551616) := by
  have hab : a * b < 340282366920938463463374607431768211456 := by
    have := Nat.mul_lt_mul'' ha hb
    omega
  induction j with
  | zero =>
    intro _ V hV
    refine Ev.step (fun k => by rw [customsref01_Mul.l0]) (ev_neg (by omega) ?_)
    rw [Nat.pow_zero, Nat.div_one] at hV
    rw [hV]
    exact Ev.now _
  | succ j ih =>
    intro hj V hV
    have hd := div_two_pow b j
    have hle : a * (b / 2 ^ j) ≤ a * b := Nat.mul_le_mul_left a (Nat.div_le_self b _)
    have hV2 : 2 * V + a * (b / 2 ^ j % 2) = a * (b / 2 ^ j) := by
      rw [hV]
      generalize b / 2 ^ (j + 1) = g at hd
      generalize b / 2 ^ j % 2 = t at hd
      rw [hd, Nat.mul_add, Nat.mul_left_comm]
    refine Ev.step (fun k => by rw [customsref01_Mul.l0]) (ev_pos (by omega) ?_)
    rw [add_eq (A := (V : Int)) (B := (V : Int)) (by omega) (by omega) (by omega)]
    refine ev_let (ev_pos (by omega) ?_)
    rw [show (((j + 1 : Nat) : Int) - 1) = (j : Int) by omega, shr_bit (by omega) hb]
    rcases Nat.mod_two_eq_zero_or_one (b / 2 ^ j) with hz | ho
    · refine ev_neg (by omega) ?_
      rw [w64 (by omega) (by omega)]
      have := ih (by omega) (2 * V) (by rw [← hV2, hz]; omega)
      rw [show (((2 * V : Nat)) : Int) = (V : Int) + V by omega] at this
      exact this
    · refine ev_pos (by omega) ?_
      have hB := add_eq (A := (V : Int) + V) (B := (a : Int)) (by omega) (by omega) (by rw [ho] at hV2; omega)
      rw [show (a : Int) / 18446744073709551616 = 0 by omega, show (a : Int) % 18446744073709551616 = a by omega] at hB
      rw [hB]
      refine ev_let ?_
      rw [w64 (by omega) (by omega)]
      have := ih (by omega) (2 * V + a) (by rw [← hV2, ho]; omega)
      rw [show (((2 * V + a : Nat)) : Int) = (V : Int) + V + a by omega] at this
      exact this
theorem refMul_ev (a b : Nat) (ha : a < 18446744073709551616) (hb : b < 18446744073709551616) :
    Ev (fun k => customsref01_Mul.f k (a : Int) (b : Int)) (((a * b : Nat) : Int) / 18446744073709551616, ((a * b : Nat) : Int) % 18446744073709551616) := by
  have := refMul_l a b ha hb 64 (Nat.le_refl _) 0 (by rw [Nat.div_eq_of_lt (by omega)]; omega)
  exact this
end Go.Proofs.YtfpkgdkcllobiaaDoor.D
namespace Go.Proofs.YtfpkgdkcllobiaaDoor.D
set_option linter.unusedVariables false
set_option linter.unusedSimpArgs false
open Go.RowKit Go.Proofs.YtfpkgdkcllobiaaDoor.F Go.Proofs.YtfpkgdkcllobiaaDoorW.PrintWords Go.Proofs.YtfpkgdkcllobiaaDoorW.PrintMore
theorem refDiv_core {c q r t : Int} (hi lo i : Int) {R : Int × Int × Int} (c0 : 0 < c) (c1 : c < 18446744073709551616) (r0 : 0 ≤ r) (r1 : r < c) (q0 : 0 ≤ q) (ht : t = 0 ∨ t = 1)
    (hq : 2 * q + 1 < 340282366920938463463374607431768211456)
    (hge : 2 * r + t ≥ c → Ev (fun k => customsref01_DivMod.l0 k c (2 * r + t - c) i hi lo ((2 * q + 1) / 18446744073709551616) ((2 * q + 1) % 18446744073709551616)) R)
    (hlt : 2 * r + t < c → Ev (fun k => customsref01_DivMod.l0 k c (2 * r + t) i hi lo (2 * q / 18446744073709551616) (2 * q % 18446744073709551616)) R) :
    Ev (fun k => (customsref01_Add.f (q / 18446744073709551616) (q % 18446744073709551616) (q / 18446744073709551616) (q % 18446744073709551616)).bind fun bt127 => (if (r / 9223372036854775808) = 1 then (customsref01_DivMod.l0 k c (IntKind.u64.wrap ((Go.bits .or .u64 (IntKind.u64.wrap (r * 2)) t) - c)) i hi lo bt127.1 (Go.bits .or .u64 bt127.2.1 1)) else (if (Go.bits .or .u64 (IntKind.u64.wrap (r * 2)) t) ≥ c then (customsref01_DivMod.l0 k c (IntKind.u64.wrap ((Go.bits .or .u64 (IntKind.u64.wrap (r * 2)) t) - c)) i hi lo bt127.1 (Go.bits .or .u64 bt127.2.1 1)) else (customsref01_DivMod.l0 k c (Go.bits .or .u64 (IntKind.u64.wrap (r * 2)) t) i hi lo bt127.1 bt127.2.1)))) R := by
  rw [add_eq q0 q0 (by omega), show q + q = 2 * q by omega]
  refine ev_let ?_
  show Ev (fun k => if (r / 9223372036854775808) = 1 then (customsref01_DivMod.l0 k c (IntKind.u64.wrap ((Go.bits .or .u64 (IntKind.u64.wrap (r * 2)) t) - c)) i hi lo (2 * q / 18446744073709551616) (Go.bits .or .u64 (2 * q % 18446744073709551616) 1)) else (if (Go.bits .or .u64 (IntKind.u64.wrap (r * 2)) t) ≥ c then (customsref01_DivMod.l0 k c (IntKind.u64.wrap ((Go.bits .or .u64 (IntKind.u64.wrap (r * 2)) t) - c)) i hi lo (2 * q / 18446744073709551616) (Go.bits .or .u64 (2 * q % 18446744073709551616) 1)) else (customsref01_DivMod.l0 k c (Go.bits .or .u64 (IntKind.u64.wrap (r * 2)) t) i hi lo (2 * q / 18446744073709551616) (2 * q % 18446744073709551616)))) R
  have ho : bits .or .u64 (IntKind.u64.wrap (r * 2)) t = (r * 2) % 18446744073709551616 + t := by
    rw [u64m]
    exact or_join 1 (by decide) (by omega) (by rw [show (2 : Int) ^ 1 = 2 from rfl]; omega) (by omega) (by omega) (by rw [show (2 : Int) ^ 1 = 2 from rfl]; omega)
  rw [ho, or_one (by omega) (by omega) (by omega), show 2 * q / 18446744073709551616 = (2 * q + 1) / 18446744073709551616 by omega, show 2 * q % 18446744073709551616 + 1 = (2 * q + 1) % 18446744073709551616 by omega]
  by_cases hr : r / 9223372036854775808 = 1
  · refine ev_pos hr ?_
    rw [show IntKind.u64.wrap (r * 2 % 18446744073709551616 + t - c) = 2 * r + t - c by rw [u64m]; omega]
    exact hge (by omega)
  · refine ev_neg hr ?_
    rw [show r * 2 % 18446744073709551616 + t = 2 * r + t by omega]
    refine ev_ite (fun h => ?_) (fun h => ?_)
    · rw [u64w (by omega) (by omega)]
      exact hge h
    · rw [show (2 * q + 1) / 18446744073709551616 = 2 * q / 18446744073709551616 by omega]
      exact hlt (by omega)
theorem half_bit (N j : Nat) (hj : j < 64) : N % 18446744073709551616 / 2 ^ j % 2 = N / 2 ^ j % 2 := by
  have h1 : N % 18446744073709551616 = N % (2 ^ j * 2 ^ (64 - j)) := by rw [← Nat.pow_add, show j + (64 - j) = 64 by omega]
  rw [h1, Nat.mod_mul_right_div_self, Nat.mod_mod_of_dvd]
  exact ⟨2 ^ (63 - j), by rw [show 64 - j = 63 - j + 1 by omega, Nat.pow_succ, Nat.mul_comm]⟩
theorem high_bit (N j : Nat) (hj : 64 ≤ j) : N / 18446744073709551616 / 2 ^ (j - 64) = N / 2 ^ j := by
  rw [show (18446744073709551616 : Nat) = 2 ^ 64 from rfl, Nat.div_div_eq_div_mul, ← Nat.pow_add, show 64 + (j - 64) = j by omega]
theorem refDivMod_l (N : Nat) (c : Int) (hN : N < 340282366920938463463374607431768211456) (c0 : 0 < c) (c1 : c < 18446744073709551616) (j : Nat) : j ≤ 128 → ∀ q r : Int, q * c + r = ((N / 2 ^ j : Nat) : Int) → 0 ≤ r → r < c → 0 ≤ q →
    Ev (fun k => customsref01_DivMod.l0 k c r ((j : Int) - 1) ((N / 18446744073709551616 : Nat) : Int) ((N % 18446744073709551616 : Nat) : Int) (q / 18446744073709551616) (q % 18446744073709551616)) ((N : Int) / c / 18446744073709551616, (N : Int) / c % 18446744073709551616, (N : Int) % c) := by
  induction j with
  | zero =>
    intro _ q r h r0 r1 q0
    rw [Nat.pow_zero, Nat.div_one] at h
    have e1 : (N : Int) / c = q := by
      rw [← h, Int.mul_comm, Int.mul_add_ediv_left _ _ (by omega), Int.ediv_eq_zero_of_lt r0 r1, Int.add_zero]
    have e2 : (N : Int) % c = r := by
      rw [← h, Int.mul_comm, Int.mul_add_emod_self_left, Int.emod_eq_of_lt r0 r1]
    refine Ev.step (fun k => by rw [customsref01_DivMod.l0]) (ev_neg (by omega) ?_)
    rw [e1, e2]
    exact Ev.now _
  | succ j ih =>
    intro hj q r h r0 r1 q0
    have hd := div_two_pow N j
    have hNj : N / 2 ^ j ≤ N := Nat.div_le_self _ _
    have hgc : ∀ p : Int, 0 ≤ p → p ≤ p * c := fun p hp => by
      have := Int.mul_le_mul_of_nonneg_left (show 1 ≤ c by omega) hp
      rw [Int.mul_one] at this
      exact this
    have hqc := hgc q q0
    have hbit : N / 2 ^ j % 2 = 0 ∨ N / 2 ^ j % 2 = 1 := Nat.mod_two_eq_zero_or_one _
    have hcore : ∀ i hi lo : Int, i = (j : Int) - 1 → hi = ((N / 18446744073709551616 : Nat) : Int) → lo = ((N % 18446744073709551616 : Nat) : Int) → _ := fun i hi lo e1 e2 e3 =>
      refDiv_core (c := c) (q := q) (r := r) (t := ((N / 2 ^ j % 2 : Nat) : Int)) hi lo i (R := ((N : Int) / c / 18446744073709551616, (N : Int) / c % 18446744073709551616, (N : Int) % c)) c0 c1 r0 r1 q0 (by omega)
        (by omega)
        (fun hge => by rw [e1, e2, e3]; exact ih (by omega) (2 * q + 1) _ (by rw [Int.add_mul, Int.one_mul, Int.mul_assoc]; omega) (by omega) (by omega) (by omega))
        (fun hlt => by rw [e1, e2, e3]; exact ih (by omega) (2 * q) _ (by rw [Int.mul_assoc]; omega) (by omega) hlt (by omega))
    refine Ev.step (fun k => by rw [customsref01_DivMod.l0]) (ev_pos (by omega) ?_)
    rw [show (((j + 1 : Nat) : Int) - 1) = (j : Int) by omega, and_63 (by omega) (by omega), w64 (x := (j : Int) - 1) (by omega) (by omega)]
    refine ev_pos (by omega) (ev_ite (fun hj64 => ?_) (fun hj64 => ?_))
    · rw [w64 (x := (j : Int) - 64) (by omega) (by omega)]
      refine ev_pos (by omega) ?_
      rw [show (j : Int) - 64 = ((j - 64 : Nat) : Int) by omega, shr_bit (by omega) (by omega), high_bit N j (by omega)]
      exact hcore _ _ _ rfl rfl rfl
    · rw [show (j : Int) % 64 = (j : Int) by omega, shr_bit (by omega) (by omega), half_bit N j (by omega)]
      exact hcore _ _ _ rfl rfl rfl
theorem refDivMod_ev (N : Nat) (c : Int) (hN : N < 340282366920938463463374607431768211456) (c0 : 0 < c) (c1 : c < 18446744073709551616) :
    Ev (fun k => customsref01_DivMod.f k ((N : Int) / 18446744073709551616) ((N : Int) % 18446744073709551616) c) ((N : Int) / c / 18446744073709551616, (N : Int) / c % 18446744073709551616, (N : Int) % c) := by
  have h := refDivMod_l N c hN c0 c1 128 (Nat.le_refl _) 0 0 (by rw [Nat.div_eq_of_lt (by simpa using hN)]; omega) (by omega) c0 (by omega)
  exact h
theorem refDiv_ev (N : Nat) (c m : Int) (hN : N < 170141183460469231731687303715884105728) (c0 : 0 ≤ c) (c1 : c < 18446744073709551616) :
    Ev (fun k => customsref01_Div.f k ((N : Int) / 18446744073709551616) ((N : Int) % 18446744073709551616) c m) (divS m (N : Int) c) := by
  unfold customsref01_Div.f
  have bad : c = 0 ∨ m < 0 ∨ m > 3 → Ev (fun k => customsref01_Div.j0 k c m true ((N : Int) / 18446744073709551616) ((N : Int) % 18446744073709551616)) (divS m (N : Int) c) := fun h => by
    unfold divS
    rw [if_pos h]
    exact Ev.step (fun k => by rw [customsref01_Div.j0]) (ev_pos rfl (Ev.now _))
  refine ev_ite (fun h => bad (Or.inl h)) (fun hc => ev_ite (fun h => bad (Or.inr (Or.inl h))) (fun hm => ?_))
  by_cases h3 : m > 3
  · rw [decide_eq_true h3]; exact bad (Or.inr (Or.inr h3))
  · rw [decide_eq_false h3]
    have hq0 : 0 ≤ (N : Int) / c := Int.ediv_nonneg (by omega) (by omega)
    have hq1 : (N : Int) / c ≤ N := Int.ediv_le_self _ (by omega)
    have hm0 := Int.emod_nonneg (N : Int) (show c ≠ 0 by omega)
    have hm1 := Int.emod_lt_of_pos (N : Int) (show 0 < c by omega)
    have fin : ∀ b : Bool, b = up m ((N : Int) / c) ((N : Int) % c) c → Ev (fun k => customsref01_Div.j1 k b ((N : Int) / c / 18446744073709551616) ((N : Int) / c % 18446744073709551616)) (divS m (N : Int) c) := fun b hb => by
      unfold divS rnd
      rw [if_neg (by omega), ← hb]
      generalize (N : Int) / c = Q at hq0 hq1 ⊢
      refine Ev.step (fun k => by rw [customsref01_Div.j1]) (ev_ite (fun h => ?_) (fun h => ?_))
      · have ha := add_eq (A := Q) (B := 1) hq0 (by omega) (by omega)
        rw [show (1 : Int) / 18446744073709551616 = 0 by omega, show (1 : Int) % 18446744073709551616 = 1 by omega] at ha
        rw [ha, if_pos h]
        refine ev_let (ev_ite (fun hg => ?_) (fun hg => ?_))
        · have hg' : (Q + 1) / 18446744073709551616 > 0 := hg
          rw [if_pos (by omega)]; exact Ev.now _
        · have hg' : ¬ (Q + 1) / 18446744073709551616 > 0 := hg
          rw [if_neg (by omega)]
          refine ev_eq (Ev.now _) ?_
          show ((Q + 1) % 18446744073709551616, (0 : Int)) = _
          rw [show (Q + 1) % 18446744073709551616 = Q + 1 by omega]
      · rw [if_neg h]
        refine ev_ite (fun hg => ?_) (fun hg => ?_)
        · rw [if_pos (by omega)]; exact Ev.now _
        · rw [if_neg (by omega), Int.add_zero, show Q % 18446744073709551616 = Q by omega]; exact Ev.now _
    refine Ev.step (fun k => by rw [customsref01_Div.j0]) (ev_neg (by decide) (ev_bind (refDivMod_ev N c (by omega) (by omega) c1) ?_))
    show Ev (fun k => if m = 1 then (customsref01_Div.j1 k (decide ((N : Int) % c > 0)) ((N : Int) / c / 18446744073709551616) ((N : Int) / c % 18446744073709551616)) else (if m = 2 then (customsref01_Div.j1 k (decide ((N : Int) % c ≥ (IntKind.u64.wrap (c - (N : Int) % c)))) ((N : Int) / c / 18446744073709551616) ((N : Int) / c % 18446744073709551616)) else (if m = 3 then (if (N : Int) % c > (IntKind.u64.wrap (c - (N : Int) % c)) then (customsref01_Div.j1 k true ((N : Int) / c / 18446744073709551616) ((N : Int) / c % 18446744073709551616)) else (if (N : Int) % c = (IntKind.u64.wrap (c - (N : Int) % c)) then (customsref01_Div.j1 k ((Go.bits .and .u64 ((N : Int) / c % 18446744073709551616) 1) == 1) ((N : Int) / c / 18446744073709551616) ((N : Int) / c % 18446744073709551616)) else (customsref01_Div.j1 k false ((N : Int) / c / 18446744073709551616) ((N : Int) / c % 18446744073709551616)))) else (customsref01_Div.j1 k false ((N : Int) / c / 18446744073709551616) ((N : Int) / c % 18446744073709551616))))) _
    rw [u64w (x := c - (N : Int) % c) (by omega) (by omega), and_one (by omega) (by omega), show (N : Int) / c % 18446744073709551616 % 2 = (N : Int) / c % 2 by omega]
    refine ev_ite (fun m1 => fin _ (by unfold up; rw [if_pos m1])) (fun m1 => ev_ite (fun m2 => fin _ (by unfold up; rw [if_neg m1, if_pos m2])) (fun m2 => ev_ite (fun m3 => ev_ite (fun g => fin _ (by unfold up; rw [if_neg m1, if_neg m2, if_pos m3, if_pos g])) (fun g => ev_ite (fun g2 => fin _ (by unfold up; rw [if_neg m1, if_neg m2, if_pos m3, if_neg g, if_pos g2]; rfl)) (fun g2 => fin _ (by unfold up; rw [if_neg m1, if_neg m2, if_pos m3, if_neg g, if_neg g2])))) (fun m3 => fin _ (by unfold up; rw [if_neg m1, if_neg m2, if_neg m3]))))
end Go.Proofs.YtfpkgdkcllobiaaDoor.D
end
section
namespace Go.Proofs.YtfpkgdkcllobiaaDoor.D
set_option linter.unusedVariables false
set_option linter.unusedSimpArgs false
open Go.RowKit Go.Proofs.YtfpkgdkcllobiaaDoorW.PrintWords Go.Proofs.YtfpkgdkcllobiaaDoorW.PrintMore Go.Proofs.YtfpkgdkcllobiaaDoor.F
theorem in_eq (a b : Int) : customsref17_in.f a b = some (decide (0 ≤ a ∧ a ≤ b)) := by
  unfold customsref17_in.f
  by_cases h : a ≥ 0
  · rw [if_pos h]
    congr 1
    exact decide_eq_decide.2 ⟨fun k => ⟨h, k⟩, fun k => k.2⟩
  · rw [if_neg h, decide_eq_false (fun k => h k.1)]
theorem rdv_j0 (r a p : Int) (hm : Bool) (m : Int) (hl : Bool) (l : Int) (b : Bool) (hb : b = true → dvalid r a p hm m hl l = 2) (hn : b = false → ¬ (¬ rt r ∨ a < 0 ∨ a > 100000000 ∨ (a = 0 ∧ p ≠ 0) ∨ (a > 0 ∧ (p < 1 ∨ p > 1000000)) ∨ ¬ rt m ∨ ¬ rt l)) :
    Ev (fun k => customsref17_Duty.j0 k b r a p hm m hl l) (dvalid r a p hm m hl l) := by
  refine Ev.step (fun k => by rw [customsref17_Duty.j0]) ?_
  cases b with
  | true => rw [hb rfl]; exact ev_pos rfl (Ev.now _)
  | false =>
    have h := hn rfl
    rw [dv_in h]
    refine ev_neg (by simp) ?_
    have key : ∀ x y : Int, x = y → Ev (fun _ => some x) y := fun x y e => by rw [e]; exact Ev.now _
    have K0 : ∀ {c : Prop} [Decidable c], ¬ c → Ev (fun _ => some (0 : Int)) (if c then 1 else 0) := fun hc => key _ _ (by rw [if_neg hc])
    have K1 : ∀ {c : Prop} [Decidable c], c → Ev (fun _ => some (1 : Int)) (if c then 1 else 0) := fun hc => key _ _ (by rw [if_pos hc])
    cases hm <;> cases hl <;>
      refine ev_ite (fun c1 => ev_ite (fun c2 => ?_) (fun c2 => ?_)) (fun c1 => ?_)
    · exact ev_neg (by simp) (K0 (by simp; omega))
    · exact ev_neg (by simp) (K1 (by simp; omega))
    · exact ev_neg (by simp) (K1 (by simp; omega))
    · exact ev_neg (by simp) (K0 (by simp; omega))
    · exact ev_pos rfl (ev_neg (by simp) (K0 (by simp; omega)))
    · exact ev_neg (by simp) (K1 (by simp; omega))
    · exact ev_pos rfl (ev_neg (by simp) (K0 (by simp; omega)))
    · exact ev_neg (by simp) (K1 (by simp; omega))
    · exact ev_pos rfl (ev_ite (fun c3 => ev_neg (by simp) (K0 (by simp; omega))) (fun c3 => ev_neg (by simp) (K1 (by simp; omega))))
    · exact ev_pos rfl (ev_pos rfl (ev_ite (fun c3 => K1 (by simp; omega)) (fun c3 => K0 (by simp; omega))))
    · exact ev_pos rfl (ev_pos rfl (ev_ite (fun c3 => K1 (by simp; omega)) (fun c3 => K0 (by simp; omega))))
    · exact ev_pos rfl (ev_ite (fun c3 => ev_pos rfl (ev_ite (fun c4 => K1 (by simp; omega)) (fun c4 => K0 (by simp; omega)))) (fun c3 => ev_pos rfl (ev_ite (fun c4 => K1 (by simp; omega)) (fun c4 => K0 (by simp; omega)))))
theorem refDuty_ev (r a p : Int) (hm : Bool) (m : Int) (hl : Bool) (l : Int) : Ev (fun k => customsref17_Duty.f k r a p hm m hl l) (dvalid r a p hm m hl l) := by
  unfold customsref17_Duty.f
  simp only [in_eq]
  have bad : (¬ rt r ∨ a < 0 ∨ a > 100000000 ∨ (a = 0 ∧ p ≠ 0) ∨ (a > 0 ∧ (p < 1 ∨ p > 1000000)) ∨ ¬ rt m ∨ ¬ rt l) → Ev (fun k => customsref17_Duty.j0 k true r a p hm m hl l) (dvalid r a p hm m hl l) := fun h => rdv_j0 _ _ _ _ _ _ _ _ (fun _ => dv_range h) (fun hb => by cases hb)
  have last : rt r → 0 ≤ a → a ≤ 100000000 → (a = 0 → p = 0) → (a > 0 → 1 ≤ p ∧ p ≤ 1000000) → Ev (fun k => (some (decide (0 ≤ m ∧ m ≤ 10000000))).bind fun t151 => (if t151 = true then ((some (decide (0 ≤ l ∧ l ≤ 10000000))).bind fun t152 => (customsref17_Duty.j0 k (!t152) r a p hm m hl l)) else (customsref17_Duty.j0 k true r a p hm m hl l))) (dvalid r a p hm m hl l) := by
    intro h1 h2 h3 h4 h5
    refine ev_let ?_
    by_cases c1 : rt m
    · refine ev_pos (decide_eq_true c1) (ev_let ?_)
      by_cases c2 : rt l
      · rw [decide_eq_true c2]
        exact rdv_j0 _ _ _ _ _ _ _ _ (fun hb => by cases hb) (fun _ => by omega)
      · rw [decide_eq_false c2]
        exact bad (by omega)
    · exact ev_neg (fun c => c1 (of_decide_eq_true c)) (bad (by omega))
  refine ev_let ?_
  by_cases c1 : rt r
  · refine ev_pos (decide_eq_true c1) (ev_let ?_)
    by_cases c2 : 0 ≤ a ∧ a ≤ 100000000
    · refine ev_pos (decide_eq_true c2) (ev_ite (fun c3 => ev_ite (fun c4 => bad (by omega)) (fun c4 => ev_ite (fun c5 => bad (by omega)) (fun c5 => ev_neg (by omega) (last c1 c2.1 c2.2 (by omega) (by omega))))) (fun c3 => ev_pos (by omega) (ev_ite (fun c4 => last c1 c2.1 c2.2 (by omega) (by omega)) (fun c4 => bad (by omega)))))
    · exact ev_neg (fun c => c2 (of_decide_eq_true c)) (bad (by omega))
  · exact ev_neg (fun c => c1 (of_decide_eq_true c)) (bad (by omega))
end Go.Proofs.YtfpkgdkcllobiaaDoor.D
end
section
namespace Go.Proofs.YtfpkgdkcllobiaaDoor.D
set_option linter.unusedVariables false
set_option linter.unusedSimpArgs false
open Go.RowKit Go.Proofs.YtfpkgdkcllobiaaDoorW.PrintWords Go.Proofs.YtfpkgdkcllobiaaDoorW.PrintMore Go.Proofs.YtfpkgdkcllobiaaDoor.F
theorem rmul_ev {a b : Int} (a0 : 0 ≤ a) (a1 : a < 18446744073709551616) (b0 : 0 ≤ b) (b1 : b < 18446744073709551616) : Ev (fun k => customsref01_Mul.f k a b) (a * b / 18446744073709551616, a * b % 18446744073709551616) := by
  obtain ⟨x, rfl⟩ := Int.eq_ofNat_of_zero_le a0
  obtain ⟨y, rfl⟩ := Int.eq_ofNat_of_zero_le b0
  have := refMul_ev x y (by omega) (by omega)
  rwa [Int.natCast_mul] at this
theorem rscaled_ev {r v p : Int} (hr : rt r) (v0 : 0 ≤ v) (v1 : v ≤ 1000000000000) (p0 : 0 ≤ p) (p1 : p ≤ 1000000) :
    Ev (fun k => customsref17_scaled.f k r v (mxp p)) (shr_ r v p / 18446744073709551616, shr_ r v p % 18446744073709551616) := by
  have hs := shr_in_ hr v0 v1 p0 p1
  have hp := mxp_in p0 p1
  have hr' := hr
  unfold rt at hr'
  unfold customsref17_scaled.f
  rw [u64w (x := r) (by omega) (by omega), u64w (x := v) (by omega) (by omega), u64w (x := r * v) (by omega) (by omega), u64w (x := mxp p) (by omega) (by omega)]
  exact ev_bind (rmul_ev (by omega) (by omega) (by omega) (by omega)) (Ev.now _)
theorem rless_eq {A B : Int} : customsref01_Less.f (A / 18446744073709551616) (A % 18446744073709551616) (B / 18446744073709551616) (B % 18446744073709551616) = some (decide (A < B)) := by
  unfold customsref01_Less.f
  by_cases c1 : A / 18446744073709551616 < B / 18446744073709551616
  · rw [if_pos c1, decide_eq_true (show A < B by omega)]
  · rw [if_neg c1]
    by_cases c2 : A / 18446744073709551616 = B / 18446744073709551616
    · rw [if_pos c2]
      congr 1
      exact decide_eq_decide.2 ⟨fun h => by omega, fun h => by omega⟩
    · rw [if_neg c2, decide_eq_false (show ¬ A < B by omega)]
theorem rnd2_eq' (N c : Int) : rnd 2 N c = rndh N c := by
  have e : D.up 2 (N / c) (N % c) c = decide (N % c ≥ c - N % c) := by unfold D.up; rw [if_neg (by decide), if_pos rfl]
  unfold rnd rndh
  rw [e]
  simp only [decide_eq_true_eq]
theorem rdiv_ev {N P : Int} (P0 : 1 ≤ P) (P1 : P ≤ 1000000) (N0 : 0 ≤ N) (N1 : N ≤ 100010000000000000 * (P * 1000000)) :
    Ev (fun k => customsref01_Div.f k (N / 18446744073709551616) (N % 18446744073709551616) (IntKind.u64.wrap ((IntKind.u64.wrap P) * 1000000)) 2) (rndh N (P * 1000000), 0) := by
  rw [u64w (x := P) (by omega) (by omega), u64w (x := P * 1000000) (by omega) (by omega)]
  have hb := rndh_in (N := N) (c := P * 1000000) (B := 100010000000000000) (by omega) N0 N1
  obtain ⟨n, hn⟩ := Int.eq_ofNat_of_zero_le N0
  have h := refDiv_ev n (P * 1000000) 2 (by omega) (by omega) (by omega)
  have e : (n : Int) = N := hn.symm
  rw [e] at h
  unfold divS at h
  rw [if_neg (by omega), rnd2_eq', if_neg (by omega)] at h
  exact h
def fin18 (N c : Int) : Int × Int := if rndh N c > 1000000000000 then (0, 3) else (rndh N c, 0)
theorem rlast_ev {N P : Int} (P0 : 1 ≤ P) (P1 : P ≤ 1000000) (N0 : 0 ≤ N) (N1 : N ≤ 100010000000000000 * (P * 1000000)) :
    Ev (fun k => (customsref01_Div.f k (N / 18446744073709551616) (N % 18446744073709551616) (IntKind.u64.wrap ((IntKind.u64.wrap P) * 1000000)) 2).bind fun bt504 => (if bt504.2 = 0 then (if bt504.1 > 1000000000000 then (some (0, 3)) else (some (wrap64 (bt504.1), 0))) else (some (0, 3)))) (fin18 N (P * 1000000)) := by
  have hb := rndh_in (N := N) (c := P * 1000000) (B := 100010000000000000) (by omega) N0 N1
  refine ev_bind (rdiv_ev P0 P1 N0 N1) (ev_pos rfl ?_)
  unfold fin18
  by_cases c : rndh N (P * 1000000) > 1000000000000
  · have e : (if rndh N (P * 1000000) > 1000000000000 then ((0 : Int), (3 : Int)) else (rndh N (P * 1000000), 0)) = (0, 3) := if_pos c
    rw [e]; exact ev_pos c (Ev.now _)
  · have e : (if rndh N (P * 1000000) > 1000000000000 then ((0 : Int), (3 : Int)) else (rndh N (P * 1000000), 0)) = (rndh N (P * 1000000), 0) := if_neg c
    rw [e]
    refine ev_neg c ?_
    show Ev (fun _ => some (wrap64 (rndh N (P * 1000000)), (0 : Int))) _
    rw [w64 (by omega) (by omega)]
    exact Ev.now _
theorem reval_ev (r a p : Int) (hm : Bool) (m : Int) (hl : Bool) (l v q : Int) : Ev (fun k => customsref17_Evaluate.f k r a p hm m hl l v q) (deval r a p hm m hl l v q) := by
  unfold customsref17_Evaluate.f
  refine ev_bind (refDuty_ev r a p hm m hl l) ?_
  unfold deval
  by_cases hv : dvalid r a p hm m hl l = 0
  · rw [if_neg (by simpa using hv)]
    refine ev_pos hv ?_
    rw [in_eq, in_eq]
    have bad : Ev (fun k => customsref17_Evaluate.j0 k v q true r a p hm m hl l) (0, 2) := Ev.step (fun k => by rw [customsref17_Evaluate.j0]) (ev_pos rfl (Ev.now _))
    refine ev_let ?_
    by_cases c1 : 0 ≤ v ∧ v ≤ 1000000000000
    · refine ev_pos (decide_eq_true c1) (ev_let ?_)
      by_cases c2 : 0 ≤ q ∧ q ≤ 1000000000
      · rw [if_neg (by omega), decide_eq_true c2]
        obtain ⟨hr, ha0, ha1, hp1, hp2, hm', hl', -, -, -⟩ := dvalid_ok.1 hv
        have pp : 0 ≤ p ∧ p ≤ 1000000 := by
          by_cases c : a = 0
          · have := hp1 c; omega
          · have := hp2 (by omega); omega
        have hp := mxp_in pp.1 pp.2
        have hsum := sum_in hr ha0 ha1 c1.1 c1.2 c2.1 c2.2 pp.1 pp.2
        have hcap := cap_in (hm := hm) hm' c1.1 c1.2 pp.1 pp.2 hsum.2.2.1 hsum.2.2.2
        have hshr := shr_in_ hr c1.1 c1.2 pp.1 pp.2
        have hshl := shr_in_ hl' c1.1 c1.2 pp.1 pp.2
        
        have J2 : ∀ W, 0 ≤ W → W ≤ 100010000000000000 * (mxp p * 1000000) → Ev (fun k => customsref17_Evaluate.j2 k v (mxp p) r a p hm m hl l (W / 18446744073709551616) (W % 18446744073709551616)) (fin18 (dflo p hl l v W) (mxp p * 1000000)) := by
          intro W W0 W1
          have J3 : ∀ b : Bool, Ev (fun k => customsref17_Evaluate.j3 k v (mxp p) b r a p hm m hl l (W / 18446744073709551616) (W % 18446744073709551616)) (fin18 (if b = true then shr_ l v p else W) (mxp p * 1000000)) := by
            intro b
            cases b with
            | true =>
              rw [if_pos rfl]
              exact Ev.step (fun k => by rw [customsref17_Evaluate.j3]) (ev_pos rfl (ev_bind (rscaled_ev hl' c1.1 c1.2 pp.1 pp.2) (rlast_ev (N := shr_ l v p) hp.1 hp.2 hshl.2.2.1 (by omega))))
            | false =>
              rw [if_neg (show ¬ (false = true) by decide)]
              exact Ev.step (fun k => by rw [customsref17_Evaluate.j3]) (ev_neg (show ¬ (false = true) by decide) (rlast_ev hp.1 hp.2 W0 W1))
          unfold dflo
          cases hl with
          | true =>
            refine Ev.step (fun k => by rw [customsref17_Evaluate.j2]) (ev_pos rfl (ev_bind (rscaled_ev hl' c1.1 c1.2 pp.1 pp.2) ?_))
            show Ev (fun k => (customsref01_Less.f (W / 18446744073709551616) (W % 18446744073709551616) (shr_ l v p / 18446744073709551616) (shr_ l v p % 18446744073709551616)).bind fun t501 => (customsref17_Evaluate.j3 k v (mxp p) t501 r a p hm m true l (W / 18446744073709551616) (W % 18446744073709551616))) _
            rw [rless_eq]
            have := J3 (decide (W < shr_ l v p))
            simp only [decide_eq_true_eq] at this
            simp only [true_and]
            exact ev_let this
          | false =>
            rw [if_neg (by simp)]
            have := J3 false
            rw [if_neg (show ¬ (false = true) by decide)] at this
            exact Ev.step (fun k => by rw [customsref17_Evaluate.j2]) (ev_neg (show ¬ (false = true) by decide) this)
        
        have J1 : ∀ b : Bool, b = decide (hm = true ∧ dsum r a p v q > shr_ m v p) → Ev (fun k => customsref17_Evaluate.j1 k v (mxp p) b r a p hm m hl l (dsum r a p v q / 18446744073709551616) (dsum r a p v q % 18446744073709551616)) (fin18 (dwide r a p hm m hl l v q) (mxp p * 1000000)) := by
          intro b hb
          have h2 := J2 (dcap p hm m v (dsum r a p v q)) hcap.1 hcap.2
          by_cases c : hm = true ∧ dsum r a p v q > shr_ m v p
          · rw [decide_eq_true c] at hb
            subst hb
            unfold dwide
            unfold dcap at h2 ⊢
            rw [if_pos c] at h2 ⊢
            exact Ev.step (fun k => by rw [customsref17_Evaluate.j1]) (ev_pos rfl (ev_bind (rscaled_ev hm' c1.1 c1.2 pp.1 pp.2) h2))
          · rw [decide_eq_false c] at hb
            subst hb
            unfold dwide
            unfold dcap at h2 ⊢
            rw [if_neg c] at h2 ⊢
            exact Ev.step (fun k => by rw [customsref17_Evaluate.j1]) (ev_neg (show ¬ (false = true) by decide) h2)
        have ea : IntKind.u64.wrap ((IntKind.u64.wrap a) * (IntKind.u64.wrap q)) = a * q := by
          rw [u64w (x := a) (by omega) (by omega), u64w (x := q) (by omega) (by omega), u64w (by omega) (by omega)]
        have hmul := rmul_ev (a := a * q) (b := 1000000) (by omega) (by omega) (by omega) (by omega)
        have hadd := add_eq (A := shr_ r v p) (B := a * q * 1000000) hshr.2.2.1 (by omega) (by unfold dsum at hsum; omega)
        have hd : (if dnum r a p hm m hl l v q > 1000000000000 then ((0 : Int), (3 : Int)) else (dnum r a p hm m hl l v q, 0)) = fin18 (dwide r a p hm m hl l v q) (mxp p * 1000000) := rfl
        rw [hd]
        refine Ev.step (fun k => by rw [customsref17_Evaluate.j0]) (ev_neg (by decide) ?_)
        rw [ea, show mx p 1 = mxp p from rfl]
        refine ev_bind (rscaled_ev hr c1.1 c1.2 pp.1 pp.2) (ev_bind hmul ?_)
        show Ev (fun k => (customsref01_Add.f (shr_ r v p / 18446744073709551616) (shr_ r v p % 18446744073709551616) (a * q * 1000000 / 18446744073709551616) (a * q * 1000000 % 18446744073709551616)).bind _) _
        rw [hadd]
        refine ev_let ?_
        show Ev (fun k => if hm = true then ((customsref17_scaled.f k m v (mxp p)).bind fun bt494 => ((customsref01_Less.f bt494.1 bt494.2 (dsum r a p v q / 18446744073709551616) (dsum r a p v q % 18446744073709551616)).bind fun t496 => (customsref17_Evaluate.j1 k v (mxp p) t496 r a p hm m hl l (dsum r a p v q / 18446744073709551616) (dsum r a p v q % 18446744073709551616)))) else (customsref17_Evaluate.j1 k v (mxp p) false r a p hm m hl l (dsum r a p v q / 18446744073709551616) (dsum r a p v q % 18446744073709551616))) _
        refine ev_ite (fun h => ev_bind (rscaled_ev hm' c1.1 c1.2 pp.1 pp.2) ?_) (fun h => J1 false (by rw [decide_eq_false (fun c => h c.1)]))
        show Ev (fun k => (customsref01_Less.f (shr_ m v p / 18446744073709551616) (shr_ m v p % 18446744073709551616) (dsum r a p v q / 18446744073709551616) (dsum r a p v q % 18446744073709551616)).bind _) _
        rw [rless_eq]
        exact ev_let (J1 _ (decide_eq_decide.2 ⟨fun c => ⟨h, c⟩, fun c => c.2⟩))
      · rw [if_pos (by omega), decide_eq_false c2]
        exact bad
    · rw [if_pos (by omega)]
      exact ev_neg (fun h => c1 (of_decide_eq_true h)) bad
  · rw [if_pos hv]
    exact ev_neg hv (Ev.now _)
end Go.Proofs.YtfpkgdkcllobiaaDoor.D
end
section
namespace Go.Proofs.YtfpkgdkcllobiaaDoor.D
set_option linter.unusedVariables false
set_option linter.unusedSimpArgs false
open Go.RowKit Go.Proofs.YtfpkgdkcllobiaaDoorW.PrintWords Go.Proofs.YtfpkgdkcllobiaaDoorW.PrintMore Go.Proofs.YtfpkgdkcllobiaaDoor.F
theorem within_ev (a n : Int) (h0 : 1 ≤ n) (h1 : n ≤ 1000000000000000) : ∃ v, customsmade_Within.f a n = some v ∧ 0 ≤ v ∧ v < n := by
  unfold customsmade_Within.f
  rw [if_neg (by omega)]
  have h2 : -n < Int.tmod a n ∧ Int.tmod a n < n := by
    have := Int.tmod_lt_of_pos a (show 0 < n by omega)
    have h3 := Int.tmod_lt_of_pos (-a) (show 0 < n by omega)
    rw [Int.neg_tmod] at h3
    omega
  rw [w64 (by omega) (by omega), tmod_pos (by omega)]
  exact ⟨_, rfl, Int.emod_nonneg _ (by omega), Int.emod_lt_of_pos _ (by omega)⟩
theorem src_next (xs : List Int) (hl : xs.length ≤ 1000000000000) (n : Int) (h0 : 1 ≤ n) (h1 : n ≤ 1000000000000000) (p : Nat) (hp : p ≤ xs.length) :
    ∃ (v : Int) (q : Nat), customsmade_Source_Next.f xs (p : Int) n = some (v, (q : Int)) ∧ q ≤ xs.length ∧ 0 ≤ v ∧ v < n := by
  unfold customsmade_Source_Next.f
  by_cases h : p < xs.length
  · rw [if_neg (by omega), w64 (x := (p : Int) + 1) (by omega) (by omega), w64 (by omega) (by omega), if_pos (by omega), if_pos (by omega)]
    obtain ⟨v, e, v0, v1⟩ := within_ev (rd xs ((p : Int) + 1 - 1)) n h0 h1
    rw [e]
    exact ⟨v, p + 1, rfl, by omega, v0, v1⟩
  · rw [if_pos (by omega)]
    exact ⟨0, p, rfl, hp, by omega, by omega⟩
theorem src_rate (xs : List Int) (hl : xs.length ≤ 1000000000000) (p : Nat) (hp : p ≤ xs.length) :
    ∃ (v : Int) (q : Nat), customsmade_Source_rate.f xs (p : Int) = some (v, (q : Int)) ∧ q ≤ xs.length ∧ 0 ≤ v ∧ v ≤ 1000000 := by
  unfold customsmade_Source_rate.f
  obtain ⟨v, q, e, hq, v0, v1⟩ := src_next xs hl 4 (by decide) (by decide) p hp
  rw [e]
  show ∃ (v_1 : Int) (q_1 : Nat), (if v > 0 then _ else _) = _ ∧ _
  by_cases h : v > 0
  · obtain ⟨v', q', e', hq', v0', v1'⟩ := src_next xs hl 101 (by decide) (by decide) q hq
    refine ⟨10000 * v', q', ?_, hq', by omega, by omega⟩
    rw [if_pos h]
    show (customsmade_Source_Next.f xs (q : Int) 101).bind _ = _
    rw [e']
    show some (wrap64 (10000 * v'), (q' : Int)) = _
    rw [w64 (by omega) (by omega)]
  · obtain ⟨v', q', e', hq', v0', v1'⟩ := src_next xs hl 1000001 (by decide) (by decide) q hq
    refine ⟨v', q', ?_, hq', by omega, by omega⟩
    rw [if_neg h]
    show (customsmade_Source_Next.f xs (q : Int) 1000001).bind _ = _
    rw [e']
    rfl
structure Made (r a p : Int) (hm : Bool) (m : Int) (hl : Bool) (l : Int) : Prop where
  r0 : 0 ≤ r
  r1 : r ≤ 250000
  a0 : 0 ≤ a
  a1 : a ≤ 500
  p0 : a = 0 → p = 0
  p1 : a > 0 → 1 ≤ p ∧ p ≤ 1000000
  m0 : 0 ≤ m
  m1 : m ≤ 1000000
  l0 : 0 ≤ l
  l1 : l ≤ 1000000
  hm0 : hm = false → m = 0
  hl0 : hl = false → l = 0
  lm : hm = true → hl = true → l ≤ m
theorem duty_j2 (xs : List Int) (hx : xs.length ≤ 1000000000000) (p : Nat) (hp : p ≤ xs.length) (r a pr : Int) (hm : Bool) (m : Int) (m0 : 0 ≤ m) (m1 : m ≤ 1000000) :
    ∃ (hl : Bool) (l : Int) (q : Int), Ev (fun k => customsmade_Source_duty.j2 k xs (p : Int) r a pr hm m false 0) (r, a, pr, hm, m, hl, l, q) ∧ 0 ≤ l ∧ l ≤ 1000000 ∧ (hl = false → l = 0) ∧ (hm = true → hl = true → l ≤ m) := by
  obtain ⟨v, q, e, hq, v0, v1⟩ := src_next xs hx 4 (by decide) (by decide) p hp
  by_cases h : v = 1
  · obtain ⟨v', q', e', hq', v0', v1'⟩ := src_rate xs hx q hq
    have ed : wrap64 (Int.tdiv v' 8) = v' / 8 := by rw [tdiv_pos v0', w64 (by omega) (by omega)]
    cases hm with
    | true =>
      refine ⟨true, mn (v' / 8) m, q', Ev.step (fun k => by rw [customsmade_Source_duty.j2]) (ev_bind (ev_const e) (ev_pos h (ev_bind (ev_const e') (ev_pos rfl ?_)))), ?_, ?_, (fun h => by cases h), fun _ _ => ?_⟩
      · show Ev (fun _ => some (r, a, pr, true, m, true, mn (wrap64 (Int.tdiv v' 8)) m, (q' : Int))) _
        rw [ed]
        exact Ev.now _
      · unfold mn; split <;> omega
      · unfold mn; split <;> omega
      · unfold mn; split <;> omega
    | false =>
      refine ⟨true, v' / 8, q', Ev.step (fun k => by rw [customsmade_Source_duty.j2]) (ev_bind (ev_const e) (ev_pos h (ev_bind (ev_const e') (ev_neg (show ¬ (false = true) by decide) ?_)))), by omega, by omega, (fun h => by cases h), fun h => by cases h⟩
      show Ev (fun _ => some (r, a, pr, false, m, true, wrap64 (Int.tdiv v' 8), (q' : Int))) _
      rw [ed]
      exact Ev.now _
  · exact ⟨false, 0, q, Ev.step (fun k => by rw [customsmade_Source_duty.j2]) (ev_bind (ev_const e) (ev_neg h (Ev.now _))), by omega, by omega, fun _ => rfl, fun _ h => by cases h⟩
theorem duty_j1 (xs : List Int) (hx : xs.length ≤ 1000000000000) (p : Nat) (hp : p ≤ xs.length) (r a pr : Int) :
    ∃ (hm : Bool) (m : Int) (hl : Bool) (l : Int) (q : Int), Ev (fun k => customsmade_Source_duty.j1 k xs (p : Int) r a pr false 0 false 0) (r, a, pr, hm, m, hl, l, q) ∧ 0 ≤ m ∧ m ≤ 1000000 ∧ (hm = false → m = 0) ∧ 0 ≤ l ∧ l ≤ 1000000 ∧ (hl = false → l = 0) ∧ (hm = true → hl = true → l ≤ m) := by
  obtain ⟨v, q, e, hq, v0, v1⟩ := src_next xs hx 4 (by decide) (by decide) p hp
  by_cases h : v = 1
  · obtain ⟨v', q', e', hq', v0', v1'⟩ := src_rate xs hx q hq
    obtain ⟨hl, l, z, he, l0, l1, l2, l3⟩ := duty_j2 xs hx q' hq' r a pr true v' v0' v1'
    exact ⟨true, v', hl, l, z, Ev.step (fun k => by rw [customsmade_Source_duty.j1]) (ev_bind (ev_const e) (ev_pos h (ev_bind (ev_const e') he))), v0', v1', (fun h => by cases h), l0, l1, l2, l3⟩
  · obtain ⟨hl, l, z, he, l0, l1, l2, l3⟩ := duty_j2 xs hx q hq r a pr false 0 (by omega) (by omega)
    exact ⟨false, 0, hl, l, z, Ev.step (fun k => by rw [customsmade_Source_duty.j1]) (ev_bind (ev_const e) (ev_neg h he)), by omega, by omega, fun _ => rfl, l0, l1, l2, l3⟩
theorem rd_five {v : Int} (h0 : 0 ≤ v) (h1 : v < 5) : 1 ≤ rd [1, 100, 1000, 1000000, 7] v ∧ rd [1, 100, 1000, 1000000, 7] v ≤ 1000000 := by
  have : v = 0 ∨ v = 1 ∨ v = 2 ∨ v = 3 ∨ v = 4 := by omega
  rcases this with rfl | rfl | rfl | rfl | rfl <;> exact ⟨by decide, by decide⟩
theorem duty_j0 (xs : List Int) (hx : xs.length ≤ 1000000000000) (p : Nat) (hp : p ≤ xs.length) (r : Int) (r0 : 0 ≤ r) (r1 : r ≤ 250000) :
    ∃ (a pr : Int) (hm : Bool) (m : Int) (hl : Bool) (l : Int) (q : Int), Ev (fun k => customsmade_Source_duty.j0 k xs (p : Int) r 0 0 false 0 false 0) (r, a, pr, hm, m, hl, l, q) ∧ Made r a pr hm m hl l := by
  obtain ⟨v, q, e, hq, v0, v1⟩ := src_next xs hx 3 (by decide) (by decide) p hp
  by_cases h : v = 1
  · obtain ⟨v', q', e', hq', v0', v1'⟩ := src_next xs hx 500 (by decide) (by decide) q hq
    obtain ⟨v2, q2, e2, hq2, v02, v12⟩ := src_next xs hx 5 (by decide) (by decide) q' hq'
    have h5 := rd_five v02 v12
    obtain ⟨hm, m, hl, l, z, he, m0, m1, m2, l0, l1, l2, l3⟩ := duty_j1 xs hx q2 hq2 r (1 + v') (rd [1, 100, 1000, 1000000, 7] v2)
    refine ⟨1 + v', _, hm, m, hl, l, z, Ev.step (fun k => by rw [customsmade_Source_duty.j0]) (ev_bind (ev_const e) (ev_pos h (ev_bind (ev_const e') (ev_let (ev_bind (ev_const e2) (ev_pos v02 (ev_pos v12 ?_))))))), ⟨r0, r1, by omega, by omega, (fun h => by omega), (fun _ => h5), m0, m1, l0, l1, m2, l2, l3⟩⟩
    rw [w64 (x := 1 + v') (by omega) (by omega)]
    exact he
  · obtain ⟨hm, m, hl, l, z, he, m0, m1, m2, l0, l1, l2, l3⟩ := duty_j1 xs hx q hq r 0 0
    exact ⟨0, 0, hm, m, hl, l, z, Ev.step (fun k => by rw [customsmade_Source_duty.j0]) (ev_bind (ev_const e) (ev_neg h he)), ⟨r0, r1, by omega, by omega, fun _ => rfl, fun h => by omega, m0, m1, l0, l1, m2, l2, l3⟩⟩
theorem src_duty_ev (xs : List Int) (hx : xs.length ≤ 1000000000000) : ∃ (r a p : Int) (hm : Bool) (m : Int) (hl : Bool) (l q : Int), Ev (fun k => customsmade_Source_duty.f k xs 0) (r, a, p, hm, m, hl, l, q) ∧ Made r a p hm m hl l := by
  obtain ⟨v, q, e, hq, v0, v1⟩ := src_next xs hx 3 (by decide) (by decide) 0 (by omega)
  by_cases h : v > 0
  · obtain ⟨v', q', e', hq', v0', v1'⟩ := src_rate xs hx q hq
    obtain ⟨a, pr, hm, m, hl, l, z, he, hM⟩ := duty_j0 xs hx q' hq' (v' / 4) (by omega) (by omega)
    refine ⟨_, a, pr, hm, m, hl, l, z, ev_bind (ev_const e) (ev_pos h (ev_bind (ev_const e') ?_)), hM⟩
    show Ev (fun k => customsmade_Source_duty.j0 k xs (q' : Int) (wrap64 (Int.tdiv v' 4)) 0 0 false 0 false 0) _
    rw [tdiv_pos v0', w64 (by omega) (by omega)]
    exact he
  · obtain ⟨a, pr, hm, m, hl, l, z, he, hM⟩ := duty_j0 xs hx q hq 0 (by omega) (by omega)
    exact ⟨_, a, pr, hm, m, hl, l, z, ev_bind (ev_const e) (ev_neg h he), hM⟩
theorem made_ev (l0 : List Int) : ∃ (r a p : Int) (hm : Bool) (m : Int) (hl : Bool) (l : Int), Ev (fun k => customsmade_Duty.f k l0) (r, a, p, hm, m, hl, l) ∧ Made r a p hm m hl l := by
  obtain ⟨r, a, p, hm, m, hl, l, q, he, hM⟩ := src_duty_ev (l0.take 12) (by rw [List.length_take]; omega)
  exact ⟨r, a, p, hm, m, hl, l, ev_bind he (Ev.now _), hM⟩
end Go.Proofs.YtfpkgdkcllobiaaDoor.D
end
section
namespace Go.Proofs.YtfpkgdkcllobiaaDoor.D
open Go.Joins Go.ChangeShapes Go.WideShapes Go.RowKit Go.Deep
section
variable {H : Type} {enc : TypeId × Value → H} {P : Program} {w : World} {base : Nat} {spare : Nat → Bool} {held : Bool}
theorem open_agg7 {r : Reach} {b0 : Nat} {t : TypeId} {f0 f1 f2 f3 f4 f5 f6 : Field} {v : Value} {d : DataW H} {p : List MemPlace} (hs : P.underlying t = some (.struct #[f0, f1, f2, f3, f4, f5, f6])) (hone : oneCellFields P #[f0, f1, f2, f3, f4, f5, f6] = true) (hC : P.cellsOf t = 7)
    (hv : Value.okWide P w r b0 t v) (h : DataW.Trod enc P w base spare held t v d p) :
    ∃ (v0 v1 v2 v3 v4 v5 v6 : Value) (y0 y1 y2 y3 y4 y5 y6 : DataW H × List MemPlace) (n : Nat), v = .agg #[v0, v1, v2, v3, v4, v5, v6] ∧ d = .agg [y0.1, y1.1, y2.1, y3.1, y4.1, y5.1, y6.1] ∧ p = y0.2 ++ (y1.2 ++ (y2.2 ++ (y3.2 ++ (y4.2 ++ (y5.2 ++ y6.2))))) ∧
      DataW.trod enc P w base spare held n f0.type [v0] = some y0 ∧ DataW.trod enc P w base spare held n f1.type [v1] = some y1 ∧ DataW.trod enc P w base spare held n f2.type [v2] = some y2 ∧ DataW.trod enc P w base spare held n f3.type [v3] = some y3 ∧ DataW.trod enc P w base spare held n f4.type [v4] = some y4 ∧ DataW.trod enc P w base spare held n f5.type [v5] = some y5 ∧ DataW.trod enc P w base spare held n f6.type [v6] = some y6 := by
  obtain ⟨cs, rfl, hsz⟩ := okWide_struct hs hv
  obtain ⟨l⟩ := cs
  match l, hsz.trans hC with
  | [c0, c1, c2, c3, c4, c5, c6], _ =>
    obtain ⟨fuel, hf⟩ := h
    obtain ⟨xs, n, _, hx, _, hlen, hg⟩ := DataW.trod_struct hs hf
    obtain ⟨o0, k0⟩ := hone_of hone 0 f0 rfl
    obtain ⟨o1, k1⟩ := hone_of hone 1 f1 rfl
    obtain ⟨o2, k2⟩ := hone_of hone 2 f2 rfl
    obtain ⟨o3, k3⟩ := hone_of hone 3 f3 rfl
    obtain ⟨o4, k4⟩ := hone_of hone 4 f4 rfl
    obtain ⟨o5, k5⟩ := hone_of hone 5 f5 rfl
    obtain ⟨o6, k6⟩ := hone_of hone 6 f6 rfl
    match xs, hlen with
    | [y0, y1, y2, y3, y4, y5, y6], _ =>
      simp only [Prod.mk.injEq] at hx
      exact ⟨c0, c1, c2, c3, c4, c5, c6, y0, y1, y2, y3, y4, y5, y6, n, rfl, by simpa using hx.1, by simpa using hx.2, by simpa [Value.cells, o0, k0] using hg 0 f0 rfl, by simpa [Value.cells, o1, k1] using hg 1 f1 rfl, by simpa [Value.cells, o2, k2] using hg 2 f2 rfl, by simpa [Value.cells, o3, k3] using hg 3 f3 rfl, by simpa [Value.cells, o4, k4] using hg 4 f4 rfl, by simpa [Value.cells, o5, k5] using hg 5 f5 rfl, by simpa [Value.cells, o6, k6] using hg 6 f6 rfl⟩
end
end Go.Proofs.YtfpkgdkcllobiaaDoor.D
end
section
namespace Go.Proofs.YtfpkgdkcllobiaaDoor.Pure
set_option linter.unusedVariables false
open Go.RowKit Go.Proofs.YtfpkgdkcllobiaaDoor.F Go.Proofs.YtfpkgdkcllobiaaDoor.D Go.Proofs.YtfpkgdkcllobiaaDoorW.PrintWords Go.Proofs.YtfpkgdkcllobiaaDoorW.PrintLast Go.Proofs.YtfpkgdkcllobiaaDoorW.PrintMore
theorem amt_two (n : Int) (b : Bool) : ∃ v, customslaw18_amount.f n b = some v := by
  unfold customslaw18_amount.f
  cases b with
  | true =>
    obtain ⟨v, e, _⟩ := within_ev n 100000 (by decide) (by decide)
    exact ⟨v, by rw [if_pos rfl, e]; rfl⟩
  | false =>
    obtain ⟨v, e, _⟩ := within_ev n 1000000000001 (by decide) (by decide)
    exact ⟨v, by rw [if_neg (by decide), e]; rfl⟩
theorem DutyEvaluate (l0 : List Int) (a1_0 a1_1 a1_2 : Int) (a1_3 : Bool) (a1_4 : Int) (a1_5 : Bool) (a1_6 a2 a3 : Int) (a4 a5 : Bool) (a6 : Int) : ∃ k, customslaw18_DutyEvaluate.f k l0 a1_0 a1_1 a1_2 a1_3 a1_4 a1_5 a1_6 a2 a3 a4 a5 a6 = some true := by
  refine Ev.rounds ?_
  obtain ⟨r, a, p, hm, m, hl, l, he, hM⟩ := made_ev l0
  obtain ⟨v, e1⟩ := amt_two a2 a4
  obtain ⟨q, e2, _⟩ := within_ev a3 1000000001 (by decide) (by decide)
  have S : ∀ r a p hm m hl l v q, Ev (fun k => (duty_Evaluate.f r a p hm m hl l v q).bind fun bt517 => ((customsref17_Evaluate.f k r a p hm m hl l v q).bind fun bt519 => (if bt517.1 = bt519.1 then (if bt517.2 = bt519.2 then ((customslaw18_awake.f k).bind fun t521 => (some t521)) else (some false)) else (some false)))) true := fun r a p hm m hl l v q =>
    ev_bind (ev_const (show duty_Evaluate.f r a p hm m hl l v q = some (deval r a p hm m hl l v q) from rfl)) (ev_bind (reval_ev r a p hm m hl l v q) (ev_pos rfl (ev_pos rfl (ev_bind awake_ev (Ev.now _)))))
  have J : ∀ r a p hm m hl l, Ev (fun k => customslaw18_DutyEvaluate.j0 k a2 a3 a4 a5 r a p hm m hl l) true := by
    intro r a p hm m hl l
    refine Ev.step (fun k => by rw [customslaw18_DutyEvaluate.j0]) (ev_ite (fun h => S _ _ _ _ _ _ _ _ _) (fun h => ?_))
    rw [e1, e2]
    exact ev_let (ev_let (S _ _ _ _ _ _ _ _ _))
  unfold customslaw18_DutyEvaluate.f
  exact ev_bind he (ev_ite (fun h => J _ _ _ _ _ _ _) (fun h => J _ _ _ _ _ _ _))
end Go.Proofs.YtfpkgdkcllobiaaDoor.Pure
end
