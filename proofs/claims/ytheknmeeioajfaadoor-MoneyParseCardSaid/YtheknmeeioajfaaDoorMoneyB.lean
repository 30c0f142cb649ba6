/- Layer 2 in plain words: which texts are amounts: the program's Parse and the reference's. -/
import Derived.Test.YtheknmeeioajfaaDoorMoneyA
import Derived.Test.YtheknmeeioajfaaDoorF10 -- money_Parse
import Derived.Test.YtheknmeeioajfaaDoorF15 -- customsref02_Parse
namespace Go.Proofs.YtheknmeeioajfaaDoor.D
set_option linter.unusedVariables false
set_option linter.unusedSimpArgs false
open Go.RowKit Go.Proofs.YtheknmeeioajfaaDoorW.PrintWords Go.Proofs.YtheknmeeioajfaaDoorW.PrintMore Go.Proofs.YtheknmeeioajfaaDoor.F Go.Lib
theorem digs_two (m : Nat) : digs [UInt8.ofNat (48 + m / 10 % 10), UInt8.ofNat (48 + m % 10)] :=
  digs_cons (by rw [toNat_dig _ (by omega)]; omega) (digs_cons (by rw [toNat_dig _ (by omega)]; omega) digs_nil)
def body (m : Nat) : List UInt8 := decDigits (m / 100) ++ [UInt8.ofNat (48 + m / 10 % 10), UInt8.ofNat (48 + m % 10)]
theorem digs_body (m : Nat) : digs (body m) := digs_append (digs_dec _) (digs_two m)
theorem val_body (m : Nat) : val 0 (body m) = m := by
  unfold body
  rw [val_append, val_dec, val_cons, val_cons, val_nil, toNat_dig _ (by omega), toNat_dig _ (by omega)]
  omega
theorem body_ne (m : Nat) : body m ≠ [] := by unfold body; simp
def pre (x : Int) : List UInt8 := if x < 0 then [45] else []
theorem fmt_eq (x : Int) : fmt x = pre x ++ fmtL x.natAbs := by
  unfold fmt pre
  by_cases h : x < 0
  · rw [if_pos h, if_pos h]; rfl
  · rw [if_neg h, if_neg h, show x.toNat = x.natAbs by omega]; rfl
theorem pre_len (x : Int) : (pre x).length ≤ 1 := by unfold pre; split <;> simp
theorem fmt_len (x : Int) (h : amt x) : 4 ≤ (fmt x).length ∧ (fmt x).length ≤ 15 := by
  unfold amt at h
  rw [fmt_eq, List.length_append]
  have := fmtL_len x.natAbs (by omega)
  have := pre_len x
  omega
theorem fmt_parts (x : Int) : fmt x = (pre x ++ decDigits (x.natAbs / 100)) ++ 46 :: [UInt8.ofNat (48 + x.natAbs / 10 % 10), UInt8.ofNat (48 + x.natAbs % 10)] := by
  rw [fmt_eq]; unfold fmtL; simp
theorem fmt_cut (x : Int) : (fmt x).take ((fmt x).length - 3) ++ (fmt x).drop ((fmt x).length - 2) = pre x ++ body x.natAbs ∧ (fmt x)[(fmt x).length - 3]? = some 46 := by
  have e := fmt_parts x
  generalize hl : pre x ++ decDigits (x.natAbs / 100) = l at e
  have hL : (fmt x).length = l.length + 3 := by rw [e]; simp
  rw [hL, e]
  constructor
  · rw [show l.length + 3 - 3 = l.length by omega, show l.length + 3 - 2 = l.length + 1 by omega, List.take_left', List.drop_append]
    · simp [body, ← hl]
    · rfl
  · rw [show l.length + 3 - 3 = l.length by omega]; simp
theorem atoi_cut (x : Int) (h : amt x) : atoiAll (pre x ++ body x.natAbs) = .ok x := by
  unfold amt at h
  unfold pre
  by_cases hx : x < 0
  · rw [if_pos hx]
    show atoiAll (45 :: body x.natAbs) = _
    rw [atoi_neg _ (digs_body _) (body_ne _) (by rw [val_body]; omega), val_body]
    congr 1; omega
  · rw [if_neg hx]
    show atoiAll (body x.natAbs) = _
    rw [atoi_pos _ (digs_body _) (body_ne _) (by rw [val_body]; omega), val_body]
    congr 1; omega
theorem fmt_inj {x y : Int} (hx : amt x) (hy : amt y) (h : fmt x = fmt y) : x = y := by
  have h1 := atoi_cut x hx
  have h2 := atoi_cut y hy
  rw [← (fmt_cut x).1, h, (fmt_cut y).1, h2] at h1
  injection h1 with h1
  exact h1.symm
theorem fmtB_amt {x : Int} (h : amt x) : fmtB x = ⟨(fmt x).toArray⟩ := by unfold fmtB; rw [if_pos h]
theorem fmtB_list {x : Int} (h : amt x) : (fmtB x).data.toList = fmt x := by rw [fmtB_amt h]
theorem fmtB_size {x : Int} (h : amt x) : (fmtB x).size = (fmt x).length := by rw [← data_size, fmtB_list h]
/-- What a Parse answers. -/
def IsParse (s : ByteArray) (r : Int × Int) : Prop := (∃ x, amt x ∧ fmtB x = s ∧ r = (x, 0)) ∨ ((∀ x, amt x → fmtB x ≠ s) ∧ r = (0, 4))
theorem isParse_one {s : ByteArray} {r t : Int × Int} (h : IsParse s r) (k : IsParse s t) : r = t := by
  rcases h with ⟨x, hx, ex, rfl⟩ | ⟨hn, rfl⟩
  · rcases k with ⟨y, hy, ey, rfl⟩ | ⟨kn, rfl⟩
    · have := fmt_inj hx hy (by rw [← fmtB_list hx, ← fmtB_list hy, ex, ey])
      rw [this]
    · exact absurd ex (kn x hx)
  · rcases k with ⟨y, hy, ey, rfl⟩ | ⟨kn, rfl⟩
    · exact absurd ey (hn y hy)
    · rfl
theorem isParse_fmt {x : Int} (h : amt x) {r : Int × Int} (k : IsParse (fmtB x) r) : r = (x, 0) := isParse_one k (Or.inl ⟨x, h, rfl, rfl⟩)
theorem bt_data (s : ByteArray) (i : Nat) (h : i < s.size) : bt s (i : Int) = ((s.data.toList[i]'(by rw [data_size]; exact h)).toNat : Int) := by
  unfold bt
  rw [dif_pos (show (i : Int).toNat < s.size by omega)]
  rfl
theorem not_amt_empty {x : Int} (h : ¬ amt x) : fmtB x = ⟨#[]⟩ := by unfold fmtB; rw [if_neg h]
theorem parse_ev (s : ByteArray) (hs : s.size ≤ 140737488351232) : ∃ r, Ev (fun k => money_Parse.f k s) r ∧ IsParse s r := by
  have bad : ∀ {P : Prop}, ¬ (4 ≤ s.size ∧ s.size ≤ 15) → ∃ r, Ev (fun k => money_Parse.j0 k s true) r ∧ IsParse s r := fun hz =>
    ⟨(0, 4), Ev.step (fun k => by rw [money_Parse.j0]) (ev_pos rfl (Ev.now _)), Or.inr ⟨fun x hx e => hz (by rw [← e, fmtB_size hx]; exact fmt_len x hx), rfl⟩⟩
  unfold money_Parse.f
  by_cases h4 : (s.size : Int) < 4
  · obtain ⟨r, h, k⟩ := bad (P := True) (by omega)
    exact ⟨r, ev_pos h4 h, k⟩
  by_cases h16 : (s.size : Int) > 16
  · obtain ⟨r, h, k⟩ := bad (P := True) (by omega)
    exact ⟨r, ev_neg h4 (ev_pos h16 h), k⟩
  have e3 : wrap64 ((s.size : Int) - 3) = ((s.size - 3 : Nat) : Int) := by rw [w64 (by omega) (by omega)]; omega
  have e2 : wrap64 ((s.size : Int) - 2) = ((s.size - 2 : Nat) : Int) := by rw [w64 (by omega) (by omega)]; omega
  rw [e3]
  by_cases hp : bt s ((s.size - 3 : Nat) : Int) = 46
  · generalize hl : s.data.toList.take (s.size - 3) ++ s.data.toList.drop (s.size - 2) = l
    have hext : s.extract 0 (s.size - 3) ++ s.extract (s.size - 2) s.size = ⟨l.toArray⟩ := by
      apply str_ext
      rw [← hl]
      simp [List.take_of_length_le, data_size]
    have hll : l.length ≤ 16 := by rw [← hl]; simp; omega
    have good : ∀ x, amt x → fmtB x = s → atoiAll l = .ok x := fun x hx e => by
      have e1 : s.data.toList = fmt x := by rw [← e, fmtB_list hx]
      have e2 : s.size = (fmt x).length := by rw [← e, fmtB_size hx]
      rw [← hl, e1, e2, (fmt_cut x).1]
      exact atoi_cut x hx
    have hbody : ∀ r, Ev (fun k => (strconv_Atoi.f ⟨l.toArray⟩).bind fun bt166 => (if bt166.2.isNone = true then ((money_Format.f k bt166.1).bind fun t169 => (if t169.toList = s.toList then (some (bt166.1, 0)) else (some (0, 4)))) else (some (0, 4)))) r →
        Ev (fun k => if ((s.size : Int)) < 4 then (money_Parse.j0 k s true) else (if (s.size : Int) > 16 then (money_Parse.j0 k s true) else (if 0 ≤ (((s.size - 3 : Nat) : Int)) then (if (((s.size - 3 : Nat) : Int)) < (s.size : Int) then (money_Parse.j0 k s ((bt s ((s.size - 3 : Nat) : Int)) != 46)) else (none)) else (none)))) r := fun r hr => by
      refine ev_neg h4 (ev_neg h16 (ev_pos (by omega) (ev_pos (by omega) ?_)))
      rw [hp]
      refine Ev.step (fun k => by rw [money_Parse.j0]) (ev_neg (by decide) ?_)
      rw [e3, e2]
      refine ev_pos (by omega) (ev_pos (by omega) (ev_pos (by omega) (ev_pos (by omega) (ev_pos (by omega) ?_))))
      rw [Int.toNat_natCast, Int.toNat_natCast, hext]
      exact hr
    have hsz : (⟨l.toArray⟩ : ByteArray).size ≤ 281474976710656 := by rw [size_mk]; omega
    by_cases ha : ∃ v, atoiAll l = .ok v
    · obtain ⟨v, ha⟩ := ha
      by_cases hv : amt v ∧ fmtB v = s
      · refine ⟨(v, 0), hbody _ ?_, Or.inl ⟨v, hv.1, hv.2, rfl⟩⟩
        rw [strconv_Atoi.ok hsz ha]
        exact ev_let (ev_pos rfl (ev_bind (format_ev v) (ev_pos (by rw [hv.2]) (Ev.now _))))
      · refine ⟨(0, 4), hbody _ ?_, Or.inr ⟨fun x hx e => hv ?_, rfl⟩⟩
        · rw [strconv_Atoi.ok hsz ha]
          refine ev_let (ev_pos rfl (ev_bind (format_ev v) (ev_neg (fun e => hv ?_) (Ev.now _))))
          have e' := (str_list _ _).1 e
          by_cases hva : amt v
          · exact ⟨hva, e'⟩
          · rw [not_amt_empty hva] at e'
            rw [← e'] at h4
            exact absurd (by decide) h4
        · have := good x hx e
          rw [ha] at this
          injection this with this
          rw [this]
          exact ⟨hx, e⟩
    · obtain ⟨n, hn⟩ := strconv_Atoi.bad hsz (fun v h => ha ⟨v, h⟩)
      refine ⟨(0, 4), hbody _ ?_, Or.inr ⟨fun x hx e => ha ⟨x, good x hx e⟩, rfl⟩⟩
      rw [hn]
      exact ev_let (ev_neg (by simp) (Ev.now _))
  · refine ⟨(0, 4), ?_, Or.inr ⟨fun x hx e => hp ?_, rfl⟩⟩
    · refine ev_neg h4 (ev_neg h16 (ev_pos (by omega) (ev_pos (by omega) ?_)))
      rw [show (bt s ((s.size - 3 : Nat) : Int) != 46) = true from bne_iff_ne.2 hp]
      exact Ev.step (fun k => by rw [money_Parse.j0]) (ev_pos rfl (Ev.now _))
    · have e1 : s.data.toList = fmt x := by rw [← e, fmtB_list hx]
      have e2 : s.size = (fmt x).length := by rw [← e, fmtB_size hx]
      rw [bt_data s _ (by omega)]
      have h3 := (fmt_cut x).2
      rw [← e1, data_size] at h3
      rw [List.getElem?_eq_getElem (by rw [data_size]; omega)] at h3
      injection h3 with h3
      rw [h3]
      rfl
/-! ### the reference -/
def rstep (p : Int × Int) (c : UInt8) : Int × Int :=
  if c.toNat = 45 then (p.1, -1) else if 48 ≤ c.toNat ∧ c.toNat ≤ 57 then (if p.1 ≤ 1000000000000 then (10 * p.1 + (c.toNat - 48 : Int), p.2) else p) else p
def rok (p : Int × Int) : Prop := 0 ≤ p.1 ∧ p.1 ≤ 10000000000009 ∧ (p.2 = 1 ∨ p.2 = -1)
theorem rok_step (p : Int × Int) (c : UInt8) (h : rok p) : rok (rstep p c) := by
  unfold rok at h
  unfold rstep rok
  split
  · exact ⟨h.1, h.2.1, Or.inr rfl⟩
  · split
    · rename_i hc
      split
      · exact ⟨by show 0 ≤ 10 * p.1 + _; omega, by show 10 * p.1 + _ ≤ _; omega, h.2.2⟩
      · exact h
    · exact h
theorem rok_fold (l : List UInt8) : ∀ p, rok p → rok (l.foldl rstep p) := by
  induction l with
  | nil => intro p h; exact h
  | cons c r ih => intro p h; exact ih _ (rok_step p c h)
theorem refParse_l (s : ByteArray) (hs : s.size ≤ 140737488351232) (d : Nat) : ∀ (i : Nat) (p : Int × Int) (r : Int × Int), i + d = min s.size 20 → rok p →
    (∀ i' : Int, Ev (fun k => customsref02_Parse.j1 k s (((s.data.toList.take 20).drop i).foldl rstep p).1 (((s.data.toList.take 20).drop i).foldl rstep p).2 i' false) r) → Ev (fun k => customsref02_Parse.l0 k s p.1 p.2 (i : Int)) r := by
  induction d with
  | zero =>
    intro i p r hi hp hr
    have hd : (s.data.toList.take 20).drop i = [] := List.drop_of_length_le (by rw [List.length_take, data_size]; omega)
    rw [hd, List.foldl_nil] at hr
    refine Ev.step (fun k => by rw [customsref02_Parse.l0]) ?_
    refine ev_ite (fun h => ?_) (fun _ => hr i)
    rw [decide_eq_false (by omega)]
    exact hr i
  | succ d ih =>
    intro i p r hi hp hr
    have hlt : i < s.size := by omega
    have hl : i < s.data.toList.length := by rw [data_size]; exact hlt
    have hd : (s.data.toList.take 20).drop i = s.data.toList[i] :: (s.data.toList.take 20).drop (i + 1) := by
      rw [List.drop_eq_getElem_cons (by rw [List.length_take, data_size]; omega), List.getElem_take]
    rw [hd, List.foldl_cons] at hr
    have hn := ih (i + 1) (rstep p s.data.toList[i]) r (by omega) (rok_step _ _ hp) hr
    unfold rok at hp
    refine Ev.step (fun k => by rw [customsref02_Parse.l0]) (ev_pos (by omega) ?_)
    rw [decide_eq_true (by omega)]
    refine Ev.step (fun k => by rw [customsref02_Parse.j1]) (ev_pos rfl (ev_pos (by omega) (ev_pos (by omega) ?_)))
    rw [bt_data s i hlt, w64 (by omega) (by omega)]
    generalize s.data.toList[i] = c at hn
    unfold rstep at hn
    refine ev_ite (fun h => ?_) (fun h => ?_)
    · rw [if_pos (by omega)] at hn; exact hn
    · rw [if_neg (by omega)] at hn
      refine ev_ite (fun h1 => ev_ite (fun h2 => ?_) (fun h2 => ?_)) (fun h1 => ?_)
      · rw [if_pos (by omega)] at hn
        refine ev_ite (fun h3 => ?_) (fun h3 => ?_)
        · rw [if_pos (by omega)] at hn
          rw [w64 (x := 10 * p.1) (by omega) (by omega), w64 (by omega) (by omega), show ((c.toNat : Int) - 48) % 256 = (c.toNat : Int) - 48 by omega]
          exact hn
        · rw [if_neg (by omega)] at hn; exact hn
      · rw [if_neg (by omega)] at hn; exact hn
      · rw [if_neg (by omega)] at hn; exact hn
theorem rstep_digs (l : List UInt8) : ∀ (a : Nat) (sg : Int), digs l → val a l ≤ 10000000000009 → l.foldl rstep ((a : Int), sg) = ((val a l : Int), sg) := by
  induction l with
  | nil => intro a sg _ _; rw [val_nil]; rfl
  | cons c r ih =>
    intro a sg hd hv
    have hc := hd c (List.mem_cons_self ..)
    rw [val_cons] at hv ⊢
    have hg := val_ge r (a * 10 + (c.toNat - 48))
    have e : rstep ((a : Int), sg) c = (((a * 10 + (c.toNat - 48) : Nat) : Int), sg) := by
      unfold rstep
      rw [if_neg (by omega), if_pos hc, if_pos (by show (a : Int) ≤ _; omega)]
      congr 1
      show 10 * (a : Int) + _ = _
      omega
    rw [List.foldl_cons, e]
    exact ih _ sg (fun x hx => hd x (List.mem_cons_of_mem _ hx)) hv
theorem rstep_fmt (x : Int) (h : amt x) : (fmt x).foldl rstep (0, 1) = ((x.natAbs : Int), if x < 0 then -1 else 1) := by
  have h' := h
  unfold amt at h'
  have hv := val_body x.natAbs
  have hv1 : val 0 (decDigits (x.natAbs / 100)) = x.natAbs / 100 := val_dec _
  have hpre : ∀ sg : Int, (pre x).foldl rstep (((0 : Nat) : Int), sg) = (((0 : Nat) : Int), if x < 0 then -1 else sg) := fun sg => by
    unfold pre
    by_cases hx : x < 0
    · rw [if_pos hx, if_pos hx]; rfl
    · rw [if_neg hx, if_neg hx]; rfl
  have hbody := rstep_digs (body x.natAbs) 0 (if x < 0 then -1 else 1) (digs_body _) (by rw [hv]; omega)
  rw [hv] at hbody
  unfold body at hbody
  rw [List.foldl_append] at hbody
  rw [fmt_parts, List.foldl_append, List.foldl_append, List.foldl_cons]
  have e0 : (((0 : Nat) : Int), (1 : Int)) = ((0 : Int), (1 : Int)) := rfl
  rw [← e0, hpre 1]
  have hdot : ∀ p, rstep p 46 = p := fun p => by unfold rstep; rw [if_neg (by decide), if_neg (by decide)]
  rw [hdot]
  exact hbody
theorem refParse_ev (s : ByteArray) (hs : s.size ≤ 140737488351232) : ∃ r, Ev (fun k => customsref02_Parse.f k s) r ∧ IsParse s r := by
  have hr0 : rok (0, 1) := ⟨by decide, by decide, Or.inl rfl⟩
  generalize hq : (s.data.toList.take 20).foldl rstep (0, 1) = q
  have hqr : rok q := by rw [← hq]; exact rok_fold _ _ hr0
  have go : ∀ r, (∀ i' : Int, Ev (fun k => customsref02_Parse.j1 k s q.1 q.2 i' false) r) → Ev (fun k => customsref02_Parse.f k s) r := fun r h =>
    refParse_l s hs (min s.size 20) 0 (0, 1) r (by omega) hr0 (by rw [List.drop_zero, hq]; exact h)
  have hm : -9223372036854775808 ≤ q.2 * q.1 ∧ q.2 * q.1 ≤ 9223372036854775807 := by
    unfold rok at hqr
    rcases hqr.2.2 with h | h <;> rw [h] <;> omega
  have find : ∀ x, amt x → fmtB x = s → q.2 * q.1 = x := fun x hx e => by
    have e1 : s.data.toList = fmt x := by rw [← e, fmtB_list hx]
    have := fmt_len x hx
    rw [e1, List.take_of_length_le (by omega), rstep_fmt x hx] at hq
    rw [← hq]
    by_cases h : x < 0
    · rw [if_pos h]; show -1 * (x.natAbs : Int) = x; omega
    · rw [if_neg h]; show 1 * (x.natAbs : Int) = x; omega
  by_cases he : s.toList = []
  · refine ⟨(0, 4), go _ fun i' => Ev.step (fun k => by rw [customsref02_Parse.j1]) (ev_neg (by decide) (ev_pos he (Ev.now _))), Or.inr ⟨fun x hx e => ?_, rfl⟩⟩
    rw [ByteArray.toList_eq, ← e, fmtB_list hx] at he
    have := fmt_len x hx
    rw [he] at this
    simp at this
  · by_cases hv : amt (q.2 * q.1) ∧ fmtB (q.2 * q.1) = s
    · refine ⟨(q.2 * q.1, 0), go _ fun i' => Ev.step (fun k => by rw [customsref02_Parse.j1]) (ev_neg (by decide) (ev_neg he ?_)), Or.inl ⟨_, hv.1, hv.2, rfl⟩⟩
      rw [w64 hm.1 hm.2]
      exact ev_bind (refFormat_ev _) (ev_pos (by rw [hv.2]) (Ev.now _))
    · refine ⟨(0, 4), go _ fun i' => Ev.step (fun k => by rw [customsref02_Parse.j1]) (ev_neg (by decide) (ev_neg he ?_)), Or.inr ⟨fun x hx e => hv ?_, rfl⟩⟩
      · rw [w64 hm.1 hm.2]
        refine ev_bind (refFormat_ev _) (ev_neg (fun e => hv ?_) (Ev.now _))
        have e' := (str_list _ _).1 e
        by_cases hva : amt (q.2 * q.1)
        · exact ⟨hva, e'⟩
        · rw [not_amt_empty hva] at e'
          rw [← e'] at he
          exact (he (by rw [ByteArray.toList_eq])).elim
      · rw [find x hx e]; exact ⟨hx, e⟩
end Go.Proofs.YtheknmeeioajfaaDoor.D
