/- Layer 6 in plain words: the reference's reading of segments, and that it is the program's. -/
import Derived.Test.YthdahpnjiighfaaSegA
import Derived.Test.YthdahpnjiighfaaF21 -- customsref06_read
import Derived.Test.YthdahpnjiighfaaF22 -- customsref06_Next
import Derived.Test.YthdahpnjiighfaaF23 -- customsref06_Decode
namespace Go.Proofs.Ythdahpnjiighfaa.D
set_option linter.unusedVariables false
set_option linter.unusedSimpArgs false
open Go.RowKit Go.Proofs.YthdahpnjiighfaaW.PrintWords Go.Proofs.YthdahpnjiighfaaW.PrintMore Go.Proofs.Ythdahpnjiighfaa.F
abbrev Els := List (List ByteArray)
/-- A component ends: what becomes of the tag and of the elements. -/
def flush (w : List Int) (t : ByteArray) (e : Els) (colon : Bool) : ByteArray × Els :=
  if e = [] then (strOfNums w, e) else if w ≠ [] ∨ e.getLastD [] ≠ [] ∨ colon = true then (t, e.set (e.length - 1) (e.getLastD [] ++ [strOfNums w])) else (t, e)
/-- What the reference reads from here on. -/
def refR (w : List Int) (t : ByteArray) (e : Els) : List Int → ByteArray × Els
  | [] => flush w t e false
  | [b] => if b = 43 then flush [] (flush w t e false).1 ((flush w t e false).2 ++ [[]]) false else if b = 58 then (if e = [] then flush w t e true else flush [] (flush w t e true).1 (flush w t e true).2 false) else flush (w ++ [b]) t e false
  | b :: c :: r => if b = 63 then refR (w ++ [c]) t e r else if b = 43 then refR [] (flush w t e false).1 ((flush w t e false).2 ++ [[]]) (c :: r) else if b = 58 then (if e = [] then flush w t e true else refR [] (flush w t e true).1 (flush w t e true).2 (c :: r)) else refR (w ++ [b]) t e (c :: r)
theorem refR_nil (w : List Int) (t : ByteArray) (e : Els) : refR w t e [] = flush w t e false := by simp only [refR]
theorem refR_esc (w : List Int) (t : ByteArray) (e : Els) (c : Int) (r : List Int) : refR w t e (63 :: c :: r) = refR (w ++ [c]) t e r := by simp only [refR, if_pos]
theorem refR_plus (w : List Int) (t : ByteArray) (e : Els) (r : List Int) : refR w t e (43 :: r) = refR [] (flush w t e false).1 ((flush w t e false).2 ++ [[]]) r := by
  cases r with
  | nil => simp only [refR, if_pos]
  | cons c r => simp only [refR, if_neg (show ¬ (43 : Int) = 63 by decide), if_pos]
theorem refR_colon (w : List Int) (t : ByteArray) (e : Els) (r : List Int) : refR w t e (58 :: r) = if e = [] then flush w t e true else refR [] (flush w t e true).1 (flush w t e true).2 r := by
  cases r with
  | nil => simp only [refR, if_neg (show ¬ (58 : Int) = 43 by decide), if_pos]
  | cons c r => simp only [refR, if_neg (show ¬ (58 : Int) = 63 by decide), if_neg (show ¬ (58 : Int) = 43 by decide), if_pos]
theorem refR_last (w : List Int) (t : ByteArray) (e : Els) : refR w t e [63] = flush (w ++ [63]) t e false := by
  simp only [refR, if_neg (show ¬ (63 : Int) = 43 by decide), if_neg (show ¬ (63 : Int) = 58 by decide)]
theorem refR_one {b : Int} (h1 : b ≠ 63) (h2 : b ≠ 43) (h3 : b ≠ 58) (w : List Int) (t : ByteArray) (e : Els) (r : List Int) : refR w t e (b :: r) = refR (w ++ [b]) t e r := by
  cases r with
  | nil => simp only [refR, if_neg h2, if_neg h3]
  | cons c r => simp only [refR, if_neg h1, if_neg h2, if_neg h3]
theorem flush_nil (w : List Int) (t : ByteArray) (c : Bool) : flush w t [] c = (strOfNums w, []) := by unfold flush; rw [if_pos rfl]
theorem flush_len (w : List Int) (t : ByteArray) (e : Els) (c : Bool) : (flush w t e c).2.length = e.length := by
  unfold flush
  split
  · rfl
  · split
    · exact List.length_set
    · rfl
/-- The sizes of the state, with so many bytes to come. -/
def okR (M n : Nat) (w : List Int) (t : ByteArray) (e : Els) : Prop := w.length + n ≤ M ∧ t.size ≤ M ∧ e.length + n ≤ M ∧ ∀ x ∈ e, x.length + n ≤ M ∧ ∀ c ∈ x, c.size ≤ M
theorem mem_set {e : Els} {i : Nat} {y x : List ByteArray} (h : x ∈ e.set i y) : x ∈ e ∨ x = y := List.mem_or_eq_of_mem_set h
theorem last_mem {e : Els} (h : e ≠ []) : e.getLastD [] ∈ e := by
  cases e with
  | nil => exact absurd rfl h
  | cons a l => simp [List.getLastD]
theorem okR_flush {M n : Nat} {w : List Int} {t : ByteArray} {e : Els} (h : okR M (n + 1) w t e) (c : Bool) : okR M n [] (flush w t e c).1 (flush w t e c).2 := by
  obtain ⟨h1, h2, h3, h4⟩ := h
  unfold flush
  split
  · exact ⟨by rw [List.length_nil]; omega, by show (strOfNums w).size ≤ M; rw [strOfNums_size]; omega, by show e.length + n ≤ M; omega, fun x hx => ⟨by have := (h4 x hx).1; omega, (h4 x hx).2⟩⟩
  · rename_i hne
    split
    · refine ⟨by rw [List.length_nil]; omega, h2, by rw [List.length_set]; omega, fun x hx => ?_⟩
      have hl := h4 _ (last_mem hne)
      rcases mem_set hx with hx | rfl
      · exact ⟨by have := (h4 x hx).1; omega, (h4 x hx).2⟩
      · refine ⟨by rw [List.length_append, List.length_cons, List.length_nil]; omega, fun d hd => ?_⟩
        rcases List.mem_append.1 hd with hd | hd
        · exact hl.2 d hd
        · rw [List.mem_singleton.1 hd, strOfNums_size]; omega
    · exact ⟨by rw [List.length_nil]; omega, h2, by show e.length + n ≤ M; omega, fun x hx => ⟨by have := (h4 x hx).1; omega, (h4 x hx).2⟩⟩
theorem okR_less {M n m : Nat} {w : List Int} {t : ByteArray} {e : Els} (h : okR M n w t e) (hm : m ≤ n) : okR M m w t e :=
  ⟨by have := h.1; omega, h.2.1, by have := h.2.2.1; omega, fun x hx => ⟨by have := (h.2.2.2 x hx).1; omega, (h.2.2.2 x hx).2⟩⟩
theorem okR_word {M n : Nat} {w : List Int} {t : ByteArray} {e : Els} (h : okR M (n + 1) w t e) (b : Int) : okR M n (w ++ [b]) t e :=
  ⟨by have := h.1; rw [List.length_append, List.length_cons, List.length_nil]; omega, h.2.1, by have := h.2.2.1; omega, fun x hx => ⟨by have := (h.2.2.2 x hx).1; omega, (h.2.2.2 x hx).2⟩⟩
theorem okR_open {M n : Nat} {t : ByteArray} {e : Els} (h : okR M (n + 1) [] t e) : okR M n [] t (e ++ [[]]) := by
  refine ⟨by have := h.1; omega, h.2.1, by have := h.2.2.1; rw [List.length_append, List.length_cons, List.length_nil]; omega, fun x hx => ?_⟩
  rcases List.mem_append.1 hx with hx | hx
  · exact ⟨by have := (h.2.2.2 x hx).1; omega, (h.2.2.2 x hx).2⟩
  · rw [List.mem_singleton.1 hx]
    exact ⟨by have := h.1; rw [List.length_nil] at this ⊢; omega, fun c hc => by cases hc⟩
theorem refR_ok (M d : Nat) : ∀ (l w : List Int) (t : ByteArray) (e : Els), l.length ≤ d → okR M (2 * l.length + 2) w t e → okR M 0 [] (refR w t e l).1 (refR w t e l).2 := by
  induction d with
  | zero =>
    intro l w t e hl h
    cases l with
    | nil => rw [refR_nil]; exact okR_flush (okR_less h (by omega)) _
    | cons a l => simp at hl
  | succ d ih =>
    intro l w t e hl h
    cases l with
    | nil => rw [refR_nil]; exact okR_flush (okR_less h (by omega)) _
    | cons a l =>
      simp only [List.length_cons] at hl h
      by_cases h63 : a = 63
      · subst h63
        cases l with
        | nil => rw [refR_last]; exact okR_flush (okR_less (okR_word (okR_less (m := 2) h (by omega)) _) (by omega)) _
        | cons c r =>
          rw [refR_esc]
          simp only [List.length_cons] at hl h
          exact ih r _ _ _ (by omega) (okR_word (okR_less h (by omega)) _)
      · by_cases h43 : a = 43
        · subst h43
          rw [refR_plus]
          exact ih l _ _ _ (by omega) (okR_open (okR_flush (okR_less h (by omega)) _))
        · by_cases h58 : a = 58
          · subst h58
            rw [refR_colon]
            split
            · exact okR_flush (okR_less h (by omega)) _
            · exact ih l _ _ _ (by omega) (okR_flush (okR_less h (by omega)) _)
          · rw [refR_one h63 h43 h58]
            exact ih l _ _ _ (by omega) (okR_word (okR_less h (by omega)) _)
def refS (b : List Int) : ByteArray × Els := refR [] ⟨#[]⟩ [] b
theorem refS_fits (b : List Int) (hn : b.length ≤ 1000000000000) : fits (refS b).2 := by
  have h := refR_ok 4000000000000 b.length b [] ⟨#[]⟩ [] (Nat.le_refl _) ⟨by rw [List.length_nil]; omega, Nat.zero_le _, by rw [List.length_nil]; omega, fun x hx => by cases hx⟩
  refine ⟨by have := h.2.2.1; unfold refS; omega, fun e he => by have := (h.2.2.2 e he).1; omega, fun e he c hc => by have := (h.2.2.2 e he).2 c hc; omega⟩
theorem set_last_eq (e : Els) (h : e ≠ []) (y : List ByteArray) : e.set ((e.length : Int) - 1).toNat y = e.set (e.length - 1) y := by
  rw [show ((e.length : Int) - 1).toNat = e.length - 1 by omega]
theorem rd_last (e : Els) (h : 0 < e.length) : rd_L1 e ((e.length : Int) - 1) = e.getLastD [] := by
  unfold rd_L1
  rw [show ((e.length : Int) - 1).toNat = e.length - 1 by omega]
  cases e with
  | nil => simp at h
  | cons a l => simp [List.getLastD, List.getD_eq_getElem?_getD, List.getLast_eq_getElem]
theorem rd_at (b : List Int) (i : Nat) (h : i < b.length) : rd b (i : Int) = b[i] := rd_get b i h
/-- The end of a component in the loop. -/
theorem ref_j2 (b : List Int) (hb : b.length ≤ 1000000000000) (w : List Int) (t : ByteArray) (e : Els) (i : Nat) (hi : i ≤ b.length) (hk : okR 4000000000000 1 w t e) (hsep : i < b.length → rd b (i : Int) = 43 ∨ rd b (i : Int) = 58) {r : ByteArray × Els}
    (h : Ev (fun k => customsref06_read.j3 k b ((e.length : Int) - 1) (i : Int) (flush w t e (decide (i < b.length ∧ rd b (i : Int) = 58))).1 (flush w t e (decide (i < b.length ∧ rd b (i : Int) = 58))).2) r) :
    Ev (fun k => customsref06_read.j2 k b w ((e.length : Int) - 1) (i : Int) false t e) r := by
  refine Ev.step (fun k => by rw [customsref06_read.j2]) (ev_neg (by simp) ?_)
  by_cases he : e = []
  · subst he
    rw [flush_nil] at h
    exact ev_pos (by simp) h
  · have hpos : 0 < e.length := Nat.pos_of_ne_zero (fun c => he (List.eq_nil_of_length_eq_zero c))
    have hl := hk.2.2.2 _ (last_mem he)
    rw [rd_last e hpos, set_last_eq e he]
    refine ev_neg (by omega) ?_
    unfold flush at h
    rw [if_neg he] at h
    have yes : (w ≠ [] ∨ e.getLastD [] ≠ [] ∨ decide (i < b.length ∧ rd b (i : Int) = 58) = true) → Ev (fun k => customsref06_read.j3 k b ((e.length : Int) - 1) (i : Int) t (e.set (e.length - 1) (e.getLastD [] ++ [strOfNums w]))) r := fun c => by
      rw [if_pos c] at h; exact h
    by_cases hw : w = []
    · subst hw
      refine ev_neg (by simp) (ev_pos (by omega) (ev_pos (by omega) ?_))
      by_cases hz : e.getLastD [] = []
      · refine ev_neg (by rw [hz]; simp) ?_
        by_cases hib : i < b.length
        · refine ev_pos (by omega) (ev_pos (by omega) ?_)
          by_cases h58 : rd b (i : Int) = 58
          · exact ev_pos h58 (ev_pos (by omega) (yes (Or.inr (Or.inr (decide_eq_true ⟨hib, h58⟩)))))
          · refine ev_neg h58 ?_
            rw [if_neg (by rw [hz]; simp [h58])] at h
            exact h
        · refine ev_neg (by omega) ?_
          rw [if_neg (by rw [hz]; simp [hib])] at h
          exact h
      · have : 0 < (e.getLastD []).length := Nat.pos_of_ne_zero (fun c => hz (List.eq_nil_of_length_eq_zero c))
        exact ev_pos (by omega) (ev_pos (by omega) (yes (Or.inr (Or.inl hz))))
    · have : 0 < w.length := Nat.pos_of_ne_zero (fun c => hw (List.eq_nil_of_length_eq_zero c))
      exact ev_pos (by omega) (ev_pos (by omega) (ev_pos (by omega) (ev_pos (by omega) (yes (Or.inl hw)))))
theorem flush_empty (w : List Int) (t : ByteArray) (e : Els) (c : Bool) : (flush w t e c).2 = [] ↔ e = [] := by
  constructor
  · intro h
    have := flush_len w t e c
    rw [h, List.length_nil] at this
    exact List.eq_nil_of_length_eq_zero this.symm
  · rintro rfl
    rw [flush_nil]
theorem refread_l (b : List Int) (hb : b.length ≤ 1000000000000) (d : Nat) : ∀ (i : Nat) (w : List Int) (t : ByteArray) (e : Els), i ≤ b.length → b.length < i + d → okR 4000000000000 (2 * (b.length - i) + 2) w t e →
    Ev (fun k => customsref06_read.l0 k b w ((e.length : Int) - 1) (i : Int) t e) (refR w t e (b.drop i)) := by
  induction d with
  | zero => intro i w t e h h2; omega
  | succ d ih =>
    intro i w t e h h2 hk
    have hel := hk.2.2.1
    have hwl := hk.1
    by_cases hi : i < b.length
    · have hri := rd_at b i hi
      rw [List.drop_eq_getElem_cons hi]
      rw [← hri]
      refine Ev.step (fun k => by rw [customsref06_read.l0]) (ev_pos (by omega) (ev_pos (by omega) (ev_pos (by omega) ?_)))
      have hj1 : ∀ c, (c = decide (rd b (i : Int) = 63 ∧ i + 1 < b.length)) → Ev (fun k => customsref06_read.j1 k b w ((e.length : Int) - 1) (i : Int) c t e) (refR w t e (rd b (i : Int) :: b.drop (i + 1))) := by
        intro c hc
        refine Ev.step (fun k => by rw [customsref06_read.j1]) ?_
        rw [w64 (x := (i : Int) + 1) (by omega) (by omega)]
        by_cases h1 : rd b (i : Int) = 63 ∧ i + 1 < b.length
        · refine ev_pos (by rw [hc]; exact decide_eq_true h1) (ev_pos (by omega) (ev_pos (by omega) (ev_pos (by omega) ?_)))
          rw [h1.1, List.drop_eq_getElem_cons h1.2, refR_esc, w64 (by omega) (by omega), ← rd_at b (i + 1) h1.2]
          exact ih (i + 2) _ _ _ (by omega) (by omega) (okR_word (okR_less hk (by omega)) _)
        · refine ev_neg (by rw [hc]; simpa using h1) (ev_pos (by omega) (ev_pos (by omega) ?_))
          have word : rd b (i : Int) ≠ 43 → rd b (i : Int) ≠ 58 → Ev (fun k => customsref06_read.j2 k b w ((e.length : Int) - 1) (i : Int) true t e) (refR w t e (rd b (i : Int) :: b.drop (i + 1))) := by
            intro h43 h58
            refine Ev.step (fun k => by rw [customsref06_read.j2]) (ev_pos rfl (ev_pos (by omega) (ev_pos (by omega) (ev_pos (by omega) ?_))))
            rw [w64 (by omega) (by omega)]
            refine ev_eq (ih (i + 1) _ _ _ (by omega) (by omega) (okR_word (okR_less hk (by omega)) _)) ?_
            by_cases h63 : rd b (i : Int) = 63
            · have hlast : ¬ i + 1 < b.length := fun c => h1 ⟨h63, c⟩
              rw [h63, List.drop_of_length_le (by omega), refR_last, refR_nil]
            · rw [refR_one h63 h43 h58]
          have sep : (rd b (i : Int) = 43 ∨ rd b (i : Int) = 58) → Ev (fun k => customsref06_read.j2 k b w ((e.length : Int) - 1) (i : Int) false t e) (refR w t e (rd b (i : Int) :: b.drop (i + 1))) := by
            intro hs
            refine ref_j2 b hb w t e i h (okR_less hk (by omega)) (fun _ => hs) ?_
            refine Ev.step (fun k => by rw [customsref06_read.j3]) (ev_pos (by omega) (ev_pos (by omega) (Ev.step (fun k => by rw [customsref06_read.j4]) ?_)))
            rcases hs with hs | hs
            · refine ev_pos (by rw [hs]; rfl) (ev_pos (by rw [flush_len]; omega) ?_)
              rw [w64 (x := ((e.length : Int) - 1) + 1) (by omega) (by omega), w64 (by omega) (by omega), hs, refR_plus, decide_eq_false (show ¬ (i < b.length ∧ (43 : Int) = 58) from fun c => absurd c.2 (by decide))]
              have := ih (i + 1) [] (flush w t e false).1 ((flush w t e false).2 ++ [[]]) (by omega) (by omega) (okR_open (okR_flush (okR_less hk (by omega)) _))
              rw [List.length_append, List.length_cons, List.length_nil, flush_len] at this
              rw [show (e.length : Int) - 1 + 1 = ((e.length + (0 + 1) : Nat) : Int) - 1 by omega]
              exact this
            · refine ev_neg (by rw [hs]; decide) ?_
              rw [hs, refR_colon, decide_eq_true (show i < b.length ∧ (58 : Int) = 58 from ⟨hi, rfl⟩)]
              by_cases he : e = []
              · subst he
                rw [if_pos rfl]
                exact ev_pos (by simp) (Ev.now _)
              · have hpos : 0 < e.length := Nat.pos_of_ne_zero (fun c => he (List.eq_nil_of_length_eq_zero c))
                rw [if_neg he]
                refine ev_neg (by omega) ?_
                rw [w64 (by omega) (by omega)]
                have := ih (i + 1) [] (flush w t e true).1 (flush w t e true).2 (by omega) (by omega) (okR_flush (okR_less hk (by omega)) _)
                rw [flush_len] at this
                exact this
          refine ev_ite2 (fun h43 => sep (Or.inl h43)) (fun h43 => ?_)
          by_cases h58 : rd b (i : Int) = 58
          · rw [show (rd b (i : Int) != 58) = false by rw [h58]; rfl]
            exact sep (Or.inr h58)
          · rw [show (rd b (i : Int) != 58) = true by simpa using h58]
            exact word h43 h58
      refine ev_ite2 (fun h63 => ?_) (fun h63 => ?_)
      · rw [w64 (by omega) (by omega)]
        refine hj1 _ (decide_eq_decide.2 ⟨fun c => ⟨h63, by omega⟩, fun c => by omega⟩)
      · exact hj1 false (by simp [h63])
    · have hil : i = b.length := by omega
      rw [List.drop_of_length_le (by omega), refR_nil]
      refine Ev.step (fun k => by rw [customsref06_read.l0]) (ev_pos (by omega) (ev_neg (by omega) (Ev.step (fun k => by rw [customsref06_read.j1]) (ev_neg (by simp) (ev_neg (by omega) ?_)))))
      refine ref_j2 b hb w t e i h (okR_less hk (by omega)) (fun c => absurd c hi) ?_
      rw [decide_eq_false (show ¬ (i < b.length ∧ rd b (i : Int) = 58) from fun c => hi c.1)]
      refine Ev.step (fun k => by rw [customsref06_read.j3]) (ev_neg (by omega) (Ev.step (fun k => by rw [customsref06_read.j4]) (ev_neg (by simp) ?_)))
      refine ev_ite2 (fun _ => Ev.now _) (fun _ => ?_)
      refine Ev.step (fun k => by rw [customsref06_read.l0]) (ev_neg ?_ (Ev.now _))
      rw [w64 (by omega) (by omega)]; omega
theorem refread_ev (b : List Int) (hb : b.length ≤ 1000000000000) : Ev (fun k => customsref06_read.f k b) (refS b) := by
  have := refread_l b hb (b.length + 1) 0 [] ⟨#[]⟩ [] (by omega) (by omega) ⟨by rw [List.length_nil]; omega, Nat.zero_le _, by rw [List.length_nil]; omega, fun x hx => by cases hx⟩
  rw [List.drop_zero] at this
  exact this
/- Reading back. -/
theorem refR_escI (l : List Int) : ∀ (w : List Int) (t : ByteArray) (e : Els) (r : List Int), refR w t e (escI l ++ r) = refR (w ++ l) t e r := by
  induction l with
  | nil => intro w t e r; show refR w t e r = refR (w ++ []) t e r; rw [List.append_nil]
  | cons b l ih =>
    intro w t e r
    rw [escI_cons]
    unfold esc1
    cases h : sp b with
    | true =>
      rw [if_pos rfl]
      show refR w t e (63 :: b :: (escI l ++ r)) = _
      rw [refR_esc, ih, List.append_assoc]
      rfl
    | false =>
      rw [if_neg (by simp)]
      have h1 := sp_yes h
      show refR w t e (b :: (escI l ++ r)) = _
      rw [refR_one h1.2.2.1 h1.1 h1.2.1, ih, List.append_assoc]
      rfl
theorem set_app (done : Els) (a y : List ByteArray) : (done ++ [a]).set ((done ++ [a]).length - 1) y = done ++ [y] := by
  rw [List.length_append, List.length_cons, List.length_nil]
  simp
theorem getLastD_app (done : Els) (a : List ByteArray) : (done ++ [a]).getLastD [] = a := by simp
theorem flush_add (w : List Int) (t : ByteArray) (done : Els) (a : List ByteArray) (c : Bool) (h : w ≠ [] ∨ a ≠ [] ∨ c = true) : flush w t (done ++ [a]) c = (t, done ++ [a ++ [strOfNums w]]) := by
  unfold flush
  rw [if_neg (by simp), getLastD_app, if_pos h, set_app]
theorem flush_none (t : ByteArray) (done : Els) : flush [] t (done ++ [[]]) false = (t, done ++ [[]]) := by
  unfold flush
  rw [if_neg (by simp), getLastD_app, if_neg (by simp)]
theorem badE_tail {c d : ByteArray} {r : List ByteArray} (h : badE (c :: d :: r) = false) : badE (d :: r) = false := by
  rw [badE_pos (by simp)] at h ⊢
  simpa [List.getLastD] using h
theorem badE_one {c : ByteArray} (h : badE [c] = false) : bytesOf c ≠ [] := by
  rw [badE_pos (by simp)] at h
  have h1 := of_decide_eq_false h
  intro k
  refine h1 ?_
  unfold bytesOf at k
  simpa using k
/-- The last element's rest, and the elements behind it. -/
theorem refR_els (x : Els) : ∀ (done : Els) (t : ByteArray), (∀ e ∈ x, badE e = false) →
    (∀ (cs acc : List ByteArray) (c : ByteArray), badE (c :: cs) = false → refR (bytesOf c) t (done ++ [acc]) (tailE cs ++ bodyS x) = (t, done ++ (acc ++ c :: cs) :: x)) ∧ refR [] t (done ++ [[]]) (bodyS x) = (t, done ++ [] :: x) := by
  induction x with
  | nil =>
    intro done t hx
    refine ⟨fun cs => ?_, ?_⟩
    · induction cs with
      | nil =>
        intro acc c hb
        show refR (bytesOf c) t (done ++ [acc]) [] = _
        rw [refR_nil, flush_add _ _ _ _ _ (Or.inl (badE_one hb)), str_bytes]
      | cons d cs ih =>
        intro acc c hb
        show refR (bytesOf c) t (done ++ [acc]) (58 :: ((escI (bytesOf d) ++ tailE cs) ++ bodyS [])) = _
        rw [refR_colon, if_neg (by simp), flush_add _ _ _ _ _ (Or.inr (Or.inr rfl)), str_bytes, List.append_assoc, refR_escI, List.nil_append]
        rw [ih (acc ++ [c]) d (badE_tail hb)]
        simp
    · show refR [] t (done ++ [[]]) [] = _
      rw [refR_nil, flush_none]
  | cons e x ihx =>
    intro done t hx
    have next : ∀ done : Els, refR [] t (done ++ [[]]) (joinE e ++ bodyS x) = (t, done ++ e :: x) := by
      intro done
      have hbe := hx e List.mem_cons_self
      have I := ihx done t (fun f hf => hx f (List.mem_cons_of_mem _ hf))
      cases e with
      | nil => exact I.2
      | cons c cs =>
        show refR [] t (done ++ [[]]) ((escI (bytesOf c) ++ tailE cs) ++ bodyS x) = _
        rw [List.append_assoc, refR_escI, List.nil_append, I.1 cs [] c hbe]
        rfl
    refine ⟨fun cs => ?_, ?_⟩
    · induction cs with
      | nil =>
        intro acc c hb
        show refR (bytesOf c) t (done ++ [acc]) (43 :: (joinE e ++ bodyS x)) = _
        rw [refR_plus, flush_add _ _ _ _ _ (Or.inl (badE_one hb)), str_bytes]
        show refR [] t ((done ++ [acc ++ [c]]) ++ [[]]) (joinE e ++ bodyS x) = _
        rw [next]
        simp
      | cons d cs ih =>
        intro acc c hb
        show refR (bytesOf c) t (done ++ [acc]) (58 :: ((escI (bytesOf d) ++ tailE cs) ++ bodyS (e :: x))) = _
        rw [refR_colon, if_neg (by simp), flush_add _ _ _ _ _ (Or.inr (Or.inr rfl)), str_bytes, List.append_assoc, refR_escI, List.nil_append]
        rw [ih (acc ++ [c]) d (badE_tail hb)]
        simp
    · show refR [] t (done ++ [[]]) (43 :: (joinE e ++ bodyS x)) = _
      rw [refR_plus, flush_none]
      show refR [] t ((done ++ [[]]) ++ [[]]) (joinE e ++ bodyS x) = _
      rw [next]
      simp
theorem back_refS : Back refS := by
  intro t x h
  obtain ⟨h1, h2, h3⟩ := valid_parts h
  have hb := endsB_no h3
  unfold refS
  rw [← tag_bytes h1, refR_escI, List.nil_append]
  cases x with
  | nil => show refR (bytesOf t) _ [] [] = _; rw [refR_nil, flush_nil, str_bytes]
  | cons e x =>
    show refR (bytesOf t) _ [] (43 :: (joinE e ++ bodyS x)) = _
    rw [refR_plus, flush_nil, str_bytes]
    have I := refR_els x [] t (fun f hf => hb f (List.mem_cons_of_mem _ hf))
    show refR [] t ([] ++ [[]]) (joinE e ++ bodyS x) = _
    cases e with
    | nil => rw [show joinE [] ++ bodyS x = bodyS x from rfl, I.2]; rfl
    | cons c cs =>
      show refR [] t ([] ++ [[]]) ((escI (bytesOf c) ++ tailE cs) ++ bodyS x) = _
      rw [List.append_assoc, refR_escI, List.nil_append, I.1 cs [] c (hb _ List.mem_cons_self)]
      rfl
/- Next and Decode. -/
theorem refnext_l (b : List Int) (hb : isB b) (hn : b.length ≤ 1000000000000) (d : Nat) : ∀ i : Nat, i ≤ b.length + 1 → b.length + 2 ≤ i + d → (∀ m, scan (b.drop i) = some m → scan b = some (i + m)) → (scan (b.drop i) = none → scan b = none) →
    Ev (fun k => customsref06_Next.l0 k b (i : Int)) (nextW refS b) := by
  induction d with
  | zero => intro i h h2; omega
  | succ d ih =>
    intro i h h2 hs1 hs2
    by_cases hi : i < b.length
    · have hri := rd_at b i hi
      rw [List.drop_eq_getElem_cons hi, ← hri] at hs1 hs2
      refine Ev.step (fun k => by rw [customsref06_Next.l0]) (ev_pos (by omega) (ev_pos (by omega) (Ev.step (fun k => by rw [customsref06_Next.j1]) ?_)))
      by_cases h39 : rd b (i : Int) = 39
      · have hs := hs1 1 (by rw [h39, scan_end])
        refine ev_neg (by rw [h39]; decide) (ev_neg (by omega) (ev_pos (by omega) (ev_pos (by omega) ?_)))
        rw [show ((i : Int)).toNat = i by omega, w64 (by omega) (by omega)]
        unfold nextW
        rw [hs]
        show Ev _ (if _ then _ else _)
        rw [show i + 1 - 1 = i from rfl]
        have hf := refS_fits (b.take i) (by rw [List.length_take]; omega)
        refine ev_bind (refread_ev (b.take i) (by rw [List.length_take]; omega)) ?_
        refine ev_bind (refSegment_ev _ _ hf.1 hf.2.1) ?_
        by_cases hv : valid (refS (b.take i)).1 (refS (b.take i)).2 = 0
        · refine ev_pos hv (ev_bind (text_ev _ _ hf (by have := enc_len hv; omega)) ?_)
          refine ev_pos (by omega) (ev_pos (by omega) ?_)
          rw [show ((i : Int) + 1).toNat = i + 1 by omega]
          by_cases hq : enc (refS (b.take i)).1 (refS (b.take i)).2 = b.take (i + 1)
          · refine ev_eq (ev_pos ((str_eq_iff (isB_enc _ _) (isB_take hb _)).2 hq) (Ev.now _)) ?_
            rw [if_pos ⟨hv, hq⟩]
            rfl
          · refine ev_eq (ev_neg (fun h => hq ((str_eq_iff (isB_enc _ _) (isB_take hb _)).1 h)) (Ev.now _)) ?_
            rw [if_neg (fun h => hq h.2)]
        · refine ev_eq (ev_neg hv (Ev.now _)) ?_
          rw [if_neg (fun h => hv h.1)]
      · refine ev_pos (by simpa using h39) (ev_pos (by omega) (ev_pos (by omega) ?_))
        by_cases h63 : rd b (i : Int) = 63
        · refine ev_pos h63 ?_
          rw [w64 (x := (i : Int) + 1) (by omega) (by omega), w64 (by omega) (by omega)]
          refine ih (i + 2) (by omega) (by omega) (fun m hm => ?_) (fun hm => ?_)
          · by_cases h1 : i + 1 < b.length
            · have := hs1 (m + 2) (by rw [h63, List.drop_eq_getElem_cons h1, scan_esc, show i + 1 + 1 = i + 2 from rfl, hm]; rfl)
              rw [this]; congr 1; omega
            · rw [List.drop_of_length_le (by omega)] at hm; cases hm
          · by_cases h1 : i + 1 < b.length
            · exact hs2 (by rw [h63, List.drop_eq_getElem_cons h1, scan_esc, show i + 1 + 1 = i + 2 from rfl, hm]; rfl)
            · exact hs2 (by rw [h63, List.drop_of_length_le (by omega)]; rfl)
        · refine ev_neg h63 ?_
          rw [w64 (by omega) (by omega)]
          refine ih (i + 1) (by omega) (by omega) (fun m hm => ?_) (fun hm => ?_)
          · have := hs1 (m + 1) (by rw [scan_one h39 h63, hm]; rfl)
            rw [this]; congr 1; omega
          · exact hs2 (by rw [scan_one h39 h63, hm]; rfl)
    · have hs := hs2 (by rw [List.drop_of_length_le (by omega)]; rfl)
      refine Ev.step (fun k => by rw [customsref06_Next.l0]) (ev_neg (by omega) (Ev.step (fun k => by rw [customsref06_Next.j1]) (ev_neg (by simp) (ev_pos (by omega) ?_))))
      unfold nextW
      rw [hs]
      exact Ev.now _
theorem refNext_ev (b : List Int) (hb : isB b) (hn : b.length ≤ 1000000000000) : Ev (fun k => customsref06_Next.f k b) (nextW refS b) :=
  refnext_l b hb hn (b.length + 2) 0 (by omega) (by omega) (fun m hm => by rw [List.drop_zero] at hm; rw [hm, Nat.zero_add]) (fun hm => by rw [List.drop_zero] at hm; exact hm)
theorem refDecode_l (b : List Int) (hb : isB b) (hn : b.length ≤ 1000000000000) (m : Nat) : ∀ (i : Nat) (acc : List S24), i ≤ b.length → b.length ≤ i + m → acc.length ≤ i →
    Ev (fun k => customsref06_Decode.l0 k b acc (i : Int)) (decW refS m (b.drop i) acc (i : Int)) := by
  induction m with
  | zero =>
    intro i acc h h2 h3
    unfold decW
    exact Ev.step (fun k => by rw [customsref06_Decode.l0]) (ev_neg (by omega) (Ev.now _))
  | succ m ih =>
    intro i acc h h2 h3
    unfold decW
    by_cases hi : i < b.length
    · rw [if_neg (by intro c; have := congrArg List.length c; rw [List.length_drop, List.length_nil] at this; omega)]
      refine Ev.step (fun k => by rw [customsref06_Decode.l0]) (ev_pos (by omega) (ev_pos (by omega) (ev_pos (by omega) ?_)))
      rw [show ((i : Int)).toNat = i by omega]
      refine ev_bind (refNext_ev (b.drop i) (isB_drop hb _) (by rw [List.length_drop]; omega)) ?_
      refine ev_ite2 (fun he => ?_) (fun he => ?_)
      · rw [if_pos he]
        have hp := next_pos (b.drop i) he
        rw [List.length_drop] at hp
        refine ev_pos (by omega) ?_
        obtain ⟨n, hn'⟩ : ∃ n : Nat, (nextW refS (b.drop i)).2.2.1 = (n : Int) := ⟨(nextW refS (b.drop i)).2.2.1.toNat, by omega⟩
        rw [hn'] at hp ⊢
        rw [w64 (by omega) (by omega), List.drop_drop]
        exact ih (i + n) _ (by omega) (by omega) (by rw [List.length_append, List.length_cons, List.length_nil]; omega)
      · rw [if_neg he]
        exact Ev.now _
    · rw [if_pos (List.drop_of_length_le (by omega))]
      exact Ev.step (fun k => by rw [customsref06_Decode.l0]) (ev_neg (by omega) (Ev.now _))
/-- The reference's Decode answers what the program's answers. -/
theorem refDecode_ev (b : List Int) (hb : isB b) (hn : b.length ≤ 1000000000000) : Ev (fun k => customsref06_Decode.f k b) (decW readS b.length b [] 0) := by
  have := refDecode_l b hb hn b.length 0 [] (by omega) (by omega) (by simp)
  rw [List.drop_zero, dec_same back_refS back_readS] at this
  exact this
theorem refNext_same (b : List Int) (hb : isB b) (hn : b.length ≤ 1000000000000) : Ev (fun k => customsref06_Next.f k b) (nextW readS b) := by
  rw [← next_same back_refS back_readS b]
  exact refNext_ev b hb hn
theorem next_valid {rdS : List Int → ByteArray × List (List ByteArray)} (b : List Int) (h : (nextW rdS b).2.2.2 = 0) : valid (nextW rdS b).1 (nextW rdS b).2.1 = 0 ∧ enc (nextW rdS b).1 (nextW rdS b).2.1 = b.take (nextW rdS b).2.2.1.toNat := by
  unfold nextW at h ⊢
  cases hs : scan b with
  | none => rw [hs] at h; cases h
  | some n =>
    rw [hs] at h
    revert h
    show (if _ then _ else _ : NextT).2.2.2 = 0 → valid (if _ then _ else _ : NextT).1 (if _ then _ else _ : NextT).2.1 = 0 ∧ enc (if _ then _ else _ : NextT).1 (if _ then _ else _ : NextT).2.1 = b.take (if _ then _ else _ : NextT).2.2.1.toNat
    split
    · rename_i hc
      intro _
      exact ⟨hc.1, by show enc _ _ = b.take ((n : Int)).toNat; rw [show ((n : Int)).toNat = n by omega]; exact hc.2⟩
    · intro h; cases h
theorem next_fits {rdS : List Int → ByteArray × List (List ByteArray)} (b : List Int) : fits (nextW rdS b).2.1 := by
  by_cases h : (nextW rdS b).2.2.2 = 0
  · exact valid_fits (next_valid b h).1
  · have : (nextW rdS b).2.1 = [] := by
      unfold nextW at h ⊢
      cases hs : scan b with
      | none => rfl
      | some n =>
        rw [hs] at h
        revert h
        show ¬ (if _ then _ else _ : NextT).2.2.2 = 0 → (if _ then _ else _ : NextT).2.1 = []
        split
        · intro h; exact absurd rfl h
        · intro _; rfl
    rw [this]
    exact ⟨by simp, ⟨fun e he => (by cases he), fun e he => (by cases he)⟩⟩
/-- What is decoded without an error is valid, and its encoding is what came in. -/
theorem dec_back {rdS : List Int → ByteArray × List (List ByteArray)} (m : Nat) : ∀ (b : List Int) (acc : List S24) (a : Int), b.length ≤ m →
    ((decW rdS m b acc a).2.2 = 0 → ∃ l, (decW rdS m b acc a).1 = acc ++ l ∧ errL l = 0 ∧ encL l = b ∧ l.length ≤ b.length) ∧ ((decW rdS m b acc a).2.2 ≠ 0 → (decW rdS m b acc a).1 = []) := by
  induction m with
  | zero =>
    intro b acc a hb
    have : b = [] := List.eq_nil_of_length_eq_zero (by omega)
    subst this
    exact ⟨fun _ => ⟨[], by simp [decW], rfl, rfl, by simp⟩, fun h => absurd rfl h⟩
  | succ m ih =>
    intro b acc a hb
    unfold decW
    by_cases hn : b = []
    · subst hn
      rw [if_pos rfl]
      exact ⟨fun _ => ⟨[], by simp, rfl, rfl, by simp⟩, fun h => absurd rfl h⟩
    · rw [if_neg hn]
      by_cases he : (nextW rdS b).2.2.2 = 0
      · rw [if_pos he]
        have hp := next_pos b he
        have hv := next_valid b he
        have I := ih (b.drop (nextW rdS b).2.2.1.toNat) (acc ++ [⟨(nextW rdS b).1, (nextW rdS b).2.1⟩]) (a + (nextW rdS b).2.2.1) (by rw [List.length_drop]; omega)
        refine ⟨fun h => ?_, I.2⟩
        obtain ⟨l, h1, h2, h3, h4⟩ := I.1 h
        refine ⟨⟨(nextW rdS b).1, (nextW rdS b).2.1⟩ :: l, ?_, ?_, ?_, ?_⟩
        · rw [h1, List.append_assoc]; rfl
        · unfold errL
          rw [if_pos hv.1]; exact h2
        · have : encL (⟨(nextW rdS b).1, (nextW rdS b).2.1⟩ :: l) = enc (nextW rdS b).1 (nextW rdS b).2.1 ++ encL l := by unfold encL; rw [List.flatMap_cons]
          rw [this, hv.2, h3, List.take_append_drop]
        · rw [List.length_drop] at h4
          rw [List.length_cons]; omega
      · rw [if_neg he]
        exact ⟨fun h => absurd h he, fun _ => rfl⟩
theorem dec_fits (b : List Int) : errL (decW readS b.length b [] 0).1 = 0 ∧ (decW readS b.length b [] 0).1.length ≤ b.length := by
  have h := dec_back (rdS := readS) b.length b [] 0 (Nat.le_refl _)
  by_cases he : (decW readS b.length b [] 0).2.2 = 0
  · obtain ⟨l, h1, h2, h3, h4⟩ := h.1 he
    rw [h1, List.nil_append]
    exact ⟨h2, h4⟩
  · rw [h.2 he]
    exact ⟨rfl, by simp⟩
end Go.Proofs.Ythdahpnjiighfaa.D
