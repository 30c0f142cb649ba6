/- Layer 6 in plain words: the encoding of a segment and of a list: the program's and the reference's. -/
import Derived.Test.YthdahpnjiighfaaSegV
import Derived.Test.YthdahpnjiighfaaF5 -- segment_special
import Derived.Test.YthdahpnjiighfaaF6 -- segment_put
import Derived.Test.YthdahpnjiighfaaF7 -- segment_Encode
import Derived.Test.YthdahpnjiighfaaF15 -- customsref06_special
import Derived.Test.YthdahpnjiighfaaF16 -- customsref06_text
import Derived.Test.YthdahpnjiighfaaF17 -- customsref06_Encode
namespace Go.Proofs.Ythdahpnjiighfaa.D
set_option linter.unusedVariables false
set_option linter.unusedSimpArgs false
open Go.RowKit Go.Proofs.YthdahpnjiighfaaW.PrintWords Go.Proofs.YthdahpnjiighfaaW.PrintMore Go.Proofs.Ythdahpnjiighfaa.F
def sp (b : Int) : Bool := decide (b = 43 ∨ b = 58 ∨ b = 63 ∨ b = 39)
def esc1 (b : Int) : List Int := if sp b = true then [63, b] else [b]
def escI (l : List Int) : List Int := l.flatMap esc1
def escC (c : ByteArray) : List Int := escI (bytesOf c)
def tailE (es : List ByteArray) : List Int := es.flatMap fun c => 58 :: escC c
def joinE : List ByteArray → List Int
  | [] => []
  | c :: r => escC c ++ tailE r
def bodyS (x : List (List ByteArray)) : List Int := x.flatMap fun e => 43 :: joinE e
/-- The encoding of a segment. -/
def enc (t : ByteArray) (x : List (List ByteArray)) : List Int := bytesOf t ++ (bodyS x ++ [39])
theorem special_eq (b : Int) : segment_special.f b = some (sp b) := by
  unfold segment_special.f sp
  by_cases h1 : b = 43
  · rw [if_pos h1, decide_eq_true (Or.inl h1)]
  · rw [if_neg h1]
    by_cases h2 : b = 58
    · rw [if_pos h2, decide_eq_true (Or.inr (Or.inl h2))]
    · rw [if_neg h2]
      by_cases h3 : b = 63
      · rw [if_pos h3, decide_eq_true (Or.inr (Or.inr (Or.inl h3)))]
      · rw [if_neg h3]
        congr 1
        show decide (b = 39) = _
        exact decide_eq_decide.2 (by omega)
theorem refSpecial_eq (b : Int) : customsref06_special.f b = some (sp b) := special_eq b
/-- What is left to write of an element from its i-th component on. -/
def remE (e : List ByteArray) (i : Nat) : List Int := if i = 0 then joinE e else tailE (e.drop i)
theorem remE_end (e : List ByteArray) (i : Nat) (h : i = e.length) : remE e i = [] := by
  unfold remE
  split
  · cases e with
    | nil => rfl
    | cons a l => simp at h; omega
  · rw [List.drop_of_length_le (by omega)]; rfl
theorem remE_step (e : List ByteArray) (i : Nat) (h : i < e.length) : remE e i = (if i = 0 then [] else [58]) ++ (escC e[i] ++ remE e (i + 1)) := by
  unfold remE
  rw [if_neg (show ¬ i + 1 = 0 by omega)]
  by_cases h0 : i = 0
  · subst h0
    rw [if_pos rfl, if_pos rfl]
    cases e with
    | nil => simp at h
    | cons a l => simp [joinE]
  · rw [if_neg h0, if_neg h0]
    unfold tailE
    rw [List.drop_eq_getElem_cons h, List.flatMap_cons]
    rfl
theorem bytesOf_get (c : ByteArray) (i : Nat) (h : i < (bytesOf c).length) : (bytesOf c)[i] = bt c (i : Int) := by
  rw [← rd_bytesOf]
  unfold rd; simp [h]
theorem escI_step (c : ByteArray) (i : Nat) (h : i < c.size) : escI ((bytesOf c).drop i) = esc1 (bt c (i : Int)) ++ escI ((bytesOf c).drop (i + 1)) := by
  have h' : i < (bytesOf c).length := by rw [bytesOf_length]; exact h
  rw [List.drop_eq_getElem_cons h', bytesOf_get c i h']
  rfl
theorem escI_end (c : ByteArray) (i : Nat) (h : i = c.size) : escI ((bytesOf c).drop i) = [] := by
  rw [List.drop_of_length_le (by rw [bytesOf_length]; omega)]; rfl
theorem put_l2 (c : ByteArray) (hc : c.size ≤ 9223372036854775806) (x : List (List ByteArray)) (n j : Int) (e : List ByteArray) (m : Int) (i0 : Int) {r : List Int} (d : Nat) : ∀ (i : Nat) (b : List Int), i + d = c.size →
    b.length + (escI ((bytesOf c).drop i)).length < 140737488355328 →
    Ev (fun k => segment_put.l1 k (b ++ escI ((bytesOf c).drop i)) x n j e m (wrap64 (i0 + 1))) r →
    Ev (fun k => segment_put.l2 k b c x n j e m i0 (c.size : Int) (i : Int)) r := by
  induction d with
  | zero =>
    intro i b h hs h1
    rw [escI_end c i (by omega), List.append_nil] at h1
    exact Ev.step (fun k => by rw [segment_put.l2]) (ev_neg (by omega) h1)
  | succ d ih =>
    intro i b h hs h1
    have hi : i < c.size := by omega
    rw [escI_step c i hi] at h1 hs
    rw [List.length_append] at hs
    refine Ev.step (fun k => by rw [segment_put.l2]) (ev_pos (by omega) (ev_pos (by omega) (ev_pos (by omega) ?_)))
    rw [special_eq]
    refine ev_let ?_
    unfold esc1 at h1 hs
    cases hp : sp (bt c i) with
    | true =>
      rw [hp, if_pos rfl] at h1 hs
      simp only [List.length_cons, List.length_nil] at hs
      refine ev_pos rfl (ev_pos (by omega) (ev_let (ev_pos (by rw [List.length_append, List.length_cons, List.length_nil]; omega) ?_)))
      rw [w64 (by omega) (by omega)]
      refine ih (i + 1) _ (by omega) (by simp only [List.length_append, List.length_cons, List.length_nil]; omega) ?_
      have e1 : b ++ [63] ++ [bt c i] ++ escI ((bytesOf c).drop (i + 1)) = b ++ ([63, bt c i] ++ escI ((bytesOf c).drop (i + 1))) := by simp
      rw [e1]; exact h1
    | false =>
      rw [hp, if_neg (by simp)] at h1 hs
      simp only [List.length_cons, List.length_nil] at hs
      refine ev_neg (by simp) (ev_pos (by omega) ?_)
      rw [w64 (by omega) (by omega)]
      refine ih (i + 1) _ (by omega) (by simp only [List.length_append, List.length_cons, List.length_nil]; omega) ?_
      rw [List.append_assoc]; exact h1
theorem put_l1 (x : List (List ByteArray)) (n : Int) (j : Int) (e : List ByteArray) (he : e.length ≤ 9223372036854775806) (hm : ∀ c ∈ e, c.size ≤ 9223372036854775806) {r : List Int} (d : Nat) : ∀ (i : Nat) (b : List Int), i + d = e.length →
    b.length + (remE e i).length < 140737488355328 →
    Ev (fun k => segment_put.l0 k (b ++ remE e i) x n (wrap64 (j + 1))) r →
    Ev (fun k => segment_put.l1 k b x n j e (e.length : Int) (i : Int)) r := by
  induction d with
  | zero =>
    intro i b h hs h1
    rw [remE_end e i (by omega), List.append_nil] at h1
    exact Ev.step (fun k => by rw [segment_put.l1]) (ev_neg (by omega) h1)
  | succ d ih =>
    intro i b h hs h1
    have hi : i < e.length := by omega
    have hci := hm _ (List.getElem_mem hi)
    rw [remE_step e i hi] at h1 hs
    simp only [List.length_append] at hs
    refine Ev.step (fun k => by rw [segment_put.l1]) (ev_pos (by omega) (ev_pos (by omega) (ev_pos (by omega) ?_)))
    rw [rdOf_get _ e i hi]
    by_cases h0 : i = 0
    · rw [if_pos h0] at h1 hs
      refine ev_neg (by omega) (Ev.step (f := fun k => segment_put.l2 k b e[i] x n j e (e.length : Int) (i : Int) (e[i].size : Int) ((0 : Nat) : Int)) (fun k => by rw [segment_put.j2]; rfl) ?_)
      refine put_l2 e[i] hci x n j e _ i e[i].size 0 b (by omega) (by rw [List.drop_zero]; unfold escC at hs; omega) ?_
      rw [List.drop_zero, w64 (by omega) (by omega)]
      refine ih (i + 1) _ (by omega) (by unfold escC at hs; rw [List.length_append]; omega) ?_
      rw [List.append_assoc]; exact h1
    · rw [if_neg h0] at h1 hs
      simp only [List.length_cons, List.length_nil] at hs
      refine ev_pos (by omega) (ev_pos (by omega) (Ev.step (f := fun k => segment_put.l2 k (b ++ [58]) e[i] x n j e (e.length : Int) (i : Int) (e[i].size : Int) ((0 : Nat) : Int)) (fun k => by rw [segment_put.j2]; rfl) ?_))
      refine put_l2 e[i] hci x n j e _ i e[i].size 0 _ (by omega) (by rw [List.drop_zero]; unfold escC at hs; simp only [List.length_append, List.length_cons, List.length_nil]; omega) ?_
      rw [List.drop_zero, w64 (by omega) (by omega)]
      refine ih (i + 1) _ (by omega) (by unfold escC at hs; simp only [List.length_append, List.length_cons, List.length_nil]; omega) ?_
      have e1 : b ++ [58] ++ escI (bytesOf e[i]) ++ remE e (i + 1) = b ++ ([58] ++ (escC e[i] ++ remE e (i + 1))) := by unfold escC; simp
      rw [e1]; exact h1
theorem bodyS_step (x : List (List ByteArray)) (i : Nat) (h : i < x.length) : bodyS (x.drop i) = [43] ++ (remE x[i] 0 ++ bodyS (x.drop (i + 1))) := by
  unfold bodyS
  rw [List.drop_eq_getElem_cons h, List.flatMap_cons]
  rfl
theorem bodyS_end (x : List (List ByteArray)) (i : Nat) (h : i = x.length) : bodyS (x.drop i) = [] := by rw [List.drop_of_length_le (by omega)]; rfl
/-- Lengths that a slice in memory keeps. -/
def fits (x : List (List ByteArray)) : Prop := x.length ≤ 9223372036854775806 ∧ (∀ e ∈ x, e.length ≤ 9223372036854775806) ∧ ∀ e ∈ x, ∀ c ∈ e, c.size ≤ 9223372036854775806
theorem put_l0 (x : List (List ByteArray)) (hf : fits x) (d : Nat) : ∀ (i : Nat) (b : List Int), i + d = x.length → b.length + (bodyS (x.drop i)).length < 140737488355328 →
    Ev (fun k => segment_put.l0 k b x (x.length : Int) (i : Int)) (b ++ (bodyS (x.drop i) ++ [39])) := by
  induction d with
  | zero =>
    intro i b h hs
    rw [bodyS_end x i (by omega), List.nil_append]
    exact Ev.step (fun k => by rw [segment_put.l0]) (ev_neg (by omega) (ev_pos (by omega) (Ev.now _)))
  | succ d ih =>
    intro i b h hs
    have hi : i < x.length := by omega
    have hx := hf.1
    have hei := hf.2.1 _ (List.getElem_mem hi)
    have hci := hf.2.2 _ (List.getElem_mem hi)
    rw [bodyS_step x i hi] at hs ⊢
    simp only [List.length_append, List.length_cons, List.length_nil] at hs
    refine Ev.step (fun k => by rw [segment_put.l0]) (ev_pos (by omega) (ev_pos (by omega) (ev_pos (by omega) (ev_pos (by omega) ?_))))
    rw [rdL1 x i hi]
    refine put_l1 x _ i x[i] hei hci x[i].length 0 _ (by omega) (by simp only [List.length_append, List.length_cons, List.length_nil]; omega) ?_
    rw [w64 (by omega) (by omega)]
    refine ev_eq (ih (i + 1) _ (by omega) (by simp only [List.length_append, List.length_cons, List.length_nil]; omega)) (by simp)
theorem put_ev (b : List Int) (t : ByteArray) (x : List (List ByteArray)) (hf : fits x) (hs : b.length + (enc t x).length < 140737488355328) : Ev (fun k => segment_put.f k b t x) (b ++ enc t x) := by
  unfold segment_put.f
  unfold enc at hs ⊢
  simp only [List.length_append, List.length_cons, List.length_nil, bytesOf_length] at hs
  refine ev_pos (by omega) ?_
  have := put_l0 x hf x.length 0 (b ++ bytesOf t) (by omega) (by rw [List.drop_zero]; simp only [List.length_append, bytesOf_length]; omega)
  rw [List.drop_zero] at this
  exact ev_eq this (by simp)
theorem text_l2 (c : ByteArray) (hc : c.size ≤ 9223372036854775806) (t : ByteArray) (x : List (List ByteArray)) (j i0 : Int) {r : ByteArray} (d : Nat) : ∀ (i : Nat) (b : List Int), i + d = c.size →
    b.length + (escI ((bytesOf c).drop i)).length < 140737488355328 →
    Ev (fun k => customsref06_text.l1 k (b ++ escI ((bytesOf c).drop i)) j (wrap64 (i0 + 1)) t x) r →
    Ev (fun k => customsref06_text.l2 k b j i0 c (i : Int) t x) r := by
  induction d with
  | zero =>
    intro i b h hs h1
    rw [escI_end c i (by omega), List.append_nil] at h1
    exact Ev.step (fun k => by rw [customsref06_text.l2]) (ev_neg (by omega) h1)
  | succ d ih =>
    intro i b h hs h1
    have hi : i < c.size := by omega
    rw [escI_step c i hi] at h1 hs
    rw [List.length_append] at hs
    refine Ev.step (fun k => by rw [customsref06_text.l2]) (ev_pos (by omega) (ev_pos (by omega) ?_))
    rw [refSpecial_eq]
    refine ev_let ?_
    unfold esc1 at h1 hs
    cases hp : sp (bt c i) with
    | true =>
      rw [hp, if_pos rfl] at h1 hs
      simp only [List.length_cons, List.length_nil] at hs
      refine ev_pos rfl (ev_pos (by omega) (ev_let (ev_pos (by rw [List.length_append, List.length_cons, List.length_nil]; omega) ?_)))
      rw [w64 (by omega) (by omega)]
      refine ih (i + 1) _ (by omega) (by simp only [List.length_append, List.length_cons, List.length_nil]; omega) ?_
      have e1 : b ++ [63] ++ [bt c i] ++ escI ((bytesOf c).drop (i + 1)) = b ++ ([63, bt c i] ++ escI ((bytesOf c).drop (i + 1))) := by simp
      rw [e1]; exact h1
    | false =>
      rw [hp, if_neg (by simp)] at h1 hs
      simp only [List.length_cons, List.length_nil] at hs
      refine ev_neg (by simp) (ev_pos (by omega) ?_)
      rw [w64 (by omega) (by omega)]
      refine ih (i + 1) _ (by omega) (by simp only [List.length_append, List.length_cons, List.length_nil]; omega) ?_
      rw [List.append_assoc]; exact h1
theorem text_l1 (t : ByteArray) (x : List (List ByteArray)) (j : Nat) (hj : j < x.length) (he : x[j].length ≤ 9223372036854775806) (hm : ∀ c ∈ x[j], c.size ≤ 9223372036854775806) {r : ByteArray} (d : Nat) : ∀ (i : Nat) (b : List Int), i + d = x[j].length →
    b.length + (remE x[j] i).length < 140737488355328 →
    Ev (fun k => customsref06_text.l0 k (b ++ remE x[j] i) (wrap64 ((j : Int) + 1)) t x) r →
    Ev (fun k => customsref06_text.l1 k b (j : Int) (i : Int) t x) r := by
  induction d with
  | zero =>
    intro i b h hs h1
    rw [remE_end x[j] i (by omega), List.append_nil] at h1
    refine Ev.step (fun k => by rw [customsref06_text.l1]) (ev_pos (by omega) (ev_pos (by omega) ?_))
    rw [rdL1 x j hj]
    exact ev_neg (by omega) h1
  | succ d ih =>
    intro i b h hs h1
    have hi : i < x[j].length := by omega
    have hci := hm _ (List.getElem_mem hi)
    rw [remE_step x[j] i hi] at h1 hs
    simp only [List.length_append] at hs
    refine Ev.step (fun k => by rw [customsref06_text.l1]) (ev_pos (by omega) (ev_pos (by omega) ?_))
    have hj2 : ∀ b : List Int, Ev (fun k => customsref06_text.l2 k b (j : Int) (i : Int) x[j][i] ((0 : Nat) : Int) t x) r → Ev (fun k => customsref06_text.j2 k b (j : Int) (i : Int) t x) r := fun b hb => by
      refine Ev.step (fun k => by rw [customsref06_text.j2]) (ev_pos (by omega) (ev_pos (by omega) (ev_pos (by omega) ?_)))
      rw [rdL1 x j hj, rdOf_get _ _ i hi]
      exact ev_pos (by omega) hb
    rw [rdL1 x j hj]
    by_cases h0 : i = 0
    · rw [if_pos h0] at h1 hs
      refine ev_pos (by omega) (ev_neg (by omega) (hj2 b ?_))
      refine text_l2 x[j][i] hci t x j i x[j][i].size 0 b (by omega) (by rw [List.drop_zero]; unfold escC at hs; omega) ?_
      rw [List.drop_zero, w64 (by omega) (by omega)]
      refine ih (i + 1) _ (by omega) (by unfold escC at hs; rw [List.length_append]; omega) ?_
      rw [List.append_assoc]; exact h1
    · rw [if_neg h0] at h1 hs
      simp only [List.length_cons, List.length_nil] at hs
      refine ev_pos (by omega) (ev_pos (by omega) (ev_pos (by omega) (hj2 _ ?_)))
      refine text_l2 x[j][i] hci t x j i x[j][i].size 0 _ (by omega) (by rw [List.drop_zero]; unfold escC at hs; simp only [List.length_append, List.length_cons, List.length_nil]; omega) ?_
      rw [List.drop_zero, w64 (by omega) (by omega)]
      refine ih (i + 1) _ (by omega) (by unfold escC at hs; simp only [List.length_append, List.length_cons, List.length_nil]; omega) ?_
      have e1 : b ++ [58] ++ escI (bytesOf x[j][i]) ++ remE x[j] (i + 1) = b ++ ([58] ++ (escC x[j][i] ++ remE x[j] (i + 1))) := by unfold escC; simp
      rw [e1]; exact h1
theorem text_l0 (t : ByteArray) (x : List (List ByteArray)) (hf : fits x) (d : Nat) : ∀ (i : Nat) (b : List Int), i + d = x.length → b.length + (bodyS (x.drop i)).length < 140737488355328 →
    Ev (fun k => customsref06_text.l0 k b (i : Int) t x) (strOfNums (b ++ (bodyS (x.drop i) ++ [39]))) := by
  induction d with
  | zero =>
    intro i b h hs
    rw [bodyS_end x i (by omega), List.nil_append]
    exact Ev.step (fun k => by rw [customsref06_text.l0]) (ev_neg (by omega) (ev_pos (by omega) (Ev.now _)))
  | succ d ih =>
    intro i b h hs
    have hi : i < x.length := by omega
    have hx := hf.1
    have hei := hf.2.1 _ (List.getElem_mem hi)
    have hci := hf.2.2 _ (List.getElem_mem hi)
    rw [bodyS_step x i hi] at hs ⊢
    simp only [List.length_append, List.length_cons, List.length_nil] at hs
    refine Ev.step (fun k => by rw [customsref06_text.l0]) (ev_pos (by omega) (ev_pos (by omega) ?_))
    refine text_l1 t x i hi hei hci x[i].length 0 _ (by omega) (by simp only [List.length_append, List.length_cons, List.length_nil]; omega) ?_
    rw [w64 (by omega) (by omega)]
    refine ev_eq (ih (i + 1) _ (by omega) (by simp only [List.length_append, List.length_cons, List.length_nil]; omega)) (by simp)
theorem text_ev (t : ByteArray) (x : List (List ByteArray)) (hf : fits x) (hs : (enc t x).length < 140737488355328) : Ev (fun k => customsref06_text.f k t x) (strOfNums (enc t x)) := by
  unfold customsref06_text.f
  unfold enc at hs ⊢
  simp only [List.length_append, List.length_cons, List.length_nil, bytesOf_length] at hs
  refine ev_pos (by omega) ?_
  have := text_l0 t x hf x.length 0 (bytesOf t) (by omega) (by rw [List.drop_zero]; simp only [bytesOf_length]; omega)
  rw [List.drop_zero] at this
  exact this
/- Bytes. -/
def isB (l : List Int) : Prop := ∀ b ∈ l, 0 ≤ b ∧ b ≤ 255
theorem isB_append {l m : List Int} (h : isB l) (k : isB m) : isB (l ++ m) := fun b hb => by rcases List.mem_append.1 hb with h1 | h1; exact h b h1; exact k b h1
theorem isB_bytes (c : ByteArray) : isB (bytesOf c) := fun b hb => by
  unfold bytesOf at hb
  obtain ⟨u, _, rfl⟩ := List.mem_map.1 hb
  have := u.toNat_lt
  omega
theorem isB_escI {l : List Int} (h : isB l) : isB (escI l) := fun b hb => by
  unfold escI at hb
  obtain ⟨u, hu, hb⟩ := List.mem_flatMap.1 hb
  have := h u hu
  unfold esc1 at hb
  split at hb
  · simp at hb; omega
  · simp at hb; omega
theorem isB_tailE (es : List ByteArray) : isB (tailE es) := fun b hb => by
  unfold tailE at hb
  obtain ⟨u, hu, hb⟩ := List.mem_flatMap.1 hb
  rcases List.mem_cons.1 hb with rfl | hb
  · omega
  · exact isB_escI (isB_bytes u) b hb
theorem isB_joinE (es : List ByteArray) : isB (joinE es) := by
  cases es with
  | nil => intro b hb; cases hb
  | cons a l => exact isB_append (isB_escI (isB_bytes a)) (isB_tailE l)
theorem isB_bodyS (x : List (List ByteArray)) : isB (bodyS x) := fun b hb => by
  unfold bodyS at hb
  obtain ⟨u, hu, hb⟩ := List.mem_flatMap.1 hb
  rcases List.mem_cons.1 hb with rfl | hb
  · omega
  · exact isB_joinE u b hb
theorem isB_enc (t : ByteArray) (x : List (List ByteArray)) : isB (enc t x) := isB_append (isB_bytes t) (isB_append (isB_bodyS x) (fun b hb => by simp at hb; omega))
theorem bytes_str {l : List Int} (h : isB l) : bytesOf (strOfNums l) = l := by
  unfold bytesOf
  rw [strOfNums_data, List.map_map]
  conv => rhs; rw [← List.map_id l]
  refine List.map_congr_left (fun b hb => ?_)
  have := h b hb
  show ((UInt8.ofNat b.toNat).toNat : Int) = b
  rw [UInt8.toNat_ofNat']
  omega
theorem str_bytes (a : ByteArray) : strOfNums (bytesOf a) = a := by
  have e : (strOfNums (bytesOf a)).data.toList = a.data.toList := by
    rw [strOfNums_data]
    unfold bytesOf
    rw [List.map_map]
    conv => rhs; rw [← List.map_id a.data.toList]
    refine List.map_congr_left (fun b hb => ?_)
    show UInt8.ofNat ((b.toNat : Int).toNat) = b
    simp
  cases a; cases h : strOfNums (bytesOf _)
  rw [h] at e
  congr 1
  exact Array.ext' (by simpa using e)
theorem str_inj {a b : List Int} (ha : isB a) (hb : isB b) (h : strOfNums a = strOfNums b) : a = b := by rw [← bytes_str ha, h, bytes_str hb]
theorem bytes_inj {a b : ByteArray} (h : bytesOf a = bytesOf b) : a = b := by rw [← str_bytes a, h, str_bytes b]
/- The length of the encoding of a valid segment. -/
theorem esc_len (l : List Int) : (escI l).length ≤ 2 * l.length := by
  induction l with
  | nil => simp [escI]
  | cons a l ih =>
    have : (esc1 a).length ≤ 2 := by unfold esc1; split <;> simp
    simp only [escI, List.flatMap_cons, List.length_append, List.length_cons] at ih ⊢
    omega
theorem tailE_len (es : List ByteArray) (h : ∀ c ∈ es, c.size ≤ 1000) : (tailE es).length ≤ 2001 * es.length := by
  induction es with
  | nil => simp [tailE]
  | cons a l ih =>
    have h1 := ih (fun c hc => h c (List.mem_cons_of_mem _ hc))
    have h2 := h a List.mem_cons_self
    have h3 := esc_len (bytesOf a)
    rw [bytesOf_length] at h3
    simp only [tailE, escC, List.flatMap_cons, List.length_append, List.length_cons] at h1 ⊢
    omega
theorem joinE_len (es : List ByteArray) (h : ∀ c ∈ es, c.size ≤ 1000) : (joinE es).length ≤ 2001 * es.length := by
  cases es with
  | nil => simp [joinE]
  | cons a l =>
    have h1 := tailE_len l (fun c hc => h c (List.mem_cons_of_mem _ hc))
    have h2 := h a List.mem_cons_self
    have h3 := esc_len (bytesOf a)
    rw [bytesOf_length] at h3
    simp only [joinE, escC, List.length_append, List.length_cons]
    omega
theorem longE_no {e : List ByteArray} (h : longE e = false) : e.length ≤ 100 ∧ ∀ c ∈ e, c.size ≤ 1000 := by
  unfold longE at h
  simpa using h
theorem longB_no {x : List (List ByteArray)} (h : longB x = false) : x.length ≤ 100 ∧ ∀ e ∈ x, e.length ≤ 100 ∧ ∀ c ∈ e, c.size ≤ 1000 := by
  unfold longB at h
  rw [Bool.or_eq_false_iff] at h
  refine ⟨by simpa using h.1, fun e he => longE_no ?_⟩
  have := List.any_eq_false.1 h.2 e he
  simpa using this
theorem bodyS_len (x : List (List ByteArray)) (h : ∀ e ∈ x, e.length ≤ 100 ∧ ∀ c ∈ e, c.size ≤ 1000) : (bodyS x).length ≤ 200101 * x.length := by
  induction x with
  | nil => simp [bodyS]
  | cons a l ih =>
    have h1 := ih (fun c hc => h c (List.mem_cons_of_mem _ hc))
    have h2 := h a List.mem_cons_self
    have h3 := joinE_len a h2.2
    have h4 := h2.1
    simp only [bodyS, List.flatMap_cons, List.length_append, List.length_cons] at h1 ⊢
    omega
theorem valid_parts {t : ByteArray} {x : List (List ByteArray)} (h : valid t x = 0) : tagB t = true ∧ longB x = false ∧ endsB x = false := by
  unfold valid at h
  cases h1 : tagB t with
  | false => rw [h1] at h; simp at h
  | true =>
    cases h2 : longB x with
    | true => rw [h1, h2] at h; simp at h
    | false =>
      cases h3 : endsB x with
      | true => rw [h1, h2, h3] at h; simp at h
      | false => exact ⟨rfl, rfl, rfl⟩
theorem tagB_size {t : ByteArray} (h : tagB t = true) : t.size = 3 := by
  unfold tagB at h
  rw [Bool.and_eq_true] at h
  simpa using h.1
theorem enc_len {t : ByteArray} {x : List (List ByteArray)} (h : valid t x = 0) : (enc t x).length ≤ 20010104 := by
  obtain ⟨h1, h2, h3⟩ := valid_parts h
  have h4 := tagB_size h1
  have h5 := longB_no h2
  have h6 := bodyS_len x h5.2
  unfold enc
  simp only [List.length_append, bytesOf_length, List.length_cons, List.length_nil]
  omega
theorem valid_fits {t : ByteArray} {x : List (List ByteArray)} (h : valid t x = 0) : fits x := by
  obtain ⟨h1, h2, h3⟩ := valid_parts h
  have h5 := longB_no h2
  refine ⟨by omega, fun e he => ?_, fun e he c hc => ?_⟩
  · have := (h5.2 e he).1; omega
  · have := (h5.2 e he).2 c hc; omega
/- Lists of segments. -/
def errL : List S24 → Int
  | [] => 0
  | s :: r => if valid s.f0 s.f1 = 0 then errL r else valid s.f0 s.f1
def encL (l : List S24) : List Int := l.flatMap fun s => enc s.f0 s.f1
def encR (b : List Int) (l : List S24) : List Int × Int := if errL l = 0 then (b ++ encL l, 0) else ([], errL l)
def fitsL (l : List S24) : Prop := ∀ s ∈ l, fits s.f1
theorem rdT24 (xs : List S24) (i : Nat) (h : i < xs.length) : rd_T24 xs (i : Int) = xs[i] := by unfold rd_T24; simp [h]
theorem encode_l (l : List S24) (hf : fitsL l) (hn : l.length ≤ 1000000) (d : Nat) : ∀ (i : Nat) (b : List Int), i + d = l.length → b.length ≤ i * 20010104 →
    Ev (fun k => segment_Encode.l0 k b l (l.length : Int) (i : Int)) (encR b (l.drop i)) := by
  induction d with
  | zero =>
    intro i b h hb
    rw [List.drop_of_length_le (by omega)]
    refine Ev.step (fun k => by rw [segment_Encode.l0]) (ev_neg (by omega) ?_)
    unfold encR encL
    rw [show errL [] = 0 from rfl, if_pos rfl]
    simp
    exact Ev.now _
  | succ d ih =>
    intro i b h hb
    have hi : i < l.length := by omega
    have hfi := hf _ (List.getElem_mem hi)
    rw [List.drop_eq_getElem_cons hi]
    refine Ev.step (fun k => by rw [segment_Encode.l0]) (ev_pos (by omega) (ev_pos (by omega) (ev_pos (by omega) ?_)))
    rw [rdT24 l i hi]
    refine ev_bind (validate_ev l[i].f0 l[i].f1 hfi.1 hfi.2.1) ?_
    by_cases hv : valid l[i].f0 l[i].f1 = 0
    · refine ev_pos hv ?_
      have hl := enc_len hv
      refine ev_bind (put_ev b l[i].f0 l[i].f1 hfi (by omega)) ?_
      rw [w64 (by omega) (by omega)]
      refine ev_eq (ih (i + 1) _ (by omega) (by rw [List.length_append]; omega)) ?_
      unfold encR encL
      rw [show errL (l[i] :: l.drop (i + 1)) = errL (l.drop (i + 1)) from by rw [errL, if_pos hv], List.flatMap_cons, List.append_assoc]
    · refine ev_neg hv ?_
      unfold encR
      rw [show errL (l[i] :: l.drop (i + 1)) = valid l[i].f0 l[i].f1 from by rw [errL, if_neg hv], if_neg hv]
      exact Ev.now _
theorem encode_ev (l : List S24) (hf : fitsL l) (hn : l.length ≤ 1000000) : Ev (fun k => segment_Encode.f k l) (encR [] l) := by
  have := encode_l l hf hn l.length 0 [] (by omega) (by simp)
  rw [List.drop_zero] at this
  exact this
theorem refEncode_l (l : List S24) (hf : fitsL l) (hn : l.length ≤ 1000000) (d : Nat) : ∀ (i : Nat) (b : List Int), i + d = l.length → b.length ≤ i * 20010104 →
    Ev (fun k => customsref06_Encode.l0 k l b (i : Int)) (encR b (l.drop i)) := by
  induction d with
  | zero =>
    intro i b h hb
    rw [List.drop_of_length_le (by omega)]
    refine Ev.step (fun k => by rw [customsref06_Encode.l0]) (ev_neg (by omega) ?_)
    unfold encR encL
    rw [show errL [] = 0 from rfl, if_pos rfl]
    simp
    exact Ev.now _
  | succ d ih =>
    intro i b h hb
    have hi : i < l.length := by omega
    have hfi := hf _ (List.getElem_mem hi)
    rw [List.drop_eq_getElem_cons hi]
    refine Ev.step (fun k => by rw [customsref06_Encode.l0]) (ev_pos (by omega) (ev_pos (by omega) ?_))
    rw [rdT24 l i hi]
    refine ev_bind (refSegment_ev l[i].f0 l[i].f1 hfi.1 hfi.2.1) ?_
    by_cases hv : valid l[i].f0 l[i].f1 = 0
    · refine ev_pos hv ?_
      have hl := enc_len hv
      refine ev_bind (text_ev l[i].f0 l[i].f1 hfi (by omega)) ?_
      rw [strOfNums_size, bytes_str (isB_enc _ _)]
      refine ev_pos (by omega) ?_
      rw [w64 (by omega) (by omega)]
      refine ev_eq (ih (i + 1) _ (by omega) (by rw [List.length_append]; omega)) ?_
      unfold encR encL
      rw [show errL (l[i] :: l.drop (i + 1)) = errL (l.drop (i + 1)) from by rw [errL, if_pos hv], List.flatMap_cons, List.append_assoc]
    · refine ev_neg hv ?_
      unfold encR
      rw [show errL (l[i] :: l.drop (i + 1)) = valid l[i].f0 l[i].f1 from by rw [errL, if_neg hv], if_neg hv]
      exact Ev.now _
theorem refEncode_ev (l : List S24) (hf : fitsL l) (hn : l.length ≤ 1000000) : Ev (fun k => customsref06_Encode.f k l) (encR [] l) := by
  have := refEncode_l l hf hn l.length 0 [] (by omega) (by simp)
  rw [List.drop_zero] at this
  exact this
end Go.Proofs.Ythdahpnjiighfaa.D
