/- Layer 6 in plain words: the program's reading of segments, and that it reads back what was encoded. -/
import Derived.Test.YthdahpnjiighfaaSegE
import Derived.Test.YthdahpnjiighfaaEPlain
import Derived.Laws.Strings
import Derived.Test.YthdahpnjiighfaaF7 -- segment_length
import Derived.Test.YthdahpnjiighfaaF8 -- segment_split
import Derived.Test.YthdahpnjiighfaaF9 -- segment_read
import Derived.Test.YthdahpnjiighfaaF10 -- segment_Next
import Derived.Test.YthdahpnjiighfaaF11 -- segment_Decode
namespace Go.Proofs.Ythdahpnjiighfaa.D
set_option linter.unusedVariables false
set_option linter.unusedSimpArgs false
open Go.RowKit Go.Proofs.YthdahpnjiighfaaW.PrintWords Go.Proofs.YthdahpnjiighfaaW.PrintMore Go.Proofs.Ythdahpnjiighfaa.F
/-- The number of bytes of the first segment, if its end is there. -/
def scan : List Int → Option Nat
  | [] => none
  | [b] => if b = 39 then some 1 else none
  | b :: c :: r => if b = 39 then some 1 else if b = 63 then (scan r).map (· + 2) else (scan (c :: r)).map (· + 1)
theorem scan_end (r : List Int) : scan (39 :: r) = some 1 := by cases r <;> simp [scan]
theorem scan_esc (b : Int) (r : List Int) : scan (63 :: b :: r) = (scan r).map (· + 2) := by simp [scan]
theorem scan_one {b : Int} {r : List Int} (h1 : b ≠ 39) (h2 : b ≠ 63) : scan (b :: r) = (scan r).map (· + 1) := by
  cases r with
  | nil => simp [scan, h1]
  | cons c r => simp [scan, h1, h2]
theorem rd_get (xs : List Int) (i : Nat) (h : i < xs.length) : rd xs (i : Int) = xs[i] := by unfold rd; simp [h]
/-- What the scan tells is found by the loop. -/
def scanR (b : List Int) (i : Nat) (p : Int × Bool) : Prop := match scan (b.drop i) with
  | some m => p = (((i + m : Nat) : Int), true)
  | none => p.2 = false
theorem length_l (b : List Int) (hb : b.length ≤ 9223372036854775000) (d : Nat) : ∀ i : Nat, i ≤ b.length + 1 → b.length + 2 ≤ i + d →
    ∃ p, scanR b i p ∧ Ev (fun k => segment_length.l0 k b (i : Int) false) p := by
  induction d with
  | zero => intro i h h2; omega
  | succ d ih =>
    intro i h h2
    by_cases hi : i < b.length
    · by_cases h63 : b[i] = 63
      · obtain ⟨p, hp, he⟩ := ih (i + 2) (by omega) (by omega)
        refine ⟨p, ?_, Ev.step (fun k => by rw [segment_length.l0]) (ev_pos (by omega) (ev_pos (by omega) ?_))⟩
        · unfold scanR at hp ⊢
          rw [List.drop_eq_getElem_cons hi, h63]
          by_cases h1 : i + 1 < b.length
          · rw [List.drop_eq_getElem_cons h1, scan_esc]
            rw [show i + 1 + 1 = i + 2 from rfl]
            cases hs : scan (b.drop (i + 2)) with
            | none => rw [hs] at hp; exact hp
            | some m =>
              rw [hs] at hp
              show p = (((i + (m + 2) : Nat) : Int), true)
              rw [show i + (m + 2) = i + 2 + m by omega]; exact hp
          · rw [List.drop_of_length_le (show b.length ≤ i + 2 by omega)] at hp
            rw [List.drop_of_length_le (show b.length ≤ i + 1 by omega)]
            show p.2 = false
            exact hp
        · rw [rd_get b i hi]
          refine ev_pos h63 ?_
          rw [w64 (x := (i : Int) + 1) (by omega) (by omega), w64 (by omega) (by omega)]
          exact he
      · by_cases h39 : b[i] = 39
        · refine ⟨(((i + 1 : Nat) : Int), true), ?_, Ev.step (fun k => by rw [segment_length.l0]) (ev_pos (by omega) (ev_pos (by omega) ?_))⟩
          · unfold scanR
            rw [List.drop_eq_getElem_cons hi, h39, scan_end]
          · rw [rd_get b i hi]
            refine ev_neg h63 (ev_pos h39 ?_)
            rw [w64 (by omega) (by omega)]
            exact Ev.now _
        · obtain ⟨p, hp, he⟩ := ih (i + 1) (by omega) (by omega)
          refine ⟨p, ?_, Ev.step (fun k => by rw [segment_length.l0]) (ev_pos (by omega) (ev_pos (by omega) ?_))⟩
          · unfold scanR at hp ⊢
            rw [List.drop_eq_getElem_cons hi, scan_one h39 h63]
            cases hs : scan (b.drop (i + 1)) with
            | none => rw [hs] at hp; exact hp
            | some m =>
              rw [hs] at hp
              show p = (((i + (m + 1) : Nat) : Int), true)
              rw [show i + (m + 1) = i + 1 + m by omega]; exact hp
          · rw [rd_get b i hi]
            refine ev_neg h63 (ev_neg h39 ?_)
            rw [w64 (by omega) (by omega)]
            exact he
    · refine ⟨(wrap64 ((i : Int) + 1), false), ?_, Ev.step (fun k => by rw [segment_length.l0]) (ev_neg (by omega) (Ev.now _))⟩
      unfold scanR
      rw [List.drop_of_length_le (by omega)]
      rfl
theorem length_ev (b : List Int) (hb : b.length ≤ 9223372036854775000) : ∃ p, scanR b 0 p ∧ Ev (fun k => segment_length.f k b) p :=
  length_l b hb (b.length + 2) 0 (by omega) (by omega)
theorem scan_le (d : Nat) : ∀ b : List Int, b.length ≤ d → ∀ m, scan b = some m → 1 ≤ m ∧ m ≤ b.length := by
  induction d with
  | zero => intro b hb m h; cases b with | nil => cases h | cons a l => simp at hb
  | succ d ih =>
    intro b hb m h
    cases b with
    | nil => cases h
    | cons a l =>
      simp only [List.length_cons] at hb ⊢
      by_cases h39 : a = 39
      · subst h39
        rw [scan_end] at h
        obtain rfl := Option.some.inj h
        omega
      · by_cases h63 : a = 63
        · subst h63
          cases l with
          | nil => simp [scan] at h
          | cons c r =>
            rw [scan_esc] at h
            obtain ⟨n, hn, rfl⟩ := Option.map_eq_some_iff.1 h
            simp only [List.length_cons] at hb ⊢
            have := ih r (by omega) n hn
            omega
        · rw [scan_one h39 h63] at h
          obtain ⟨n, hn, rfl⟩ := Option.map_eq_some_iff.1 h
          have := ih l (by omega) n hn
          omega
/-- Division at the separators that no question mark precedes. -/
def splitL (sep : Int) : List Int → List Int → List (List Int)
  | w, [] => [w]
  | w, [b] => if b = 63 then [w ++ [63]] else if b = sep then [w, []] else [w ++ [b]]
  | w, b :: c :: r => if b = 63 then splitL sep (w ++ [63, c]) r else if b = sep then w :: splitL sep [] (c :: r) else splitL sep (w ++ [b]) (c :: r)
theorem split_nil (sep : Int) (w : List Int) : splitL sep w [] = [w] := by rw [splitL]
theorem split_esc (sep : Int) (w : List Int) (b : Int) (r : List Int) : splitL sep w (63 :: b :: r) = splitL sep (w ++ [63, b]) r := by rw [splitL, if_pos rfl]
theorem split_sep {sep : Int} (h : sep ≠ 63) (w r : List Int) : splitL sep w (sep :: r) = w :: splitL sep [] r := by
  cases r with
  | nil => simp only [splitL, if_neg h, if_pos]
  | cons c r => rw [splitL, if_neg h, if_pos rfl]
theorem split_one {sep b : Int} (h1 : b ≠ 63) (h2 : b ≠ sep) (w r : List Int) : splitL sep w (b :: r) = splitL sep (w ++ [b]) r := by
  cases r with
  | nil => simp only [splitL, if_neg h1, if_neg h2]
  | cons c r => rw [splitL, if_neg h1, if_neg h2]
theorem split_last (sep : Int) (w : List Int) : splitL sep w [63] = [w ++ [63]] := by rw [splitL, if_pos rfl]
theorem extract_str (a : ByteArray) (i j : Nat) : a.extract i j = strOfNums (((bytesOf a).take j).drop i) := by
  apply bytes_inj
  rw [bytes_str (fun b hb => isB_bytes a b (List.mem_of_mem_take (List.mem_of_mem_drop hb)))]
  unfold bytesOf
  rw [← List.map_take, ← List.map_drop]
  congr 1
  simp [ByteArray.extract, ByteArray.copySlice, Array.toList_extract, List.extract_eq_take_drop, List.drop_take]
def slice (b : List Int) (i j : Nat) : List Int := (b.take j).drop i
theorem slice_next (b : List Int) (i j : Nat) (h : i ≤ j) (hj : j < b.length) : slice b i (j + 1) = slice b i j ++ [b[j]] := by
  unfold slice
  rw [List.take_succ_eq_append_getElem hj, List.drop_append_of_le_length (by rw [List.length_take]; omega)]
theorem slice_nil (b : List Int) (i : Nat) : slice b i i = [] := by
  unfold slice
  rw [List.drop_of_length_le (by rw [List.length_take]; omega)]
theorem slice_past (b : List Int) (i j : Nat) (h : b.length ≤ j) : slice b i j = slice b i b.length := by
  unfold slice
  rw [List.take_of_length_le h, List.take_length]
theorem split_l (s : ByteArray) (sep : Int) (hsep : sep ≠ 63) (hs : s.size ≤ 8000000000000) (d : Nat) : ∀ (i from_ : Nat) (acc : List ByteArray), i ≤ s.size + 1 → s.size + 2 ≤ i + d → from_ ≤ i → from_ ≤ s.size → acc.length ≤ from_ →
    Ev (fun k => segment_split.l0 k s sep acc (from_ : Int) (i : Int)) (acc ++ (splitL sep (slice (bytesOf s) from_ i) ((bytesOf s).drop i)).map strOfNums) := by
  induction d with
  | zero => intro i fr acc h h2; omega
  | succ d ih =>
    intro i fr acc h h2 h3 h4 h5
    have hl : (bytesOf s).length = s.size := bytesOf_length s
    by_cases hi : i < s.size
    · have hi' : i < (bytesOf s).length := by omega
      rw [List.drop_eq_getElem_cons hi', bytesOf_get s i hi']
      have hsl := slice_next (bytesOf s) fr i h3 hi'
      rw [bytesOf_get s i hi'] at hsl
      refine Ev.step (fun k => by rw [segment_split.l0]) (ev_pos (by omega) (ev_pos (by omega) ?_))
      by_cases h63 : bt s i = 63
      · refine ev_pos h63 ?_
        rw [w64 (x := (i : Int) + 1) (by omega) (by omega), w64 (by omega) (by omega), h63]
        refine ev_eq (ih (i + 2) fr acc (by omega) (by omega) (by omega) h4 h5) ?_
        by_cases h1 : i + 1 < (bytesOf s).length
        · have hsl2 := slice_next (bytesOf s) fr (i + 1) (by omega) h1
          rw [List.drop_eq_getElem_cons h1, split_esc, show i + 1 + 1 = i + 2 from rfl] at *
          rw [hsl2, hsl, h63, List.append_assoc]
          rfl
        · rw [List.drop_of_length_le (show (bytesOf s).length ≤ i + 1 by omega), List.drop_of_length_le (show (bytesOf s).length ≤ i + 2 by omega), split_nil, split_last,
            slice_past _ fr (i + 2) (by omega), ← slice_past _ fr (i + 1) (by omega), hsl, h63]
      · by_cases hc : bt s i = sep
        · refine ev_neg h63 (ev_pos hc (ev_pos (by omega) (ev_pos (by omega) (ev_pos (by omega) (ev_pos (by omega) ?_)))))
          rw [w64 (by omega) (by omega), hc, split_sep hsep, List.map_cons]
          refine ev_eq (ih (i + 1) (i + 1) _ (by omega) (by omega) (by omega) (by omega) (by rw [List.length_append, List.length_cons, List.length_nil]; omega)) ?_
          rw [slice_nil, List.append_assoc, show ((fr : Int)).toNat = fr by omega, show ((i : Int)).toNat = i by omega, extract_str]
          rfl
        · refine ev_neg h63 (ev_neg hc ?_)
          rw [w64 (by omega) (by omega), split_one h63 hc, ← hsl]
          exact ih (i + 1) fr acc (by omega) (by omega) (by omega) h4 h5
    · rw [List.drop_of_length_le (by omega), split_nil, slice_past _ fr i (by omega)]
      refine Ev.step (fun k => by rw [segment_split.l0]) (ev_neg (by omega) (ev_pos (by omega) (ev_pos (by omega) (ev_pos (by omega) ?_))))
      rw [show ((fr : Int)).toNat = fr by omega, extract_str, hl]
      exact Ev.now _
theorem split_ev (s : ByteArray) (sep : Int) (hsep : sep ≠ 63) (hs : s.size ≤ 8000000000000) : Ev (fun k => segment_split.f k s sep) ((splitL sep [] (bytesOf s)).map strOfNums) := by
  have := split_l s sep hsep hs (s.size + 2) 0 0 [] (by omega) (by omega) (by omega) (by omega) (by simp)
  rw [slice_nil, List.drop_zero, List.nil_append] at this
  exact this
theorem split_len (sep : Int) (d : Nat) : ∀ (l w : List Int), l.length ≤ d → (splitL sep w l).length ≤ l.length + 1 ∧ (splitL sep w l) ≠ [] ∧ ∀ p ∈ splitL sep w l, p.length ≤ w.length + l.length := by
  induction d with
  | zero =>
    intro l w h
    cases l with
    | nil => rw [split_nil]; refine ⟨by simp, by simp, fun p hp => ?_⟩; simp at hp; subst hp; omega
    | cons a l => simp at h
  | succ d ih =>
    intro l w h
    cases l with
    | nil => rw [split_nil]; refine ⟨by simp, by simp, fun p hp => ?_⟩; simp at hp; subst hp; omega
    | cons a l =>
      simp only [List.length_cons] at h ⊢
      by_cases h63 : a = 63
      · subst h63
        cases l with
        | nil =>
          rw [split_last]
          refine ⟨by simp, by simp, fun p hp => ?_⟩
          simp only [List.mem_singleton] at hp
          subst hp; simp
        | cons c r =>
          rw [split_esc]
          simp only [List.length_cons] at h ⊢
          obtain ⟨h1, h2, h3⟩ := ih r (w ++ [63, c]) (by omega)
          refine ⟨by omega, h2, fun p hp => ?_⟩
          have := h3 p hp
          simp only [List.length_append, List.length_cons, List.length_nil] at this
          omega
      · by_cases hc : a = sep
        · subst hc
          rw [split_sep h63]
          obtain ⟨h1, h2, h3⟩ := ih l [] (by omega)
          refine ⟨by rw [List.length_cons]; omega, by simp, fun p hp => ?_⟩
          rcases List.mem_cons.1 hp with rfl | hp
          · omega
          · have := h3 p hp
            simp only [List.length_nil] at this
            omega
        · rw [split_one h63 hc]
          obtain ⟨h1, h2, h3⟩ := ih l (w ++ [a]) (by omega)
          refine ⟨by omega, h2, fun p hp => ?_⟩
          have := h3 p hp
          simp only [List.length_append, List.length_cons, List.length_nil] at this
          omega
theorem isB_split (sep : Int) (d : Nat) : ∀ (l w : List Int), l.length ≤ d → isB l → isB w → ∀ p ∈ splitL sep w l, isB p := by
  induction d with
  | zero =>
    intro l w h hl hw p hp
    cases l with
    | nil => rw [split_nil] at hp; simp at hp; subst hp; exact hw
    | cons a l => simp at h
  | succ d ih =>
    intro l w h hl hw p hp
    cases l with
    | nil => rw [split_nil] at hp; simp at hp; subst hp; exact hw
    | cons a l =>
      simp only [List.length_cons] at h
      have ha : isB [a] := fun b hb => hl b (by simp at hb; subst hb; exact List.mem_cons_self)
      have hl' : isB l := fun b hb => hl b (List.mem_cons_of_mem _ hb)
      by_cases h63 : a = 63
      · subst h63
        cases l with
        | nil =>
          rw [split_last] at hp
          simp only [List.mem_singleton] at hp
          subst hp; exact isB_append hw ha
        | cons c r =>
          rw [split_esc] at hp
          simp only [List.length_cons] at h
          refine ih r (w ++ [63, c]) (by omega) (fun b hb => hl' b (List.mem_cons_of_mem _ hb)) (isB_append hw (fun b hb => ?_)) p hp
          simp only [List.mem_cons, List.not_mem_nil, or_false] at hb
          rcases hb with rfl | rfl
          · omega
          · exact hl' _ List.mem_cons_self
      · by_cases hc : a = sep
        · subst hc
          rw [split_sep h63] at hp
          rcases List.mem_cons.1 hp with rfl | hp
          · exact hw
          · exact ih l [] (by omega) hl' (fun b hb => by cases hb) p hp
        · rw [split_one h63 hc] at hp
          exact ih l (w ++ [a]) (by omega) hl' (isB_append hw ha) p hp
/- Components. -/
def plainB (a : ByteArray) : ByteArray := ⟨(plainL a.data.toList).toArray⟩
theorem plainL_len (d : Nat) : ∀ l : List UInt8, l.length ≤ d → (plainL l).length ≤ l.length := by
  induction d with
  | zero => intro l h; cases l with | nil => rw [plainL]; simp | cons a l => simp at h
  | succ d ih =>
    intro l h
    cases l with
    | nil => rw [plainL]; simp
    | cons a l =>
      simp only [List.length_cons] at h ⊢
      by_cases h63 : a = 63 ∧ l ≠ []
      · obtain ⟨rfl, hl⟩ := h63
        cases l with
        | nil => exact absurd rfl hl
        | cons c r =>
          rw [plainL_esc]
          simp only [List.length_cons] at h ⊢
          have := ih r (by omega)
          omega
      · rw [plainL_cons (by by_cases h1 : a = 63; exact Or.inr (Decidable.byContradiction fun h2 => h63 ⟨h1, h2⟩); exact Or.inl h1)]
        have := ih l (by omega)
        rw [List.length_cons]; omega
theorem plainB_size (a : ByteArray) : (plainB a).size ≤ a.size := by
  have h := plainL_len a.data.toList.length a.data.toList (Nat.le_refl _)
  rw [data_length] at h
  unfold plainB
  show (plainL a.data.toList).toArray.size ≤ a.size
  rw [List.size_toArray]; exact h
theorem plain_ev (a : ByteArray) (h : a.size ≤ 70368744177664) : segment_plain.f a = some (plainB a) := by
  unfold segment_plain.f; rw [if_pos h]; rfl
def elS (p : List Int) : List ByteArray := if p = [] then [] else (splitL 58 [] p).map fun w => plainB (strOfNums w)
/-- What the program reads. -/
def readS (b : List Int) : ByteArray × List (List ByteArray) := (strOfNums ((splitL 43 [] b).headD []), (splitL 43 [] b).tail.map elS)
theorem read_l1 (ws : List ByteArray) (hw : ∀ w ∈ ws, w.size ≤ 70368744177664) (hn : ws.length ≤ 8000000000001) (ps : List ByteArray) (n j : Int) (t : ByteArray) (x : List (List ByteArray)) (hx : x.length ≤ 5000000000000) {r : ByteArray × List (List ByteArray)} (d : Nat) : ∀ (i : Nat) (acc : List ByteArray), i + d = ws.length → acc.length = i →
    Ev (fun k => segment_read.l0 k ps n (wrap64 (j + 1)) t (x ++ [acc ++ (ws.drop i).map plainB])) r →
    Ev (fun k => segment_read.l1 k acc ps n j ws (ws.length : Int) (i : Int) t x) r := by
  induction d with
  | zero =>
    intro i acc h ha h1
    rw [List.drop_of_length_le (by omega), List.map_nil, List.append_nil] at h1
    exact Ev.step (fun k => by rw [segment_read.l1]) (ev_neg (by omega) (ev_pos (by omega) h1))
  | succ d ih =>
    intro i acc h ha h1
    have hi : i < ws.length := by omega
    rw [List.drop_eq_getElem_cons hi, List.map_cons] at h1
    refine Ev.step (fun k => by rw [segment_read.l1]) (ev_pos (by omega) (ev_pos (by omega) (ev_pos (by omega) ?_)))
    rw [rdOf_get _ ws i hi, plain_ev _ (hw _ (List.getElem_mem hi))]
    refine ev_let (ev_pos (by omega) ?_)
    rw [w64 (by omega) (by omega)]
    refine ih (i + 1) _ (by omega) (by rw [List.length_append, List.length_cons, List.length_nil]; omega) ?_
    rw [List.append_assoc]
    exact h1
theorem strOfNums_nil (l : List Int) : (strOfNums l).toList = ([] : List UInt8) ↔ l = [] := by
  rw [toList_nil, strOfNums_data]; simp
theorem read_l0 (ps : List (List Int)) (hb : ∀ p ∈ ps, isB p) (hw : ∀ p ∈ ps, p.length ≤ 4000000000000) (hn : ps.length ≤ 4000000000001) (t : ByteArray) (d : Nat) : ∀ (i : Nat) (x : List (List ByteArray)), i + d = ps.length → x.length = i →
    Ev (fun k => segment_read.l0 k (ps.map strOfNums) ((ps.map strOfNums).length : Int) (i : Int) t x) (t, x ++ (ps.drop i).map elS) := by
  induction d with
  | zero =>
    intro i x h hx
    rw [List.drop_of_length_le (by omega), List.map_nil, List.append_nil]
    exact Ev.step (fun k => by rw [segment_read.l0]) (ev_neg (by rw [List.length_map]; omega) (Ev.now _))
  | succ d ih =>
    intro i x h hx
    have hi : i < ps.length := by omega
    have hm := List.getElem_mem hi
    have hi' : i < (ps.map strOfNums).length := by rw [List.length_map]; exact hi
    rw [List.drop_eq_getElem_cons hi, List.map_cons]
    refine Ev.step (fun k => by rw [segment_read.l0]) (ev_pos (by omega) (ev_pos (by omega) (ev_pos (by omega) ?_)))
    rw [rdOf_get _ _ i hi', List.getElem_map]
    by_cases he : ps[i] = []
    · refine ev_pos ((strOfNums_nil _).2 he) (ev_pos (by omega) ?_)
      rw [w64 (by omega) (by omega)]
      refine ev_eq (ih (i + 1) _ (by omega) (by rw [List.length_append, List.length_cons, List.length_nil]; omega)) ?_
      rw [show elS ps[i] = [] from by unfold elS; rw [if_pos he], List.append_assoc]
      rfl
    · have h1 := split_len 58 ps[i].length ps[i] [] (Nat.le_refl _)
      have h0 := hw _ hm
      refine ev_neg (fun h => he ((strOfNums_nil _).1 h)) (ev_bind (split_ev (strOfNums ps[i]) 58 (by decide) (by rw [strOfNums_size]; omega)) ?_)
      rw [bytes_str (hb _ hm)]
      refine read_l1 _ (fun w hw' => ?_) (by rw [List.length_map]; omega) _ _ i t x (by omega) _ 0 [] (by rw [Nat.zero_add]) rfl ?_
      · obtain ⟨p, hp, rfl⟩ := List.mem_map.1 hw'
        have := h1.2.2 p hp
        rw [strOfNums_size]
        simp only [List.length_nil] at this
        omega
      · rw [w64 (by omega) (by omega), List.drop_zero, List.nil_append, List.map_map]
        refine ev_eq (ih (i + 1) _ (by omega) (by rw [List.length_append, List.length_cons, List.length_nil]; omega)) ?_
        rw [List.append_assoc, show elS ps[i] = (splitL 58 [] ps[i]).map fun w => plainB (strOfNums w) from by unfold elS; rw [if_neg he]]
        rfl
theorem read_ev (b : List Int) (hb : isB b) (hn : b.length ≤ 4000000000000) : Ev (fun k => segment_read.f k b) (readS b) := by
  unfold segment_read.f
  refine ev_bind (split_ev (strOfNums b) 43 (by decide) (by rw [strOfNums_size]; omega)) ?_
  rw [bytes_str hb]
  have h1 := split_len 43 b.length b [] (Nat.le_refl _)
  have h2 := isB_split 43 b.length b [] (Nat.le_refl _) hb (fun b hb => by cases hb)
  unfold readS
  generalize splitL 43 [] b = ps at h1 h2
  cases ps with
  | nil => exact absurd rfl h1.2.1
  | cons p ps =>
    simp only [List.length_cons] at h1
    refine ev_pos (by rw [List.length_map, List.length_cons]; omega) (ev_pos (by rw [List.length_map, List.length_cons]; omega) (ev_let ?_))
    have := read_l0 ps (fun q hq => h2 q (List.mem_cons_of_mem _ hq)) (fun q hq => by have := h1.2.2 q (List.mem_cons_of_mem _ hq); simp only [List.length_nil] at this; omega) (by omega) (strOfNums p) ps.length 0 [] (by omega) rfl
    rw [List.drop_zero, List.nil_append] at this
    exact this
theorem read_fits (b : List Int) (hn : b.length ≤ 4000000000000) : fits (readS b).2 := by
  have h1 := split_len 43 b.length b [] (Nat.le_refl _)
  have key : ∀ e ∈ (readS b).2, ∃ p ∈ splitL 43 [] b, e = elS p := fun e he => by
    obtain ⟨p, hp, rfl⟩ := List.mem_map.1 he
    exact ⟨p, List.mem_of_mem_tail hp, rfl⟩
  have el : ∀ p ∈ splitL 43 [] b, (elS p).length ≤ 4000000000001 ∧ ∀ c ∈ elS p, c.size ≤ 4000000000001 := fun p hp => by
    have h2 := h1.2.2 p hp
    simp only [List.length_nil] at h2
    have h3 := split_len 58 p.length p [] (Nat.le_refl _)
    unfold elS
    split
    · exact ⟨by simp, fun c hc => by cases hc⟩
    · refine ⟨by rw [List.length_map]; omega, fun c hc => ?_⟩
      obtain ⟨w, hw, rfl⟩ := List.mem_map.1 hc
      have h4 := h3.2.2 w hw
      simp only [List.length_nil] at h4
      have h5 := plainB_size (strOfNums w)
      rw [strOfNums_size] at h5
      omega
  refine ⟨?_, fun e he => ?_, fun e he c hc => ?_⟩
  · unfold readS
    rw [List.length_map, List.length_tail]; omega
  · obtain ⟨p, hp, rfl⟩ := key e he
    have := (el p hp).1; omega
  · obtain ⟨p, hp, rfl⟩ := key e he
    have := (el p hp).2 c hc; omega
/- Reading back. -/
theorem escI_cons (b : Int) (l : List Int) : escI (b :: l) = esc1 b ++ escI l := rfl
theorem sp_yes {b : Int} (h : sp b = false) : b ≠ 43 ∧ b ≠ 58 ∧ b ≠ 63 ∧ b ≠ 39 := by
  unfold sp at h
  have := of_decide_eq_false h
  omega
theorem scan_escI (l r : List Int) : scan (escI l ++ r) = (scan r).map (· + (escI l).length) := by
  induction l with
  | nil => show scan r = _; cases scan r <;> rfl
  | cons b l ih =>
    rw [escI_cons]
    unfold esc1
    cases h : sp b with
    | true =>
      rw [if_pos rfl]
      show scan (63 :: b :: (escI l ++ r)) = _
      rw [scan_esc, ih, Option.map_map]
      congr 1
    | false =>
      rw [if_neg (by simp)]
      have := sp_yes h
      show scan (b :: (escI l ++ r)) = _
      rw [scan_one this.2.2.2 this.2.2.1, ih, Option.map_map]
      congr 1
theorem split_escI {sep : Int} (hs : sp sep = true) (h63 : sep ≠ 63) (l : List Int) : ∀ w r : List Int, splitL sep w (escI l ++ r) = splitL sep (w ++ escI l) r := by
  induction l with
  | nil => intro w r; show splitL sep w r = splitL sep (w ++ []) r; rw [List.append_nil]
  | cons b l ih =>
    intro w r
    rw [escI_cons]
    unfold esc1
    cases h : sp b with
    | true =>
      rw [if_pos rfl]
      show splitL sep w (63 :: b :: (escI l ++ r)) = _
      rw [split_esc, ih, List.append_assoc]
    | false =>
      rw [if_neg (by simp)]
      have h1 := sp_yes h
      show splitL sep w (b :: (escI l ++ r)) = _
      rw [split_one h1.2.2.1 (fun c => by rw [c, hs] at h; cases h), ih, List.append_assoc]
theorem scan_tailE (es : List ByteArray) (r : List Int) : scan (tailE es ++ r) = (scan r).map (· + (tailE es).length) := by
  induction es with
  | nil => show scan r = _; cases scan r <;> rfl
  | cons c es ih =>
    show scan (58 :: (escI (bytesOf c) ++ tailE es) ++ r) = (scan r).map (· + (58 :: (escI (bytesOf c) ++ tailE es)).length)
    rw [List.cons_append, scan_one (by decide) (by decide), List.append_assoc, scan_escI, ih, Option.map_map, Option.map_map]
    congr 1
    funext n
    simp only [Function.comp, List.length_cons, List.length_append]
    omega
theorem scan_joinE (es : List ByteArray) (r : List Int) : scan (joinE es ++ r) = (scan r).map (· + (joinE es).length) := by
  cases es with
  | nil => show scan r = _; cases scan r <;> rfl
  | cons c es =>
    show scan ((escI (bytesOf c) ++ tailE es) ++ r) = (scan r).map (· + (escI (bytesOf c) ++ tailE es).length)
    rw [List.append_assoc, scan_escI, scan_tailE, Option.map_map]
    congr 1
    funext n
    simp only [Function.comp, List.length_append]
    omega
theorem scan_bodyS (x : List (List ByteArray)) (r : List Int) : scan (bodyS x ++ r) = (scan r).map (· + (bodyS x).length) := by
  induction x with
  | nil => show scan r = _; cases scan r <;> rfl
  | cons e x ih =>
    show scan (43 :: (joinE e ++ bodyS x) ++ r) = (scan r).map (· + (43 :: (joinE e ++ bodyS x)).length)
    rw [List.cons_append, scan_one (by decide) (by decide), List.append_assoc, scan_joinE, ih, Option.map_map, Option.map_map]
    congr 1
    funext n
    simp only [Function.comp, List.length_cons, List.length_append]
    omega
theorem escI_id {l : List Int} (h : ∀ b ∈ l, sp b = false) : escI l = l := by
  induction l with
  | nil => rfl
  | cons b l ih =>
    rw [escI_cons, ih (fun c hc => h c (List.mem_cons_of_mem _ hc))]
    unfold esc1
    rw [h b List.mem_cons_self, if_neg (by simp)]
    rfl
theorem chOK_sp {i b : Int} (h : chOK i b = true) : sp b = false := by
  have := chOK_yes h
  unfold sp
  refine decide_eq_false ?_
  omega
theorem tag_bytes {t : ByteArray} (h : tagB t = true) : escI (bytesOf t) = bytesOf t := by
  refine escI_id (fun b hb => ?_)
  have hs := tagB_size h
  unfold tagB at h
  simp only [Bool.and_eq_true] at h
  obtain ⟨i, hi, rfl⟩ := List.mem_iff_getElem.1 hb
  have hi' := hi
  rw [bytesOf_length, hs] at hi'
  rw [bytesOf_get t i hi]
  match i, hi' with
  | 0, _ => exact chOK_sp h.2.1
  | 1, _ => exact chOK_sp h.2.2.1
  | 2, _ => exact chOK_sp h.2.2.2
theorem scan_enc {t : ByteArray} {x : List (List ByteArray)} (h : valid t x = 0) (r : List Int) : scan (enc t x ++ r) = some (enc t x).length := by
  obtain ⟨h1, h2, h3⟩ := valid_parts h
  unfold enc
  rw [List.append_assoc, List.append_assoc, ← tag_bytes h1, scan_escI, scan_bodyS]
  show ((scan (39 :: r)).map _).map _ = _
  rw [scan_end]
  simp only [Option.map_some, List.length_append, List.length_cons, List.length_nil]
  congr 1
  omega
theorem split43_tailE (es : List ByteArray) : ∀ w r : List Int, splitL 43 w (tailE es ++ r) = splitL 43 (w ++ tailE es) r := by
  induction es with
  | nil => intro w r; show splitL 43 w r = splitL 43 (w ++ []) r; rw [List.append_nil]
  | cons c es ih =>
    intro w r
    show splitL 43 w (58 :: (escI (bytesOf c) ++ tailE es) ++ r) = splitL 43 (w ++ 58 :: (escI (bytesOf c) ++ tailE es)) r
    rw [List.cons_append, split_one (by decide) (by decide), List.append_assoc, split_escI (by decide) (by decide), ih]
    simp
theorem split43_joinE (es : List ByteArray) (w r : List Int) : splitL 43 w (joinE es ++ r) = splitL 43 (w ++ joinE es) r := by
  cases es with
  | nil => show splitL 43 w r = splitL 43 (w ++ []) r; rw [List.append_nil]
  | cons c es =>
    show splitL 43 w ((escI (bytesOf c) ++ tailE es) ++ r) = splitL 43 (w ++ (escI (bytesOf c) ++ tailE es)) r
    rw [List.append_assoc, split_escI (by decide) (by decide), split43_tailE, List.append_assoc]
theorem split43_bodyS (x : List (List ByteArray)) : ∀ w : List Int, splitL 43 w (bodyS x) = w :: x.map joinE := by
  induction x with
  | nil => intro w; show splitL 43 w [] = _; rw [split_nil]; rfl
  | cons e x ih =>
    intro w
    show splitL 43 w (43 :: (joinE e ++ bodyS x)) = _
    rw [split_sep (by decide), split43_joinE, ih]
    rfl
theorem split58_tailE (es : List ByteArray) : ∀ w : List Int, splitL 58 w (tailE es) = w :: es.map escC := by
  induction es with
  | nil => intro w; show splitL 58 w [] = _; rw [split_nil]; rfl
  | cons c es ih =>
    intro w
    show splitL 58 w (58 :: (escI (bytesOf c) ++ tailE es)) = _
    rw [split_sep (by decide), split_escI (by decide) (by decide), ih]
    rfl
theorem split58_joinE (c : ByteArray) (es : List ByteArray) : splitL 58 [] (joinE (c :: es)) = (c :: es).map escC := by
  show splitL 58 [] (escI (bytesOf c) ++ tailE es) = _
  rw [split_escI (by decide) (by decide), split58_tailE]
  rfl
theorem plain_escI (l : List UInt8) : plainL ((escI (l.map fun b => (b.toNat : Int))).map fun n => UInt8.ofNat n.toNat) = l := by
  induction l with
  | nil => rfl
  | cons b l ih =>
    rw [List.map_cons, escI_cons]
    unfold esc1
    cases h : sp (b.toNat : Int) with
    | true =>
      rw [if_pos rfl]
      show plainL (63 :: UInt8.ofNat ((b.toNat : Int).toNat) :: ((escI (l.map fun b => (b.toNat : Int))).map fun n => UInt8.ofNat n.toNat)) = _
      rw [plainL_esc, ih]
      simp
    | false =>
      rw [if_neg (by simp)]
      have h1 := (sp_yes h).2.2.1
      show plainL (UInt8.ofNat ((b.toNat : Int).toNat) :: ((escI (l.map fun b => (b.toNat : Int))).map fun n => UInt8.ofNat n.toNat)) = _
      have e : UInt8.ofNat ((b.toNat : Int).toNat) = b := by simp
      rw [e, plainL_cons (Or.inl (fun c => h1 (by rw [c]; rfl))), ih]
theorem plain_escC (c : ByteArray) : plainB (strOfNums (escC c)) = c := by
  unfold plainB
  rw [strOfNums_data]
  unfold escC bytesOf
  rw [plain_escI]
theorem escI_nil {l : List Int} (h : escI l = []) : l = [] := by
  cases l with
  | nil => rfl
  | cons b l =>
    rw [escI_cons] at h
    unfold esc1 at h
    split at h <;> simp at h
theorem elS_joinE {e : List ByteArray} (h : badE e = false) : elS (joinE e) = e := by
  cases e with
  | nil => rfl
  | cons c es =>
    have hne : joinE (c :: es) ≠ [] := by
      intro hn
      have hn' : escI (bytesOf c) ++ tailE es = [] := hn
      obtain ⟨h1, h2⟩ := List.append_eq_nil_iff.1 hn'
      cases es with
      | nil =>
        have h3 := escI_nil h1
        rw [badE_pos (by simp)] at h
        have h4 := of_decide_eq_false h
        refine h4 ?_
        unfold bytesOf at h3
        simpa using h3
      | cons d es => cases h2
    unfold elS
    rw [if_neg hne, split58_joinE, List.map_map]
    conv => rhs; rw [← List.map_id (c :: es)]
    refine List.map_congr_left (fun a _ => ?_)
    exact plain_escC a
theorem endsB_no {x : List (List ByteArray)} (h : endsB x = false) : ∀ e ∈ x, badE e = false := by
  induction x with
  | nil => intro e he; cases he
  | cons a x ih =>
    rw [endsB_cons] at h
    simp only [Bool.or_eq_false_iff] at h
    intro e he
    rcases List.mem_cons.1 he with rfl | he
    · exact h.2.1
    · exact ih h.2.2 e he
theorem read_enc {t : ByteArray} {x : List (List ByteArray)} (h : valid t x = 0) : readS (bytesOf t ++ bodyS x) = (t, x) := by
  obtain ⟨h1, h2, h3⟩ := valid_parts h
  have e : splitL 43 [] (bytesOf t ++ bodyS x) = bytesOf t :: x.map joinE := by
    have e1 := split_escI (sep := 43) (by decide) (by decide) (bytesOf t) [] (bodyS x)
    rw [tag_bytes h1, List.nil_append] at e1
    rw [e1, split43_bodyS]
  unfold readS
  rw [e]
  show (strOfNums (bytesOf t), (x.map joinE).map elS) = _
  rw [str_bytes, List.map_map]
  congr 1
  conv => rhs; rw [← List.map_id x]
  refine List.map_congr_left (fun a ha => ?_)
  exact elS_joinE (endsB_no h3 a ha)
/- Next and Decode. -/
abbrev NextT := ByteArray × List (List ByteArray) × Int × Int
/-- What Next answers, out of what a reading is. -/
def nextW (rdS : List Int → ByteArray × List (List ByteArray)) (b : List Int) : NextT := match scan b with
  | none => (⟨#[]⟩, [], 0, 5)
  | some n => if valid (rdS (b.take (n - 1))).1 (rdS (b.take (n - 1))).2 = 0 ∧ enc (rdS (b.take (n - 1))).1 (rdS (b.take (n - 1))).2 = b.take n then ((rdS (b.take (n - 1))).1, (rdS (b.take (n - 1))).2, (n : Int), 0) else (⟨#[]⟩, [], 0, 4)
/-- A reading that gives back what was encoded. -/
def Back (rdS : List Int → ByteArray × List (List ByteArray)) : Prop := ∀ t x, valid t x = 0 → rdS (bytesOf t ++ bodyS x) = (t, x)
theorem enc_take (t : ByteArray) (x : List (List ByteArray)) (r : List Int) : (enc t x ++ r).take ((enc t x).length - 1) = bytesOf t ++ bodyS x := by
  have e : enc t x = (bytesOf t ++ bodyS x) ++ [39] := by unfold enc; rw [List.append_assoc]
  rw [e, List.length_append, List.length_cons, List.length_nil, Nat.zero_add, Nat.add_sub_cancel, List.append_assoc, List.take_left']
  rfl
theorem next_enc {rdS : List Int → ByteArray × List (List ByteArray)} (hb : Back rdS) {t : ByteArray} {x : List (List ByteArray)} (h : valid t x = 0) (r : List Int) : nextW rdS (enc t x ++ r) = (t, x, ((enc t x).length : Int), 0) := by
  unfold nextW
  rw [scan_enc h]
  show (if _ then _ else _) = _
  rw [enc_take, hb t x h, if_pos ⟨h, by rw [List.take_left' rfl]⟩]
theorem next_same {r1 r2 : List Int → ByteArray × List (List ByteArray)} (h1 : Back r1) (h2 : Back r2) (b : List Int) : nextW r1 b = nextW r2 b := by
  have half : ∀ {r1 r2 : List Int → ByteArray × List (List ByteArray)}, Back r2 → ∀ n, valid (r1 (b.take (n - 1))).1 (r1 (b.take (n - 1))).2 = 0 → enc (r1 (b.take (n - 1))).1 (r1 (b.take (n - 1))).2 = b.take n → scan b = some n → nextW r2 b = ((r1 (b.take (n - 1))).1, (r1 (b.take (n - 1))).2, (n : Int), 0) := by
    intro r1 r2 h2 n hv he hs
    have := next_enc h2 hv (b.drop n)
    rw [he, List.take_append_drop] at this
    rw [this]
    have hl := (scan_le b.length b (Nat.le_refl _) n hs).2
    rw [List.length_take, Nat.min_eq_left hl]
  cases hs : scan b with
  | none => unfold nextW; rw [hs]
  | some n =>
    by_cases ha : valid (r1 (b.take (n - 1))).1 (r1 (b.take (n - 1))).2 = 0 ∧ enc (r1 (b.take (n - 1))).1 (r1 (b.take (n - 1))).2 = b.take n
    · rw [half (r1 := r1) h2 n ha.1 ha.2 hs, half (r1 := r1) h1 n ha.1 ha.2 hs]
    · by_cases hc : valid (r2 (b.take (n - 1))).1 (r2 (b.take (n - 1))).2 = 0 ∧ enc (r2 (b.take (n - 1))).1 (r2 (b.take (n - 1))).2 = b.take n
      · rw [half (r1 := r2) h1 n hc.1 hc.2 hs, half (r1 := r2) h2 n hc.1 hc.2 hs]
      · unfold nextW
        rw [hs]
        show (if _ then _ else _) = (if _ then _ else _)
        rw [if_neg ha, if_neg hc]
theorem back_readS : Back readS := fun t x h => read_enc h
theorem isB_take {l : List Int} (h : isB l) (n : Nat) : isB (l.take n) := fun b hb => h b (List.mem_of_mem_take hb)
theorem isB_drop {l : List Int} (h : isB l) (n : Nat) : isB (l.drop n) := fun b hb => h b (List.mem_of_mem_drop hb)
theorem str_data {a b : ByteArray} : a = b ↔ a.data.toList = b.data.toList := ⟨fun h => by rw [h], fun h => by cases a; cases b; congr 1; exact Array.ext' h⟩
theorem str_eq_iff {a b : List Int} (ha : isB a) (hb : isB b) : (strOfNums a).toList = (strOfNums b).toList ↔ a = b := by
  rw [ByteArray.toList_eq, ByteArray.toList_eq, ← str_data]
  exact ⟨str_inj ha hb, fun h => by rw [h]⟩
theorem next_ev (b : List Int) (hb : isB b) (hn : b.length ≤ 4000000000000) : Ev (fun k => segment_Next.f k b) (nextW readS b) := by
  unfold segment_Next.f
  obtain ⟨p, hp, he⟩ := length_ev b (by omega)
  refine ev_bind he ?_
  unfold scanR at hp
  rw [List.drop_zero] at hp
  unfold nextW
  cases hs : scan b with
  | none =>
    rw [hs] at hp
    have hp' : p.2 = false := hp
    rw [hp']
    exact ev_neg (by simp) (Ev.now _)
  | some n =>
    rw [hs] at hp
    have hp' : p = (((0 + n : Nat) : Int), true) := hp
    rw [Nat.zero_add] at hp'
    subst hp'
    have hl := scan_le b.length b (Nat.le_refl _) n hs
    show Ev _ (if _ then _ else _)
    refine ev_pos rfl ?_
    rw [w64 (by omega) (by omega)]
    refine ev_pos (by omega) (ev_pos (by omega) ?_)
    rw [show ((n : Int) - 1).toNat = n - 1 by omega]
    refine ev_bind (read_ev (b.take (n - 1)) (isB_take hb _) (by rw [List.length_take]; omega)) ?_
    have hf := read_fits (b.take (n - 1)) (by rw [List.length_take]; omega)
    refine ev_bind (validate_ev _ _ hf.1 hf.2.1) ?_
    by_cases hv : valid (readS (b.take (n - 1))).1 (readS (b.take (n - 1))).2 = 0
    · refine ev_pos hv (ev_bind (put_ev [] _ _ hf (by have := enc_len hv; simp only [List.length_nil]; omega)) ?_)
      refine ev_pos (by omega) (ev_pos (by omega) ?_)
      rw [List.nil_append, show ((n : Int)).toNat = n by omega]
      by_cases hq : enc (readS (b.take (n - 1))).1 (readS (b.take (n - 1))).2 = b.take n
      · refine ev_eq (ev_pos ((str_eq_iff (isB_enc _ _) (isB_take hb _)).2 hq) (Ev.now _)) ?_
        rw [if_pos ⟨hv, hq⟩]
      · refine ev_eq (ev_neg (fun h => hq ((str_eq_iff (isB_enc _ _) (isB_take hb _)).1 h)) (Ev.now _)) ?_
        rw [if_neg (fun h => hq h.2)]
    · refine ev_eq (ev_neg hv (Ev.now _)) ?_
      rw [if_neg (fun h => hv h.1)]
theorem next_pos {rdS : List Int → ByteArray × List (List ByteArray)} (b : List Int) (h : (nextW rdS b).2.2.2 = 0) : 1 ≤ (nextW rdS b).2.2.1 ∧ (nextW rdS b).2.2.1 ≤ b.length := by
  unfold nextW at h ⊢
  cases hs : scan b with
  | none => rw [hs] at h; cases h
  | some n =>
    rw [hs] at h
    have hl := scan_le b.length b (Nat.le_refl _) n hs
    revert h
    show (if _ then _ else _ : NextT).2.2.2 = 0 → 1 ≤ (if _ then _ else _ : NextT).2.2.1 ∧ (if _ then _ else _ : NextT).2.2.1 ≤ _
    split
    · intro _; exact ⟨by show (1 : Int) ≤ (n : Int); omega, by show (n : Int) ≤ _; omega⟩
    · intro h; cases h
/-- What Decode answers: m: so many rounds at most. -/
def decW (rdS : List Int → ByteArray × List (List ByteArray)) : Nat → List Int → List S24 → Int → List S24 × Int × Int
  | 0, _, acc, a => (acc, a, 0)
  | m + 1, b, acc, a => if b = [] then (acc, a, 0) else if (nextW rdS b).2.2.2 = 0 then decW rdS m (b.drop (nextW rdS b).2.2.1.toNat) (acc ++ [⟨(nextW rdS b).1, (nextW rdS b).2.1⟩]) (a + (nextW rdS b).2.2.1) else ([], a, (nextW rdS b).2.2.2)
theorem dec_same {r1 r2 : List Int → ByteArray × List (List ByteArray)} (h1 : Back r1) (h2 : Back r2) (m : Nat) : ∀ b acc a, decW r1 m b acc a = decW r2 m b acc a := by
  induction m with
  | zero => intro b acc a; rfl
  | succ m ih =>
    intro b acc a
    unfold decW
    rw [next_same h1 h2 b, ih]
theorem dec_enc {rdS : List Int → ByteArray × List (List ByteArray)} (hb : Back rdS) (l : List S24) : errL l = 0 → ∀ m acc a, (encL l).length ≤ m → decW rdS m (encL l) acc a = (acc ++ l, a + ((encL l).length : Int), 0) := by
  induction l with
  | nil =>
    intro _ m acc a _
    show decW rdS m [] acc a = (acc ++ [], a + ((0 : Nat) : Int), 0)
    rw [List.append_nil, show a + ((0 : Nat) : Int) = a by omega]
    cases m with
    | zero => rfl
    | succ m => unfold decW; rw [if_pos rfl]
  | cons s l ih =>
    intro he m acc a hm
    have hv : valid s.f0 s.f1 = 0 := by
      unfold errL at he
      split at he
      · assumption
      · exact he
    have he' : errL l = 0 := by
      unfold errL at he
      rw [if_pos hv] at he
      exact he
    have ec : encL (s :: l) = enc s.f0 s.f1 ++ encL l := by unfold encL; rw [List.flatMap_cons]
    have hpos : 1 ≤ (enc s.f0 s.f1).length := by unfold enc; simp only [List.length_append, List.length_cons]; omega
    rw [ec] at hm ⊢
    rw [List.length_append] at hm
    cases m with
    | zero => omega
    | succ m =>
      unfold decW
      rw [if_neg (by intro c; have := congrArg List.length c; rw [List.length_append, List.length_nil] at this; omega), next_enc hb hv, if_pos rfl]
      show decW rdS m ((enc s.f0 s.f1 ++ encL l).drop ((enc s.f0 s.f1).length : Int).toNat) (acc ++ [s]) (a + ((enc s.f0 s.f1).length : Int)) = _
      have hm' : (encL l).length ≤ m := by omega
      rw [show (((enc s.f0 s.f1).length : Nat) : Int).toNat = (enc s.f0 s.f1).length by omega, List.drop_left' rfl, ih he' m _ _ hm', List.append_assoc, List.length_append]
      refine Prod.ext rfl (Prod.ext ?_ rfl)
      show a + ((enc s.f0 s.f1).length : Int) + ((encL l).length : Int) = a + (((enc s.f0 s.f1).length + (encL l).length : Nat) : Int)
      omega
theorem decode_l (b : List Int) (hb : isB b) (hn : b.length ≤ 2000000000000) (m : Nat) : ∀ (i : Nat) (acc : List S24), i ≤ b.length → b.length ≤ i + m → acc.length ≤ i →
    Ev (fun k => segment_Decode.l0 k b acc (i : Int)) (decW readS m (b.drop i) acc (i : Int)) := by
  induction m with
  | zero =>
    intro i acc h h2 h3
    unfold decW
    exact Ev.step (fun k => by rw [segment_Decode.l0]) (ev_neg (by omega) (Ev.now _))
  | succ m ih =>
    intro i acc h h2 h3
    unfold decW
    by_cases hi : i < b.length
    · rw [if_neg (by intro c; have := congrArg List.length c; rw [List.length_drop] at this; simp at this; omega)]
      refine Ev.step (fun k => by rw [segment_Decode.l0]) (ev_pos (by omega) (ev_pos (by omega) (ev_pos (by omega) ?_)))
      rw [show ((i : Int)).toNat = i by omega]
      refine ev_bind (next_ev (b.drop i) (isB_drop hb _) (by rw [List.length_drop]; omega)) ?_
      refine ev_ite2 (fun he => ?_) (fun he => ?_)
      · rw [if_pos he]
        have hp := next_pos (b.drop i) he
        rw [List.length_drop] at hp
        refine ev_pos (by omega) ?_
        obtain ⟨n, hn'⟩ : ∃ n : Nat, (nextW readS (b.drop i)).2.2.1 = (n : Int) := ⟨(nextW readS (b.drop i)).2.2.1.toNat, by omega⟩
        rw [hn'] at hp ⊢
        rw [w64 (by omega) (by omega), List.drop_drop]
        exact ih (i + n) _ (by omega) (by omega) (by rw [List.length_append, List.length_cons, List.length_nil]; omega)
      · rw [if_neg he]
        exact Ev.now _
    · rw [if_pos (List.drop_of_length_le (by omega))]
      exact Ev.step (fun k => by rw [segment_Decode.l0]) (ev_neg (by omega) (Ev.now _))
theorem decode_ev (b : List Int) (hb : isB b) (hn : b.length ≤ 2000000000000) : Ev (fun k => segment_Decode.f k b) (decW readS b.length b [] 0) := by
  have := decode_l b hb hn b.length 0 [] (by omega) (by omega) (by simp)
  rw [List.drop_zero] at this
  exact this
end Go.Proofs.Ythdahpnjiighfaa.D
