/- Layer 6 in plain words: the made segments. -/
import Derived.Test.YthdahpnjiighfaaSegA
import Derived.Test.YthdahpnjiighfaaF12 -- customsmade_Source_Left
import Derived.Test.YthdahpnjiighfaaF13 -- customsmade_Source_Next
import Derived.Test.YthdahpnjiighfaaF13 -- customsmade_Source_text
import Derived.Test.YthdahpnjiighfaaF14 -- customsmade_Segments
namespace Go.Proofs.Ythdahpnjiighfaa.D
set_option linter.unusedVariables false
set_option linter.unusedSimpArgs false
open Go.RowKit Go.Proofs.YthdahpnjiighfaaW.PrintWords Go.Proofs.YthdahpnjiighfaaW.PrintMore Go.Proofs.Ythdahpnjiighfaa.F
/- The made segments. -/
theorem within_ev (a n : Int) (h0 : 1 ≤ n) (h1 : n ≤ 1000000000000000) : ∃ v, customsmade_Within.f a n = some v ∧ 0 ≤ v ∧ v < n := by
  unfold customsmade_Within.f
  rw [if_neg (by omega)]
  have h2 : -n < Int.tmod a n ∧ Int.tmod a n < n := by
    have := Int.tmod_lt_of_pos a (show 0 < n by omega)
    have h3 := Int.tmod_lt_of_pos (-a) (show 0 < n by omega)
    rw [Int.neg_tmod] at h3
    omega
  rw [w64 (by omega) (by omega), tmod_pos (by omega)]
  exact ⟨_, rfl, Int.emod_nonneg _ (by omega), Int.emod_lt_of_pos _ (by omega)⟩
theorem src_next (xs : List Int) (hl : xs.length ≤ 1000000000000) (n : Int) (h0 : 1 ≤ n) (h1 : n ≤ 1000000000000000) (p : Nat) (hp : p ≤ xs.length) :
    ∃ (v : Int) (q : Nat), customsmade_Source_Next.f xs (p : Int) n = some (v, (q : Int)) ∧ q ≤ xs.length ∧ 0 ≤ v ∧ v < n := by
  unfold customsmade_Source_Next.f
  by_cases h : p < xs.length
  · rw [if_neg (by omega), w64 (x := (p : Int) + 1) (by omega) (by omega), w64 (by omega) (by omega), if_pos (by omega), if_pos (by omega)]
    obtain ⟨v, e, v0, v1⟩ := within_ev (rd xs ((p : Int) + 1 - 1)) n h0 h1
    rw [e]
    exact ⟨v, p + 1, rfl, by omega, v0, v1⟩
  · rw [if_pos (by omega)]
    exact ⟨0, p, rfl, hp, by omega, by omega⟩
theorem text_l (xs : List Int) (hl : xs.length ≤ 1000000000000) (n : Nat) (hn : n ≤ 1000) (d : Nat) : ∀ (i : Nat) (x : List Int) (p : Nat), x.length = n → i + d = n → p ≤ xs.length →
    ∃ (s : ByteArray) (q : Nat), Ev (fun k => customsmade_Source_text.l0 k x (i : Int) xs (p : Int)) (s, (q : Int)) ∧ q ≤ xs.length ∧ s.size = n := by
  induction d with
  | zero =>
    intro i x p hx hi hp
    exact ⟨strOfNums x, p, Ev.step (fun k => by rw [customsmade_Source_text.l0]) (ev_neg (by omega) (Ev.now _)), hp, by rw [strOfNums_size]; exact hx⟩
  | succ d ih =>
    intro i x p hx hi hp
    obtain ⟨v, q, e, hq, v0, v1⟩ := src_next xs hl 8 (by decide) (by decide) p hp
    obtain ⟨v', q', e', hq', v0', v1'⟩ := src_next xs hl 512 (by decide) (by decide) q hq
    by_cases hv : v' < 256
    · obtain ⟨s, z, he, hz, hs⟩ := ih (i + 1) ((x.set (i : Int).toNat (bt ⟨#[43, 58, 63, 39, 43, 58, 63, 39]⟩ v)).set (i : Int).toNat (v' % 256)) q' (by rw [List.length_set, List.length_set]; exact hx) (by omega) hq'
      refine ⟨s, z, Ev.step (fun k => by rw [customsmade_Source_text.l0]) (ev_pos (by omega) ?_), hz, hs⟩
      refine ev_bind (ev_const e) (ev_pos v0 (ev_pos v1 (ev_pos (by omega) (ev_let (ev_bind (ev_const e') (ev_pos hv ?_))))))
      rw [w64 (by omega) (by omega)]
      exact he
    · obtain ⟨s, z, he, hz, hs⟩ := ih (i + 1) (x.set (i : Int).toNat (bt ⟨#[43, 58, 63, 39, 43, 58, 63, 39]⟩ v)) q' (by rw [List.length_set]; exact hx) (by omega) hq'
      refine ⟨s, z, Ev.step (fun k => by rw [customsmade_Source_text.l0]) (ev_pos (by omega) ?_), hz, hs⟩
      refine ev_bind (ev_const e) (ev_pos v0 (ev_pos v1 (ev_pos (by omega) (ev_let (ev_bind (ev_const e') (ev_neg hv ?_))))))
      rw [w64 (by omega) (by omega)]
      exact he
theorem srcText_ev (xs : List Int) (hl : xs.length ≤ 1000000000000) (p : Nat) (hp : p ≤ xs.length) : ∃ (s : ByteArray) (q : Nat), Ev (fun k => customsmade_Source_text.f k xs (p : Int)) (s, (q : Int)) ∧ q ≤ xs.length ∧ s.size ≤ 4 := by
  obtain ⟨v, q, e, hq, v0, v1⟩ := src_next xs hl 5 (by decide) (by decide) p hp
  obtain ⟨s, z, he, hz, hs⟩ := text_l xs hl v.toNat (by omega) v.toNat 0 (List.replicate v.toNat 0) q (by rw [List.length_replicate]) (by omega) hq
  refine ⟨s, z, ?_, hz, by omega⟩
  unfold customsmade_Source_text.f
  refine ev_bind (ev_const e) (ev_pos v0 (ev_pos ?_ he))
  show v.toNat ≤ 281474976710656
  omega
/-- An element that the maker may put behind others. -/
def okE (e : List ByteArray) : Prop := e.length ≤ 100 ∧ (∀ c ∈ e, c.size ≤ 1000) ∧ badE e = false
theorem okE_long {e : List ByteArray} (h : okE e) : longE e = false := by
  unfold longE
  rw [Bool.or_eq_false_iff]
  refine ⟨by simpa using h.1, ?_⟩
  rw [List.any_eq_false]
  intro c hc
  simpa using h.2.1 c hc
theorem endsB_app {x : List (List ByteArray)} {e : List ByteArray} (hx : ∀ f ∈ x, badE f = false) (he : badE e = false) (hn : e ≠ []) : endsB (x ++ [e]) = false := by
  induction x with
  | nil => simp [endsB, he, hn]
  | cons a x ih =>
    rw [List.cons_append, endsB_cons, hx a List.mem_cons_self, ih (fun f hf => hx f (List.mem_cons_of_mem _ hf))]
    simp
theorem longB_all {x : List (List ByteArray)} (h : x.length ≤ 100) (k : ∀ e ∈ x, okE e) : longB x = false := by
  unfold longB
  rw [Bool.or_eq_false_iff]
  refine ⟨by simpa using h, ?_⟩
  rw [List.any_eq_false]
  intro e he
  simp [okE_long (k e he)]
/-- The elements so far; n more are to come. -/
def okX (x : List (List ByteArray)) (n : Nat) : Prop := x.length + n ≤ 3 ∧ (∀ e ∈ x, okE e) ∧ (n = 0 → endsB x = false)
theorem okX_step {x : List (List ByteArray)} {n : Nat} {e : List ByteArray} (h : okX x (n + 1)) (he : okE e) (hl : n = 0 → e ≠ []) : okX (x ++ [e]) n := by
  refine ⟨by have := h.1; rw [List.length_append, List.length_cons, List.length_nil]; omega, fun f hf => ?_, fun hn => ?_⟩
  · rcases List.mem_append.1 hf with hf | hf
    · exact h.2.1 f hf
    · rw [List.mem_singleton.1 hf]; exact he
  · exact endsB_app (fun f hf => (h.2.1 f hf).2.2) he.2.2 (hl hn)
theorem set_last (e : List ByteArray) (h : 0 < e.length) (c : ByteArray) (hc : c.data.toList ≠ []) : badE (e.set (e.length - 1) c) = false := by
  rw [badE_pos (by rw [List.length_set]; exact h)]
  refine decide_eq_false ?_
  rw [List.getLastD_eq_getLast?, List.getLast?_eq_getElem?, List.length_set, List.getElem?_set_self (by omega)]
  exact hc
theorem seg_l2 (xs : List Int) (hl : xs.length ≤ 1000000000000) (S : List S24) (n : Nat) (hn : n + 1 ≤ 3) (t : ByteArray) (x : List (List ByteArray)) (hx : okX x (n + 1)) (Q : List S24 → Prop)
    (K : ∀ (p : Nat), p ≤ xs.length → ∀ y, okX y n → ∃ r, Q r ∧ Ev (fun k => customsmade_Segments.l1 k S (n : Int) xs (p : Int) t y) r) (d : Nat) : ∀ (e : List ByteArray) (p : Nat), p ≤ xs.length → e.length + d ≤ 100 → (∀ c ∈ e, c.size ≤ 1000) →
    ∃ r, Q r ∧ Ev (fun k => customsmade_Segments.l2 k S ((n + 1 : Nat) : Int) e (d : Int) xs (p : Int) t x) r := by
  induction d with
  | zero =>
    intro e p hp he hc
    have main : ∀ b, b = decide (n = 0 ∧ e = []) → ∃ r, Q r ∧ Ev (fun k => customsmade_Segments.j4 k S ((n + 1 : Nat) : Int) e b xs (p : Int) t x) r := by
      intro b hb
      have key : ∃ y, okX y n ∧ ∀ r, Ev (fun k => customsmade_Segments.l1 k S (n : Int) xs (p : Int) t y) r → Ev (fun k => customsmade_Segments.j4 k S ((n + 1 : Nat) : Int) e b xs (p : Int) t x) r := by
        have hxl := hx.1
        by_cases h1 : n = 0 ∧ e = []
        · refine ⟨x ++ [[⟨#[120]⟩]], okX_step hx ⟨by decide, fun c hc => by rw [List.mem_singleton.1 hc]; decide, by decide⟩ (fun _ => by simp), fun r hr => ?_⟩
          refine Ev.step (fun k => by rw [customsmade_Segments.j4]) (ev_pos (by rw [hb]; simpa using h1) (ev_let ?_))
          refine ev_pos (by decide) (ev_pos (by decide +kernel) (ev_pos (by decide +kernel) (ev_neg (fun c => ?_) (ev_pos (by omega) ?_))))
          · rw [toList_nil] at c
            exact absurd c (by decide +kernel)
          · rw [w64 (x := ((n + 1 : Nat) : Int) - 1) (by omega) (by omega), show ((n + 1 : Nat) : Int) - 1 = (n : Int) by omega]
            exact hr
        · by_cases h0 : 0 < e.length
          · by_cases hlst : (e.getLastD ByteArray.empty).toList = ([] : List UInt8)
            · refine ⟨x ++ [e.set (e.length - 1) ⟨#[121]⟩], okX_step hx ⟨by rw [List.length_set]; omega, fun c hcm => ?_, set_last e h0 _ (by decide)⟩ (fun _ c => ?_), fun r hr => ?_⟩
              · rcases List.mem_or_eq_of_mem_set hcm with hcm | rfl
                · exact hc c hcm
                · decide
              · have := congrArg List.length c
                rw [List.length_set, List.length_nil] at this
                omega
              · refine Ev.step (fun k => by rw [customsmade_Segments.j4]) ?_
                rw [w64 (x := ((n + 1 : Nat) : Int) - 1) (by omega) (by omega), show ((n + 1 : Nat) : Int) - 1 = (n : Int) by omega, w64 (x := (e.length : Int) - 1) (by omega) (by omega), last_at e h0, show ((e.length : Int) - 1).toNat = e.length - 1 by omega]
                exact ev_neg (by rw [hb]; simpa using h1) (ev_pos (by omega) (ev_pos (by omega) (ev_pos (by omega) (ev_pos hlst (ev_pos (by omega) hr)))))
            · refine ⟨x ++ [e], okX_step hx ⟨by omega, hc, ?_⟩ (fun _ c => ?_), fun r hr => ?_⟩
              · rw [badE_pos h0]
                exact decide_eq_false (fun c => hlst ((toList_nil _).2 c))
              · rw [c] at h0; simp at h0
              · refine Ev.step (fun k => by rw [customsmade_Segments.j4]) ?_
                rw [w64 (x := ((n + 1 : Nat) : Int) - 1) (by omega) (by omega), show ((n + 1 : Nat) : Int) - 1 = (n : Int) by omega, w64 (x := (e.length : Int) - 1) (by omega) (by omega), last_at e h0]
                exact ev_neg (by rw [hb]; simpa using h1) (ev_pos (by omega) (ev_pos (by omega) (ev_pos (by omega) (ev_neg hlst (ev_pos (by omega) hr)))))
          · have hnil : e = [] := List.eq_nil_of_length_eq_zero (by omega)
            refine ⟨x ++ [e], okX_step hx ⟨by omega, hc, by rw [hnil]; rfl⟩ (fun h => absurd ⟨h, hnil⟩ h1), fun r hr => ?_⟩
            refine Ev.step (fun k => by rw [customsmade_Segments.j4]) (ev_neg (by rw [hb]; simpa using h1) (ev_neg (by omega) (ev_pos (by omega) ?_)))
            rw [w64 (x := ((n + 1 : Nat) : Int) - 1) (by omega) (by omega), show ((n + 1 : Nat) : Int) - 1 = (n : Int) by omega]
            exact hr
      obtain ⟨y, hy, hk⟩ := key
      obtain ⟨r, hQ, hr⟩ := K p hp y hy
      exact ⟨r, hQ, hk r hr⟩
    by_cases h1 : n = 0
    · obtain ⟨r, hQ, hr⟩ := main ((e.length : Int) == 0) (by subst h1; cases e with | nil => rfl | cons a l => simp; omega)
      exact ⟨r, hQ, Ev.step (fun k => by rw [customsmade_Segments.l2]) (ev_neg (by omega) (ev_pos (by omega) hr))⟩
    · obtain ⟨r, hQ, hr⟩ := main false (by simp [h1])
      exact ⟨r, hQ, Ev.step (fun k => by rw [customsmade_Segments.l2]) (ev_neg (by omega) (ev_neg (by omega) hr))⟩
  | succ d ih =>
    intro e p hp he hc
    obtain ⟨s, q, hs, hq, hz⟩ := srcText_ev xs hl p hp
    obtain ⟨r, hQ, hr⟩ := ih (e ++ [s]) q hq (by rw [List.length_append, List.length_cons, List.length_nil]; omega) (fun c hcm => by
      rcases List.mem_append.1 hcm with hcm | hcm
      · exact hc c hcm
      · rw [List.mem_singleton.1 hcm]; omega)
    refine ⟨r, hQ, Ev.step (fun k => by rw [customsmade_Segments.l2]) (ev_pos (by omega) (ev_bind hs ?_))⟩
    refine ev_pos (by omega) ?_
    rw [w64 (by omega) (by omega), show ((d + 1 : Nat) : Int) - 1 = (d : Int) by omega]
    exact hr
theorem seg_l1 (xs : List Int) (hl : xs.length ≤ 1000000000000) (S : List S24) (hS : S.length ≤ 100) (t : ByteArray) (ht : tagB t = true) (Q : List S24 → Prop)
    (K : ∀ (p : Nat), p ≤ xs.length → ∀ s, valid s.f0 s.f1 = 0 → ∃ r, Q r ∧ Ev (fun k => customsmade_Segments.l0 k (S ++ [s]) xs (p : Int)) r) (n : Nat) : ∀ (x : List (List ByteArray)) (p : Nat), p ≤ xs.length → okX x n →
    ∃ r, Q r ∧ Ev (fun k => customsmade_Segments.l1 k S (n : Int) xs (p : Int) t x) r := by
  induction n with
  | zero =>
    intro x p hp hx
    obtain ⟨r, hQ, hr⟩ := K p hp ⟨t, x⟩ (by
      unfold valid
      rw [if_pos ht, if_neg (by rw [longB_all (by have := hx.1; omega) hx.2.1]; simp), if_neg (by rw [hx.2.2 rfl]; simp)])
    exact ⟨r, hQ, Ev.step (fun k => by rw [customsmade_Segments.l1]) (ev_neg (by omega) (ev_pos (by omega) hr))⟩
  | succ n ih =>
    intro x p hp hx
    obtain ⟨v, q, e, hq, v0, v1⟩ := src_next xs hl 4 (by decide) (by decide) p hp
    have hx1 := hx.1
    obtain ⟨r, hQ, hr⟩ := seg_l2 xs hl S n (by omega) t x hx Q (fun p hp y hy => ih y p hp hy) v.toNat [] q hq (by rw [List.length_nil]; omega) (fun c hc => by cases hc)
    refine ⟨r, hQ, Ev.step (fun k => by rw [customsmade_Segments.l1]) (ev_pos (by omega) (ev_bind (ev_const e) ?_))⟩
    rw [show ((v.toNat : Nat) : Int) = v by omega] at hr
    exact hr
theorem seg_l0 (xs : List Int) (hl : xs.length ≤ 1000000000000) (d : Nat) : ∀ (S : List S24) (p : Nat), p ≤ xs.length → S.length + d = 12 → errL S = 0 →
    ∃ r, (r.length ≤ 12 ∧ errL r = 0) ∧ Ev (fun k => customsmade_Segments.l0 k S xs (p : Int)) r := by
  have stop : ∀ (S : List S24) (p : Nat), Ev (fun k => customsmade_Segments.j1 k S false xs (p : Int)) S := fun S p => Ev.step (fun k => by rw [customsmade_Segments.j1]) (ev_neg (by simp) (Ev.now _))
  have left : ∀ p : Nat, customsmade_Source_Left.f xs (p : Int) = some (decide ((p : Int) < (xs.length : Int)), (p : Int)) := fun p => rfl
  induction d with
  | zero =>
    intro S p hp hS he
    refine ⟨S, ⟨by omega, he⟩, Ev.step (fun k => by rw [customsmade_Segments.l0]) (ev_bind (ev_const (left p)) (ev_ite2 (fun _ => ?_) (fun _ => stop S p)))⟩
    rw [decide_eq_false (show ¬ (S.length : Int) < 12 by omega)]
    exact stop S p
  | succ d ih =>
    intro S p hp hS he
    by_cases hp2 : p < xs.length
    · obtain ⟨v, q, e, hq, v0, v1⟩ := src_next xs hl 4 (by decide) (by decide) p hp
      obtain ⟨v', q', e', hq', v0', v1'⟩ := src_next xs hl 4 (by decide) (by decide) q hq
      have ht : tagB (rdOf ByteArray.empty ([(⟨#[76, 79, 84]⟩ : ByteArray), (⟨#[71, 68, 83]⟩ : ByteArray), (⟨#[65, 48, 48]⟩ : ByteArray), (⟨#[69, 78, 68]⟩ : ByteArray)] : List ByteArray) v) = true := by
        have : v = 0 ∨ v = 1 ∨ v = 2 ∨ v = 3 := by omega
        rcases this with rfl | rfl | rfl | rfl <;> decide +kernel
      obtain ⟨r, hQ, hr⟩ := seg_l1 xs hl S (by omega) _ ht (fun r => r.length ≤ 12 ∧ errL r = 0) (fun p hp s hs => ih (S ++ [s]) p hp (by rw [List.length_append, List.length_cons, List.length_nil]; omega) (all_errL fun a ha => by
        rcases List.mem_append.1 ha with ha | ha
        · exact errL_all he a ha
        · rw [List.mem_singleton.1 ha]; exact hs)) v'.toNat [] q' hq' ⟨by rw [List.length_nil]; omega, ⟨fun e he => (by cases he), fun _ => rfl⟩⟩
      rw [show ((v'.toNat : Nat) : Int) = v' by omega] at hr
      refine ⟨r, hQ, Ev.step (fun k => by rw [customsmade_Segments.l0]) (ev_bind (ev_const (left p)) ?_)⟩
      refine ev_pos (decide_eq_true (by omega)) (Ev.step (fun k => by rw [customsmade_Segments.j1]) ?_)
      refine ev_pos (decide_eq_true (by omega)) (ev_let (ev_bind (ev_const e) ?_))
      exact ev_pos v0 (ev_pos v1 (ev_bind (ev_const e') hr))
    · refine ⟨S, ⟨by omega, he⟩, Ev.step (fun k => by rw [customsmade_Segments.l0]) (ev_bind (ev_const (left p)) ?_)⟩
      refine ev_neg (fun c => ?_) (stop S p)
      have c' := of_decide_eq_true c
      omega
theorem segments_ev (l : List Int) : ∃ s, (s.length ≤ 12 ∧ errL s = 0) ∧ Ev (fun k => customsmade_Segments.f k l) s :=
  seg_l0 (l.take 200) (by rw [List.length_take]; omega) 12 [] 0 (by omega) (by simp) rfl
end Go.Proofs.Ythdahpnjiighfaa.D
