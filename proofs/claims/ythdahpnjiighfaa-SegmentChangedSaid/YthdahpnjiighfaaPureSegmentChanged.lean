/- What is proved: SegmentChanged's plain function answers true for all arguments. Conditions: none but those of its text (lengths of a slice in memory, numbers that are bytes). -/
import Derived.Test.YthdahpnjiighfaaSegM
import Derived.Test.YthdahpnjiighfaaSegD
import Derived.Test.YthdahpnjiighfaaF25 -- customslaw06_SegmentChanged
namespace Go.Proofs.Ythdahpnjiighfaa.Pure
open Go.RowKit Go.Proofs.Ythdahpnjiighfaa.F Go.Proofs.Ythdahpnjiighfaa.D Go.Proofs.YthdahpnjiighfaaW.PrintWords Go.Proofs.YthdahpnjiighfaaW.PrintLast Go.Proofs.YthdahpnjiighfaaW.PrintMore
theorem changed_wf {l : List Int} (h : ∀ x ∈ l, (Lit.int .u8 x).wf = true) : isB l := fun b hb => by
  have h1 : (decide (IntKind.u8.min ≤ b) && decide (b ≤ IntKind.u8.max)) = true := h b hb
  rw [show IntKind.u8.min = 0 from by decide, show IntKind.u8.max = 255 from by decide, Bool.and_eq_true] at h1
  exact ⟨of_decide_eq_true h1.1, of_decide_eq_true h1.2⟩
theorem changed_j2 (b : List Int) (hb : isB b) (hn : b.length ≤ 1000000000) : Ev (fun k => customslaw06_SegmentChanged.j2 k b) true := by
  have hd := dec_fits b
  refine Ev.step (fun k => by rw [customslaw06_SegmentChanged.j2]) (ev_bind (decode_ev b hb (by omega)) (ev_bind (refDecode_ev b hb (by omega)) (ev_pos rfl (ev_pos rfl ?_))))
  exact ev_bind (same_yes _ (errL_fits hd.1) (by omega)) (ev_pos rfl (ev_bind awake_ev (Ev.now _)))
theorem changed_j1 (b : List Int) (hb : isB b) (hn : b.length ≤ 1000000000) (c : Int) : Ev (fun k => customslaw06_SegmentChanged.j1 k c b) true := by
  refine Ev.step (fun k => by rw [customslaw06_SegmentChanged.j1]) (ev_ite2 (fun _ => ?_) (fun _ => changed_j2 b hb hn))
  rw [w64 (by omega) (by omega)]
  obtain ⟨v, e, v0, v1⟩ := within_ev (c / 2) ((b.length : Int) + 1) (by omega) (by omega)
  refine ev_bind (ev_const e) (ev_pos v0 (ev_pos (by omega) ?_))
  exact changed_j2 _ (isB_take hb _) (by rw [List.length_take]; omega)
theorem isB_set {b : List Int} (h : isB b) (i : Nat) {x : Int} (hx : 0 ≤ x ∧ x ≤ 255) : isB (b.set i x) := fun y hy => by
  rcases List.mem_or_eq_of_mem_set hy with hy | rfl
  · exact h y hy
  · exact hx
theorem changed_l0 (x1 x2 : List Int) (h2 : isB x2) (c : Int) (d : Nat) : ∀ (i : Nat) (b : List Int), i + d = 3 → isB b → b.length ≤ 1000000000 → Ev (fun k => customslaw06_SegmentChanged.l0 k x1 x2 c b (i : Int)) true := by
  induction d with
  | zero =>
    intro i b hi hb hn
    exact Ev.step (fun k => by rw [customslaw06_SegmentChanged.l0]) (ev_ite2 (fun _ => ev_ite2 (fun _ => ev_neg (by omega) (changed_j1 b hb hn c)) (fun _ => changed_j1 b hb hn c)) (fun _ => changed_j1 b hb hn c))
  | succ d ih =>
    intro i b hi hb hn
    refine Ev.step (fun k => by rw [customslaw06_SegmentChanged.l0]) (ev_ite2 (fun hi1 => ev_ite2 (fun hi2 => ev_pos (by omega) (ev_ite2 (fun h0 => ev_pos (by omega) ?_) (fun _ => changed_j1 b hb hn c))) (fun _ => changed_j1 b hb hn c)) (fun _ => changed_j1 b hb hn c))
    obtain ⟨v, e, v0, v1⟩ := within_ev (rd x1 i) (b.length : Int) (by omega) (by omega)
    refine ev_bind (ev_const e) (ev_pos v0 (ev_pos v1 ?_))
    rw [w64 (by omega) (by omega)]
    refine ih (i + 1) _ (by omega) (isB_set hb _ ?_) (by rw [List.length_set]; exact hn)
    rw [rd_get x2 i (by omega)]
    exact h2 _ (List.getElem_mem _)
theorem changed_law (l0 l1 l2 : List Int) (a3 : Int) (h : isB l2) : Ev (fun k => customslaw06_SegmentChanged.f k l0 l1 l2 a3) true := by
  unfold customslaw06_SegmentChanged.f
  obtain ⟨s, ⟨hs, he⟩, hk⟩ := segments_ev l0
  have hl := encL_len he
  refine ev_bind hk (ev_bind (refEncode_ev s (errL_fits he) (by omega)) ?_)
  rw [encR_ok he]
  exact changed_l0 l1 l2 h a3 3 0 (encL s) (by omega) (isB_encL s) (by omega)
theorem SegmentChanged : customslaw06_SegmentChanged.Pure := by
  intro l0 l1 l2 a3 _ _ _ _ _ _ _ _ h _
  exact (changed_law l0 l1 l2 a3 (changed_wf h)).imp fun k h => h k (Nat.le_refl k)
end Go.Proofs.Ythdahpnjiighfaa.Pure
