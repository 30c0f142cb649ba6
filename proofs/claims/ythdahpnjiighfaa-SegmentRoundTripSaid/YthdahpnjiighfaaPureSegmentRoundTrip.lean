/- What is proved: SegmentRoundTrip's plain function answers true for every list of numbers. Conditions: none but those of its text (lengths of a slice in memory). -/
import Derived.Test.YthdahpnjiighfaaSegL
import Derived.Test.YthdahpnjiighfaaF20 -- customslaw06_SegmentRoundTrip
namespace Go.Proofs.Ythdahpnjiighfaa.Pure
open Go.RowKit Go.Proofs.Ythdahpnjiighfaa.F Go.Proofs.Ythdahpnjiighfaa.D Go.Proofs.YthdahpnjiighfaaW.PrintWords Go.Proofs.YthdahpnjiighfaaW.PrintLast Go.Proofs.YthdahpnjiighfaaW.PrintMore
theorem roundTrip_ev (l0 : List Int) : Ev (fun k => customslaw06_SegmentRoundTrip.f k l0) true := by
  unfold customslaw06_SegmentRoundTrip.f
  obtain ⟨s, ⟨hs, he⟩, h⟩ := segments_ev l0
  have hf := errL_fits he
  have hl := encL_len he
  refine ev_bind h (ev_bind (encode_ev s hf (by omega)) ?_)
  rw [encR_ok he]
  refine ev_bind (decode_ev (encL s) (isB_encL s) (by omega)) ?_
  rw [dec_enc back_readS s he _ _ _ (Nat.le_refl _), List.nil_append, Int.zero_add]
  refine ev_pos rfl (ev_pos rfl (ev_pos rfl (ev_bind (same_yes s hf (by omega)) ?_)))
  refine Ev.step (fun k => by rw [customslaw06_SegmentRoundTrip.j0]) (ev_neg (by simp) ?_)
  refine ev_bind (next_ev (encL s) (isB_encL s) (by omega)) ?_
  cases s with
  | nil =>
    refine ev_pos rfl (ev_pos (by decide) (ev_bind awake_ev (Ev.now _)))
  | cons a s =>
    have hv := errL_all he a List.mem_cons_self
    have e1 : errL [a] = 0 := all_errL fun b hb => by rw [List.mem_singleton.1 hb]; exact hv
    have e2 : encL [a] = enc a.f0 a.f1 := by unfold encL; simp
    have e3 : encL (a :: s) = enc a.f0 a.f1 ++ encL s := by unfold encL; rw [List.flatMap_cons]
    rw [e3, next_enc back_readS hv]
    simp only [List.length_cons] at hs
    refine ev_neg (by rw [List.length_cons]; omega) (ev_pos (by rw [List.length_cons]; omega) ?_)
    show Ev (fun k => (segment_Encode.f k [a]).bind _) true
    refine ev_bind (encode_ev [a] (errL_fits e1) (by simp)) ?_
    rw [encR_ok e1, e2]
    refine ev_pos rfl (ev_pos rfl (ev_pos rfl ?_))
    refine ev_bind (same_yes [a] (errL_fits e1) (by simp)) (ev_pos rfl (ev_bind awake_ev (Ev.now _)))
theorem SegmentRoundTrip : customslaw06_SegmentRoundTrip.Pure := by
  intro l0 _ _ _
  exact (roundTrip_ev l0).imp fun k h => h k (Nat.le_refl k)
end Go.Proofs.Ythdahpnjiighfaa.Pure
