/- What is proved: the plain functions of SegmentValidate and SegmentEncode answer true for all arguments. Conditions: the lengths of slices and texts in memory. -/
import Derived.Test.YthdahpnjiighfaaSegM
import Derived.Test.YthdahpnjiighfaaSegA
import Derived.Test.YthdahpnjiighfaaF12 -- customslaw06_SegmentValidate
import Derived.Test.YthdahpnjiighfaaF18 -- customslaw06_SegmentEncode
namespace Go.Proofs.Ythdahpnjiighfaa.Pure
open Go.RowKit Go.Proofs.Ythdahpnjiighfaa.F Go.Proofs.Ythdahpnjiighfaa.D Go.Proofs.YthdahpnjiighfaaW.PrintWords Go.Proofs.YthdahpnjiighfaaW.PrintLast Go.Proofs.YthdahpnjiighfaaW.PrintMore
theorem validate_law (a : ByteArray) (x : List (List ByteArray)) (hf : fits x) : Ev (fun k => customslaw06_SegmentValidate.f k a x) true := by
  unfold customslaw06_SegmentValidate.f
  exact ev_bind (validate_ev a x hf.1 hf.2.1) (ev_bind (refSegment_ev a x hf.1 hf.2.1) (ev_pos rfl (ev_bind awake_ev (Ev.now _))))
theorem fitsL_append {l m : List S24} (h : fitsL l) (k : fitsL m) : fitsL (l ++ m) := fun s hs => by
  rcases List.mem_append.1 hs with hs | hs
  · exact h s hs
  · exact k s hs
theorem encode_law (l : List Int) (a : ByteArray) (x : List (List ByteArray)) (c : Int) (hf : fits x) : Ev (fun k => customslaw06_SegmentEncode.f k l a x c) true := by
  unfold customslaw06_SegmentEncode.f
  obtain ⟨s, ⟨hs, he⟩, h⟩ := segments_ev l
  refine ev_bind h (ev_bind (encode_ev s (errL_fits he) (by omega)) (ev_bind (refEncode_ev s (errL_fits he) (by omega)) (ev_pos rfl (ev_pos rfl ?_))))
  rw [encR_ok he]
  refine Ev.step (fun k => by rw [customslaw06_SegmentEncode.j0]) (ev_neg (by simp) ?_)
  rw [w64 (by omega) (by omega)]
  obtain ⟨v, e, v0, v1⟩ := within_ev c ((s.length : Int) + 1) (by omega) (by omega)
  refine ev_bind (ev_const e) (ev_let (ev_pos v0 (ev_pos (by omega) (ev_let ?_))))
  refine ev_pos (by simp; omega) (ev_let (ev_let ?_))
  refine ev_pos (by simp; omega) (ev_let (ev_let ?_))
  refine ev_pos (by simp; omega) (ev_let ?_)
  have hft : fitsL (([] ++ s.take v.toNat) ++ [(⟨a, x⟩ : S24)] ++ s.drop v.toNat) := by
    have hfs := errL_fits he
    refine fitsL_append (fitsL_append (fitsL_append (fun s hs => by cases hs) (fun t ht => hfs t (List.mem_of_mem_take ht))) (fun t ht => ?_)) (fun t ht => hfs t (List.mem_of_mem_drop ht))
    rw [List.mem_singleton.1 ht]
    exact hf
  refine ev_bind (encode_ev _ hft (by simp; omega)) (ev_bind (refEncode_ev _ hft (by simp; omega)) (ev_pos rfl (ev_pos rfl (ev_bind awake_ev (Ev.now _)))))
theorem SegmentValidate (a : ByteArray) (x : List (List ByteArray)) (hf : fits x) : ∃ k, customslaw06_SegmentValidate.f k a x = some true := (validate_law a x hf).imp fun k h => h k (Nat.le_refl k)
theorem SegmentEncode (l : List Int) (a : ByteArray) (x : List (List ByteArray)) (c : Int) (hf : fits x) : ∃ k, customslaw06_SegmentEncode.f k l a x c = some true := (encode_law l a x c hf).imp fun k h => h k (Nat.le_refl k)
end Go.Proofs.Ythdahpnjiighfaa.Pure
