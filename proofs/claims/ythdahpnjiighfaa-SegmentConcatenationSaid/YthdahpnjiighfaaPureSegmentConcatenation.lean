/- What is proved: SegmentConcatenation's plain function answers true for all arguments. Conditions: none but those of its text (lengths of a slice in memory, numbers that are bytes). -/
import Derived.Test.YthdahpnjiighfaaSegM
import Derived.Test.YthdahpnjiighfaaSegA
import Derived.Test.YthdahpnjiighfaaF26 -- customslaw06_SegmentConcatenation
namespace Go.Proofs.Ythdahpnjiighfaa.Pure
open Go.RowKit Go.Proofs.Ythdahpnjiighfaa.F Go.Proofs.Ythdahpnjiighfaa.D Go.Proofs.YthdahpnjiighfaaW.PrintWords Go.Proofs.YthdahpnjiighfaaW.PrintLast Go.Proofs.YthdahpnjiighfaaW.PrintMore
theorem concat_wf {l : List Int} (h : ∀ x ∈ l, (Lit.int .u8 x).wf = true) : isB l := fun b hb => by
  have h1 : (decide (IntKind.u8.min ≤ b) && decide (b ≤ IntKind.u8.max)) = true := h b hb
  rw [show IntKind.u8.min = 0 from by decide, show IntKind.u8.max = 255 from by decide, Bool.and_eq_true] at h1
  exact ⟨of_decide_eq_true h1.1, of_decide_eq_true h1.2⟩
theorem str_append (a b : List Int) : strOfNums a ++ strOfNums b = strOfNums (a ++ b) := by
  rw [str_data]
  have e : (strOfNums a ++ strOfNums b).data.toList = (strOfNums a).data.toList ++ (strOfNums b).data.toList := by
    simp [ByteArray.data_append]
  rw [e, strOfNums_data, strOfNums_data, strOfNums_data, List.map_append]
theorem concat_body (l0 l1 m : List Int) (hm : isB m) (hn : m.length ≤ 1000000) : Ev (fun k => (customsmade_Segments.f k l0).bind fun t595 => ((customsmade_Segments.f k l1).bind fun t598 => ((segment_Encode.f k t595).bind fun bt601 => ((segment_Encode.f k t598).bind fun bt605 => ((some (([] : List (S24)) : List (S24))).bind fun y609 => (if y609.length + t595.length < 3518437208883 then ((some (y609 ++ t595 : List (S24))).bind fun y612 => (if y612.length + t598.length < 3518437208883 then ((segment_Encode.f k (y612 ++ t598)).bind fun bt618 => (if bt601.2 = 0 then (if bt605.2 = 0 then (if bt618.2 = 0 then (if (strOfNums bt601.1).size + ((strOfNums bt605.1).size) ≤ 9223372036854775807 then (if (strOfNums bt618.1).toList = ((strOfNums bt601.1) ++ (strOfNums bt605.1)).toList then (if (t595.length : Int) = 0 then ((customslaw06_awake.f k).bind fun t622 => (some t622)) else ((some (([] : List Int) : List Int)).bind fun y623 => (if y623.length + bt601.1.length < 140737488355328 then ((some (y623 ++ bt601.1 : List Int)).bind fun y626 => (if y626.length + m.length < 140737488355328 then ((segment_Next.f k (y626 ++ m)).bind fun bt632 => ((segment_Next.f k bt601.1).bind fun bt639 => (if bt632.2.2.1 = bt639.2.2.1 then (if bt632.2.2.2 = 0 then (if bt639.2.2.2 = 0 then ((customsref06_SameSegments.f k (([(⟨bt632.1, bt632.2.1⟩ : S24)] : List (S24))) (([(⟨bt639.1, bt639.2.1⟩ : S24)] : List (S24)))).bind fun t652 => (if t652 = true then ((customslaw06_awake.f k).bind fun t653 => (some t653)) else (some false))) else (some false)) else (some false)) else (some false)))) else (none))) else (none)))) else (some false)) else (none)) else (some false)) else (some false)) else (some false))) else (none))) else (none))))))) true := by
  obtain ⟨s, ⟨hs, he⟩, h1⟩ := segments_ev l0
  obtain ⟨t, ⟨ht, hf⟩, h2⟩ := segments_ev l1
  have hls := encL_len he
  have hlt := encL_len hf
  refine ev_bind h1 (ev_bind h2 (ev_bind (encode_ev s (errL_fits he) (by omega)) (ev_bind (encode_ev t (errL_fits hf) (by omega)) (ev_let ?_))))
  rw [encR_ok he, encR_ok hf]
  have hst : errL (s ++ t) = 0 := all_errL fun a ha => by
    rcases List.mem_append.1 ha with ha | ha
    · exact errL_all he a ha
    · exact errL_all hf a ha
  have est : encL (s ++ t) = encL s ++ encL t := by unfold encL; rw [List.flatMap_append]
  refine ev_pos (by simp; omega) (ev_let (ev_pos (by simp; omega) ?_))
  rw [List.nil_append]
  refine ev_bind (encode_ev (s ++ t) (errL_fits hst) (by rw [List.length_append]; omega)) ?_
  rw [encR_ok hst, est]
  refine ev_pos rfl (ev_pos rfl (ev_pos rfl (ev_pos (by simp only [strOfNums_size]; omega) (ev_pos (by rw [str_append]) ?_))))
  cases s with
  | nil => exact ev_pos rfl (ev_bind awake_ev (Ev.now _))
  | cons a s =>
    have hv := errL_all he a List.mem_cons_self
    have e3 : encL (a :: s) = enc a.f0 a.f1 ++ encL s := by unfold encL; rw [List.flatMap_cons]
    refine ev_neg (by rw [List.length_cons]; omega) (ev_let (ev_pos (by simp; omega) (ev_let (ev_pos (by simp; omega) ?_))))
    rw [List.nil_append]
    refine ev_bind (next_ev (encL (a :: s) ++ m) (isB_append (isB_encL _) hm) (by rw [List.length_append]; omega)) (ev_bind (next_ev (encL (a :: s)) (isB_encL _) (by omega)) ?_)
    rw [e3, List.append_assoc, next_enc back_readS hv, next_enc back_readS hv]
    refine ev_pos rfl (ev_pos rfl (ev_pos rfl ?_))
    refine ev_bind (same_yes _ (fun b hb => ?_) (by simp)) (ev_pos rfl (ev_bind awake_ev (Ev.now _)))
    rw [List.mem_singleton.1 hb]
    exact valid_fits hv
theorem concat_law (l0 l1 l2 : List Int) (h : isB l2) : Ev (fun k => customslaw06_SegmentConcatenation.f k l0 l1 l2) true := by
  unfold customslaw06_SegmentConcatenation.f
  refine ev_ite2 (fun hl => ev_pos (by omega) ?_) (fun hl => concat_body l0 l1 l2 h (by omega))
  exact concat_body l0 l1 (l2.take 200) (isB_take h _) (by rw [List.length_take]; omega)
theorem SegmentConcatenation : customslaw06_SegmentConcatenation.Pure := by
  intro l0 l1 l2 _ _ _ _ _ _ _ _ h
  exact (concat_law l0 l1 l2 (concat_wf h)).imp fun k h => h k (Nat.le_refl k)
end Go.Proofs.Ythdahpnjiighfaa.Pure
