/- What is proved: SegmentDecode's plain function answers true for every list of bytes. Conditions: none but those of its text (lengths of a slice in memory, numbers that are bytes). -/
import Derived.Test.YthdahpnjiighfaaSegD
import Derived.Test.YthdahpnjiighfaaF24 -- customslaw06_SegmentDecode
namespace Go.Proofs.Ythdahpnjiighfaa.Pure
open Go.RowKit Go.Proofs.Ythdahpnjiighfaa.F Go.Proofs.Ythdahpnjiighfaa.D Go.Proofs.YthdahpnjiighfaaW.PrintWords Go.Proofs.YthdahpnjiighfaaW.PrintLast Go.Proofs.YthdahpnjiighfaaW.PrintMore
theorem isB_wf {l : List Int} (h : ∀ x ∈ l, (Lit.int .u8 x).wf = true) : isB l := fun b hb => by
  have h1 : (decide (IntKind.u8.min ≤ b) && decide (b ≤ IntKind.u8.max)) = true := h b hb
  rw [show IntKind.u8.min = 0 from by decide, show IntKind.u8.max = 255 from by decide, Bool.and_eq_true] at h1
  exact ⟨of_decide_eq_true h1.1, of_decide_eq_true h1.2⟩
theorem fits_one {rdS : List Int → ByteArray × List (List ByteArray)} (b : List Int) : fitsL [⟨(nextW rdS b).1, (nextW rdS b).2.1⟩] := fun s hs => by
  rw [List.mem_singleton.1 hs]
  exact next_fits b
/-- The law's body, behind the cut of what is too long. -/
theorem decode_body (b : List Int) (hb : isB b) (hn : b.length ≤ 1000000) : Ev (fun k => (segment_Decode.f k b).bind fun bt332 => ((customsref06_Decode.f k b).bind fun bt337 => (if bt332.2.1 = bt337.2.1 then (if bt332.2.2 = bt337.2.2 then ((customsref06_SameSegments.f k bt332.1 bt337.1).bind fun t342 => (if t342 = true then ((segment_Next.f k b).bind fun bt343 => ((customsref06_Next.f k b).bind fun bt350 => (if bt343.2.2.1 = bt350.2.2.1 then (if bt343.2.2.2 = bt350.2.2.2 then ((customsref06_SameSegments.f k (([(⟨bt343.1, bt343.2.1⟩ : S24)] : List (S24))) (([(⟨bt350.1, bt350.2.1⟩ : S24)] : List (S24)))).bind fun t363 => (if t363 = true then ((segment_Encode.f k bt332.1).bind fun bt364 => (if bt332.2.2 = 0 then (if bt364.2 = 0 then (if (strOfNums bt364.1).toList = (strOfNums b).toList then ((customslaw06_awake.f k).bind fun t368 => (some t368)) else (some false)) else (some false)) else ((customslaw06_awake.f k).bind fun t369 => (some t369)))) else (some false))) else (some false)) else (some false)))) else (some false))) else (some false)) else (some false)))) true := by
  have hd := dec_fits b
  refine ev_bind (decode_ev b hb (by omega)) (ev_bind (refDecode_ev b hb (by omega)) (ev_pos rfl (ev_pos rfl ?_)))
  refine ev_bind (same_yes _ (errL_fits hd.1) (by omega)) (ev_pos rfl ?_)
  refine ev_bind (next_ev b hb (by omega)) (ev_bind (refNext_same b hb (by omega)) (ev_pos rfl (ev_pos rfl ?_)))
  refine ev_bind (same_yes _ (fits_one b) (by simp)) (ev_pos rfl ?_)
  have hk := dec_back (rdS := readS) b.length b [] 0 (Nat.le_refl _)
  by_cases he : (decW readS b.length b [] 0).2.2 = 0
  · obtain ⟨l, h1, h2, h3, h4⟩ := hk.1 he
    rw [List.nil_append] at h1
    rw [h1]
    refine ev_bind (encode_ev l (errL_fits h2) (by omega)) ?_
    rw [encR_ok h2, h3]
    exact ev_pos he (ev_pos rfl (ev_pos rfl (ev_bind awake_ev (Ev.now _))))
  · rw [hk.2 he]
    refine ev_bind (encode_ev [] (fun s hs => by cases hs) (by simp)) (ev_neg he (ev_bind awake_ev (Ev.now _)))
theorem decode_law (l0 : List Int) (h : isB l0) : Ev (fun k => customslaw06_SegmentDecode.f k l0) true := by
  unfold customslaw06_SegmentDecode.f
  refine ev_ite2 (fun hl => ev_pos (by omega) ?_) (fun hl => decode_body l0 h (by omega))
  exact decode_body (l0.take 2000) (isB_take h _) (by rw [List.length_take]; omega)
theorem SegmentDecode : customslaw06_SegmentDecode.Pure := by
  intro l0 _ _ h
  exact (decode_law l0 (isB_wf h)).imp fun k h => h k (Nat.le_refl k)
end Go.Proofs.Ythdahpnjiighfaa.Pure
