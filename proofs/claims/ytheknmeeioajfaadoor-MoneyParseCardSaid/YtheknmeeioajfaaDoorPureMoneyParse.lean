/- The law MoneyParse over numbers and texts alone: Parse and the reference's Parse answer alike, and what they accept is the text of the amount. -/
import Derived.Test.YtheknmeeioajfaaDoorMoneyAwake
import Derived.Test.YtheknmeeioajfaaDoorF19 -- customslaw02_MoneyParse
import Derived.Test.YtheknmeeioajfaaDoorF1 -- customslaw02_amount
namespace Go.Proofs.YtheknmeeioajfaaDoor.Pure
open Go.RowKit Go.Proofs.YtheknmeeioajfaaDoor.F Go.Proofs.YtheknmeeioajfaaDoor.D Go.Proofs.YtheknmeeioajfaaDoorW.PrintWords Go.Proofs.YtheknmeeioajfaaDoorW.PrintLast
theorem parse_j (s : ByteArray) (hs : s.size ≤ 140737488351232) (x i c : Int) : Ev (fun k => customslaw02_MoneyParse.j0 k s x i c) true := by
  refine Ev.step (fun k => by rw [customslaw02_MoneyParse.j0]) ?_
  rw [show customslaw02_amount.f x = some (Int.tmod x 1000000000001) from rfl]
  have ha : amt (Int.tmod x 1000000000001) := by
    have h1 := Int.tmod_lt_of_pos x (show (0 : Int) < 1000000000001 by omega)
    have h2 := Int.lt_tmod_of_pos x (show (0 : Int) < 1000000000001 by omega)
    unfold amt
    omega
  generalize Int.tmod x 1000000000001 = y at ha
  refine ev_let (ev_bind (format_ev y) (ev_let ?_))
  have hn : (bytesOf (fmtB y)).length = (fmt y).length := by rw [bytesOf_length, fmtB_size ha]
  have hl := fmt_len y ha
  rw [← hn] at hl
  generalize bytesOf (fmtB y) = b at hl
  refine ev_neg (by omega) ?_
  have h3 := Int.tmod_lt_of_pos i (show (0 : Int) < (b.length : Int) by omega)
  have h4 := Int.lt_tmod_of_pos i (show (0 : Int) < (b.length : Int) by omega)
  rw [w64 (by omega) (by omega)]
  generalize Int.tmod i (b.length : Int) = j at h3 h4
  rw [tmod_pos (show 0 ≤ j + (b.length : Int) by omega)]
  refine ev_pos (Int.emod_nonneg _ (by omega)) (ev_pos (Int.emod_lt_of_pos _ (by omega)) (ev_let ?_))
  generalize hz : b.set _ c = z
  have hzl : z.length = b.length := by rw [← hz, List.length_set]
  have hzs : (strOfNums z).size ≤ 140737488351232 := by rw [strOfNums_size]; omega
  obtain ⟨r, h5, k5⟩ := parse_ev _ hzs
  obtain ⟨r2, h6, k6⟩ := refParse_ev _ hzs
  obtain ⟨t, h7, k7⟩ := parse_ev _ hs
  obtain ⟨t2, h8, k8⟩ := refParse_ev _ hs
  obtain rfl := isParse_one k5 k6
  obtain rfl := isParse_one k7 k8
  refine ev_bind h5 (ev_bind h6 (ev_bind h7 (ev_bind h8 (ev_pos rfl (ev_pos rfl (ev_pos rfl (ev_pos rfl ?_)))))))
  have tail : Ev (fun k => (customslaw02_awake.f k).bind fun t229 => some t229) true := ev_bind awake_ev (Ev.now _)
  refine ev_ite (fun h0 => ?_) (fun _ => tail)
  rcases k5 with ⟨v, hv, ev, rfl⟩ | ⟨_, rfl⟩
  · exact ev_bind (format_ev v) (ev_pos (by rw [ev]) tail)
  · exact absurd h0 (by decide)
theorem MoneyParse : customslaw02_MoneyParse.Pure := by
  intro s x i c hs _ _ _
  refine Ev.rounds (g := fun k => customslaw02_MoneyParse.f k s x i c) ?_
  unfold customslaw02_MoneyParse.f
  refine ev_ite (fun h => ?_) (fun _ => parse_j s hs x i c)
  refine ev_pos (by omega) (ev_pos (by omega) (parse_j _ ?_ x i c))
  rw [ByteArray.size_extract]
  omega
end Go.Proofs.YtheknmeeioajfaaDoor.Pure
