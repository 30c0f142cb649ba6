/- The law MoneyScaleModes over numbers alone: Down and Up differ by at most 1, every mode answers one of both, the sign does not matter. -/
import Derived.Test.YtheknmeeioajfaaDoorScale
import Derived.Test.YtheknmeeioajfaaDoorMoneyAwake
import Derived.Test.YtheknmeeioajfaaDoorF12 -- customslaw02_MoneyScaleModes
import Derived.Test.YtheknmeeioajfaaDoorF1 -- customslaw02_amount
namespace Go.Proofs.YtheknmeeioajfaaDoor.Pure
set_option linter.unusedVariables false
open Go.RowKit Go.Proofs.YtheknmeeioajfaaDoor.F Go.Proofs.YtheknmeeioajfaaDoor.D Go.Proofs.YtheknmeeioajfaaDoorW.PrintWords Go.Proofs.YtheknmeeioajfaaDoorW.PrintLast Go.Proofs.YtheknmeeioajfaaDoorW.PrintMore
theorem and_three (x : Int) : 0 ≤ bits .and .i64 x 3 ∧ bits .and .i64 x 3 ≤ 3 := by
  have h : bits .and .i64 x 3 = IntKind.i64.wrap ((BitVec.ofInt 64 x &&& BitVec.ofInt 64 3).toNat : Int) := rfl
  have h2 : (BitVec.ofInt 64 x &&& BitVec.ofInt 64 3).toNat ≤ 3 := by
    rw [BitVec.toNat_and]
    exact Nat.and_le_right
  rw [h, IntKind.wrap_i64]
  omega
theorem tmod_six (x : Int) : -1000000 < Int.tmod x 1000000 ∧ Int.tmod x 1000000 < 1000000 :=
  ⟨Int.lt_tmod_of_pos x (by omega), Int.tmod_lt_of_pos x (by omega)⟩
theorem size_six (x : Int) : 0 ≤ mx (Int.tmod x 1000000) (wrap64 (-(Int.tmod x 1000000))) ∧ mx (Int.tmod x 1000000) (wrap64 (-(Int.tmod x 1000000))) < 1000000 := by
  have h := tmod_six x
  rw [w64 (by omega) (by omega)]
  unfold mx
  split <;> omega
theorem rnd_down (N c : Int) : rnd 0 N c = N / c := by
  unfold rnd D.up
  simp
theorem rnd_up (N c : Int) : rnd 1 N c = N / c + if N % c > 0 then 1 else 0 := by
  unfold rnd D.up
  simp
theorem rnd_one (m N c : Int) (hc : 0 < c) : rnd m N c = N / c ∨ (rnd m N c = N / c + 1 ∧ N % c > 0) := by
  have h0 := Int.emod_nonneg N (show c ≠ 0 by omega)
  unfold rnd
  by_cases h : D.up m (N / c) (N % c) c = true
  · right
    rw [if_pos h]
    refine ⟨rfl, ?_⟩
    unfold D.up at h
    split at h
    · exact of_decide_eq_true h
    · split at h
      · have := of_decide_eq_true h; omega
      · split at h
        · split at h
          · omega
          · split at h
            · omega
            · cases h
        · cases h
  · left
    rw [if_neg h, Int.add_zero]
theorem modes (a n d m : Int) (ha : -1000000 < a ∧ a < 1000000) (hn : 0 ≤ n ∧ n < 1000000) (hd : 1 ≤ d ∧ d ≤ 1000000) (hm : 0 ≤ m ∧ m ≤ 3) :
    ∃ x y z : Int, scaleS a n d 0 = (x, 0) ∧ scaleS a n d 1 = (y, 0) ∧ scaleS a n d m = (z, 0) ∧ scaleS (-a) n d m = (-z, 0) ∧ -1 ≤ x - y ∧ x - y ≤ 1 ∧ (z = x ∨ z = y) ∧ -1000000000000 ≤ x ∧ x ≤ 1000000000000 ∧ -1000000000000 ≤ y ∧ y ≤ 1000000000000 ∧ -1000000000000 ≤ z ∧ z ≤ 1000000000000 := by
  have hN0 : 0 ≤ (a.natAbs : Int) * n := Int.mul_nonneg (by omega) hn.1
  have hN1 : (a.natAbs : Int) * n ≤ 999999 * 999999 := by
    have h1 := Int.mul_le_mul_of_nonneg_right (show (a.natAbs : Int) ≤ 999999 by omega) hn.1
    omega
  have hs : ∀ (b m' : Int), b.natAbs = a.natAbs → 0 ≤ m' → m' ≤ 3 → scaleS b n d m' = (if b < 0 then -rnd m' ((a.natAbs : Int) * n) d else rnd m' ((a.natAbs : Int) * n) d, 0) := fun b m' hb h0 h3 => by
    have hr := (@rnd_ge m' ((a.natAbs : Int) * n) d).2
    have hq : (a.natAbs : Int) * n / d ≤ (a.natAbs : Int) * n := Int.ediv_le_self _ hN0
    unfold scaleS
    rw [if_pos ⟨by unfold amt; omega, hn.1, by omega, hd.1, by omega, h0, h3⟩, hb, if_neg (by omega)]
  have h0 := hs a 0 rfl (by omega) (by omega)
  have h1 := hs a 1 rfl (by omega) (by omega)
  have h2 := hs a m rfl hm.1 hm.2
  have h3 := hs (-a) m (by omega) hm.1 hm.2
  have e0 := rnd_down ((a.natAbs : Int) * n) d
  have e1 := rnd_up ((a.natAbs : Int) * n) d
  have e2 := rnd_one m ((a.natAbs : Int) * n) d (by omega)
  have hq : (a.natAbs : Int) * n / d ≤ (a.natAbs : Int) * n := Int.ediv_le_self _ hN0
  have hq0 : 0 ≤ (a.natAbs : Int) * n / d := Int.ediv_nonneg hN0 (by omega)
  have hz : a = 0 → rnd m ((a.natAbs : Int) * n) d = 0 := fun h => by
    subst h
    rw [show (((0 : Int).natAbs : Int) * n) = 0 by simp] at e2 ⊢
    rw [Int.zero_ediv, Int.zero_emod] at e2
    omega
  generalize rnd 0 ((a.natAbs : Int) * n) d = r0 at h0 e0
  generalize rnd 1 ((a.natAbs : Int) * n) d = r1 at h1 e1
  generalize rnd m ((a.natAbs : Int) * n) d = r2 at h2 h3 e2 hz
  refine ⟨_, _, _, h0, h1, h2, ?_, ?_⟩
  · rw [h3]
    congr 1
    by_cases ha0 : a < 0
    · rw [if_pos ha0, if_neg (by omega)]; omega
    · rw [if_neg ha0]
      split
      · rfl
      · have := hz (by omega); omega
  · by_cases ha0 : a < 0
    · simp only [if_pos ha0]
      split at e1 <;> omega
    · simp only [if_neg ha0]
      split at e1 <;> omega
theorem MoneyScaleModes : customslaw02_MoneyScaleModes.Pure := by
  intro a n d m _ _ _ _
  refine Ev.rounds (g := fun k => customslaw02_MoneyScaleModes.f k a n d m) ?_
  unfold customslaw02_MoneyScaleModes.f
  rw [show customslaw02_amount.f a = some (Int.tmod a 1000000000001) from rfl]
  refine ev_let ?_
  have h1 := tmod_six (Int.tmod a 1000000000001)
  have h2 := size_six n
  have h3 := size_six d
  have h4 := and_three m
  rw [w64 (x := 1 + mx (Int.tmod d 1000000) (wrap64 (-(Int.tmod d 1000000)))) (by omega) (by omega), w64 (x := -Int.tmod (Int.tmod a 1000000000001) 1000000) (by omega) (by omega)]
  obtain ⟨x, y, z, ex, ey, ez, ew, b1, b2, b3, b4, b5, b6, b7, b8, b9⟩ := modes (Int.tmod (Int.tmod a 1000000000001) 1000000) (mx (Int.tmod n 1000000) (wrap64 (-(Int.tmod n 1000000)))) (1 + mx (Int.tmod d 1000000) (wrap64 (-(Int.tmod d 1000000)))) (bits .and .i64 m 3) h1 h2 (by omega) h4
  have sx := scale_ev (Int.tmod (Int.tmod a 1000000000001) 1000000) (mx (Int.tmod n 1000000) (wrap64 (-(Int.tmod n 1000000)))) (1 + mx (Int.tmod d 1000000) (wrap64 (-(Int.tmod d 1000000)))) 0
  have sy := scale_ev (Int.tmod (Int.tmod a 1000000000001) 1000000) (mx (Int.tmod n 1000000) (wrap64 (-(Int.tmod n 1000000)))) (1 + mx (Int.tmod d 1000000) (wrap64 (-(Int.tmod d 1000000)))) 1
  have sz := scale_ev (Int.tmod (Int.tmod a 1000000000001) 1000000) (mx (Int.tmod n 1000000) (wrap64 (-(Int.tmod n 1000000)))) (1 + mx (Int.tmod d 1000000) (wrap64 (-(Int.tmod d 1000000)))) (bits .and .i64 m 3)
  have sw := scale_ev (-Int.tmod (Int.tmod a 1000000000001) 1000000) (mx (Int.tmod n 1000000) (wrap64 (-(Int.tmod n 1000000)))) (1 + mx (Int.tmod d 1000000) (wrap64 (-(Int.tmod d 1000000)))) (bits .and .i64 m 3)
  rw [ex] at sx
  rw [ey] at sy
  rw [ez] at sz
  rw [ew] at sw
  refine ev_bind sx (ev_bind sy (ev_bind sz (ev_bind sw (ev_pos rfl (ev_pos rfl (ev_pos rfl (ev_pos rfl (ev_pos ?_ ?_))))))))
  · show mx (wrap64 (x - y)) (wrap64 (y - x)) ≤ 1
    rw [w64 (by omega) (by omega), w64 (by omega) (by omega)]
    unfold mx
    split <;> omega
  · show Ev (fun k => if z = x then (if -z = wrap64 (-z) then ((customslaw02_awake.f k).bind fun t214 => (some t214)) else some false) else (if z = y then (if -z = wrap64 (-z) then ((customslaw02_awake.f k).bind fun t215 => (some t215)) else some false) else some false)) true
    rw [w64 (x := -z) (by omega) (by omega)]
    refine ev_ite (fun _ => ev_pos rfl (ev_bind awake_ev (Ev.now _))) (fun h => ev_pos (by omega) (ev_pos rfl (ev_bind awake_ev (Ev.now _))))
end Go.Proofs.YtheknmeeioajfaaDoor.Pure
