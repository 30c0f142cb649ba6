/- math/bits.Mul64, as a plain function, and that the Go code comes to it. -/
import Derived.Test.YtheknmeeioajfaaDoorF0
import Derived.Test.YtheknmeeioajfaaDoorShelf
namespace Go.Proofs.YtheknmeeioajfaaDoor.F
open Go.RowKit Go.Proofs.YtheknmeeioajfaaDoorW.PrintWords
def bits_Mul64.f (a0 a1 : Int) : Option (Int × Int) := if 0 ≤ a0 ∧ a0 < 18446744073709551616 ∧ 0 ≤ a1 ∧ a1 < 18446744073709551616 then some (a0 * a1 / 18446744073709551616, a0 * a1 % 18446744073709551616) else none
theorem bits_Mul64.calls (a0 a1 : Int) (r1 r2 : Int) (w : World) (h : bits_Mul64.f a0 a1 = some (r1, r2)) :
    Calls Tryd.prog 37 #[.int .u64 a0, .int .u64 a1] w fun e w' => e = .returned (.tuple #[.int .u64 r1, .int .u64 r2]) ∧ Drawn0 w w' := by
  unfold bits_Mul64.f at h
  split at h
  · rename_i hb
    obtain ⟨x, rfl⟩ := Int.eq_ofNat_of_zero_le hb.1
    obtain ⟨y, rfl⟩ := Int.eq_ofNat_of_zero_le hb.2.2.1
    obtain ⟨rfl, rfl⟩ := Prod.mk.inj (Option.some.inj h)
    refine (Tryd.bits_Mul64 x y (by omega) (by omega) w).mono ?_
    rintro e w' ⟨rfl, rfl⟩
    exact ⟨by simp, Drawn0.refl _⟩
  · cases h
end Go.Proofs.YtheknmeeioajfaaDoor.F
