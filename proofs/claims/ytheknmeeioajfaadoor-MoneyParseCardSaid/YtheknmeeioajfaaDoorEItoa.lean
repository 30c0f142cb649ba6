/- strconv.Itoa, as a plain function, and that the Go code comes to it. -/
import Derived.Test.YtheknmeeioajfaaDoorShelf
import Derived.Test.YtheknmeeioajfaaDoorGl
import Derived.Lib.AppendIntMem
namespace Go.Proofs.YtheknmeeioajfaaDoor.F
open Go.RowKit
def strconv_Itoa.f (a0 : Int) : Option ByteArray := if -9223372036854775808 ≤ a0 ∧ a0 ≤ 9223372036854775807 then some ⟨(Lib.itoa a0).toArray⟩ else none
theorem strconv_Itoa.calls (a0 : Int) (r : ByteArray) (w : World) (hG : Gl w) (h : strconv_Itoa.f a0 = some r) :
    Calls Tryd.prog 25 #[.int .i64 a0] w fun e w' => e = .returned (.string r) ∧ Below w.heap.size w w' := by
  unfold strconv_Itoa.f at h
  split at h
  · rename_i hb
    injection h with h
    subst h
    refine (Tryd.strconv_Itoa a0 hb.1 hb.2 w hG.tab).mono ?_
    rintro e w' ⟨rfl, k, os, rfl⟩
    exact ⟨rfl, Lib.below_grow _ _ (Nat.le_refl _) _ _⟩
  · cases h
end Go.Proofs.YtheknmeeioajfaaDoor.F
