/- strconv.Atoi, as a plain function (an error is told as 'some 0': which block it lies in is not told), and that the Go code comes to it. -/
import Derived.Test.YtheknmeeioajfaaDoorF0
import Derived.Test.YtheknmeeioajfaaDoorShelf
import Derived.Test.YtheknmeeioajfaaDoorGl
namespace Go.Proofs.YtheknmeeioajfaaDoor.F
open Go.RowKit
def strconv_Atoi.f (a0 : ByteArray) : Option (Int × Option Int) := if a0.size ≤ 281474976710656 then (match Lib.atoiAll a0.data.toList with | .ok v => some (v, none) | .range => some (Lib.atoiSat a0.data.toList, some 0) | _ => some (0, some 0)) else none
theorem strconv_Atoi.calls (a0 : ByteArray) (r1 : Int) (r2 : Option Int) (w : World) (hG : Gl w) (h : strconv_Atoi.f a0 = some (r1, r2)) :
    Calls Tryd.prog 27 #[.string a0] w fun e w' => ∃ c_ : Int, e = .returned (.tuple #[.int .i64 r1, errW (r2.map fun _ => c_)]) ∧ Below w.heap.size w w' := by
  unfold strconv_Atoi.f at h
  split at h
  · rename_i hb
    obtain ⟨t2, p2, h2⟩ := hG.e2
    obtain ⟨t3, p3, h3⟩ := hG.e3
    rcases hv : Lib.atoiAll a0.data.toList with v | _ | _
    · rw [hv] at h
      obtain ⟨rfl, rfl⟩ := Prod.mk.inj (Option.some.inj h)
      refine (Tryd.strconv_Atoi_ok a0 (by omega) _ hv w).mono ?_
      rintro e w' ⟨rfl, rfl | ⟨t, rfl⟩⟩
      · exact ⟨0, rfl, Below.refl _ _⟩
      · exact ⟨0, rfl, ⟨rfl, rfl, rfl, by rw [Lib.bytesWorld_size]; omega, fun i hi => Lib.bytesWorld_at_old w 5 t i hi⟩⟩
    · rw [hv] at h
      obtain ⟨rfl, rfl⟩ := Prod.mk.inj (Option.some.inj h)
      refine Calls.mono (Any.strconv_Atoi_syntax Tryd.laysC172 a0 hb hv _ w h2 (Or.inr ⟨t2, p2, rfl⟩)) ?_
      rintro e w' ⟨M, rfl, _, _, hB⟩
      exact ⟨(M : Int), by simp [errW]; rfl, hB⟩
    · rw [hv] at h
      obtain ⟨rfl, rfl⟩ := Prod.mk.inj (Option.some.inj h)
      refine (Tryd.strconv_Atoi_range a0 hb hv _ w h3 (Or.inr ⟨t3, p3, rfl⟩)).mono ?_
      rintro e w' ⟨M, rfl, _, _, hB⟩
      exact ⟨(M : Int), by simp [errW], hB⟩
  · cases h
theorem strconv_Atoi.ok {s : ByteArray} {v : Int} (hs : s.size ≤ 281474976710656) (h : Lib.atoiAll s.data.toList = .ok v) : strconv_Atoi.f s = some (v, none) := by
  unfold strconv_Atoi.f
  rw [if_pos hs, h]
theorem strconv_Atoi.bad {s : ByteArray} (hs : s.size ≤ 281474976710656) (h : ∀ v, Lib.atoiAll s.data.toList ≠ .ok v) : ∃ n, strconv_Atoi.f s = some (n, some 0) := by
  unfold strconv_Atoi.f
  rw [if_pos hs]
  rcases hv : Lib.atoiAll s.data.toList with v | _ | _
  · exact absurd hv (h v)
  · exact ⟨_, rfl⟩
  · exact ⟨_, rfl⟩
end Go.Proofs.YtheknmeeioajfaaDoor.F
