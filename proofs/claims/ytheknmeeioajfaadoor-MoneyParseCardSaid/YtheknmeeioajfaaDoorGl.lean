/- What the walks of this seat take of the package-level variables of Go's library: the table of powers of ten, and that the two errors of strconv are interface values. It lives on wherever nothing that was there is changed. -/
import Derived.Test.YtheknmeeioajfaaDoorProg
import Derived.Lib.LaidTab
import Derived.Lib.SmallJoins
import Derived.Shelf.Strconv.Itoa1
import Derived.Below
namespace Go.Proofs.YtheknmeeioajfaaDoor.F
open Go.RowKit Go.Lib
structure Gl (w : World) : Prop where
  tab : Lib.TabIs Tryd.prog w "internal/strconv.uint64pow10" .u64 Lib.pow10Tab
  e2 : ∃ te pe, w.cell? ⟨2, 0, none⟩ = some (.iface te pe)
  e3 : ∃ te pe, w.cell? ⟨3, 0, none⟩ = some (.iface te pe)
  size : 4 ≤ w.heap.size
theorem Gl.below {w w' : World} (h : Gl w) (hb : Below w.heap.size w w') : Gl w' := by
  obtain ⟨h1, ⟨t2, p2, h2⟩, ⟨t3, p3, h3⟩, h4⟩ := h
  refine ⟨Joins.tab_stays (g := 4) (by kernel_rfl) h1 hb (Nat.le_refl _), ⟨t2, p2, ?_⟩, ⟨t3, p3, ?_⟩, Nat.le_trans h4 hb.size⟩
  · rw [hb.cell (p := ⟨2, 0, none⟩) (by show 2 < _; omega)]; exact h2
  · rw [hb.cell (p := ⟨3, 0, none⟩) (by show 3 < _; omega)]; exact h3
theorem Gl.drewN {w : World} (h : Gl w) (n : Nat) : Gl (w.drewN n) := h.below ⟨rfl, rfl, rfl, Nat.le_refl _, fun _ _ => rfl⟩
theorem Gl.drew {w : World} (h : Gl w) : Gl w.drew := h.below ⟨rfl, rfl, rfl, Nat.le_refl _, fun _ _ => rfl⟩
theorem Gl.alloc {w : World} (h : Gl w) (o : Obj) : Gl (w.alloc o) := h.below ((Below.refl _ _).alloc (Nat.le_refl _) o)
end Go.Proofs.YtheknmeeioajfaaDoor.F
