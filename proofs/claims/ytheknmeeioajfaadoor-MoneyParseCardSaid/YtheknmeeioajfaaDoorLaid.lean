/- What the rows' list of package-level variables gives the walks ('Gl'), and a world that meets the list. -/
import Derived.Test.YtheknmeeioajfaaDoorRows
import Derived.Test.YtheknmeeioajfaaDoorGl
import Derived.Deep.DeepHandedRow
import Derived.Deep.DeepWitnessRowRef
import Derived.Lib.LaidTab
import Derived.Stop.LaidErr
import Derived.ProofKit
namespace Go.Proofs.YtheknmeeioajfaaDoor.F
open Go.ChangeShapes Go.WideShapes Go.ChangeAt Go.RowKit Go.Lib
theorem star : "*" ++ "errors.errorString" = "*errors.errorString" := by decide
theorem row97 (u : TypeId) (h : Tryd.prog.typeName? 3 u = some "*errors.errorString") : u = 97 :=
  typeName_ptr_named (nm := "errors.errorString") (by rw [star]; kernel_rfl) (by kernel_rfl) (by decide) u (by rw [star]; exact h)
def laidList : List (String × DataW Unit) := [("math/bits.deBruijn32tab", Rows.laid_math_bits_deBruijn32tab), ("math/bits.deBruijn64tab", Rows.laid_math_bits_deBruijn64tab), ("internal/strconv.uint64pow10", Rows.laid_internal_strconv_uint64pow10), ("strconv.ErrRange", Rows.laid_strconv_ErrRange), ("strconv.ErrSyntax", Rows.laid_strconv_ErrSyntax)]
theorem size_of_cell {W : World} {b : Nat} {v : Value} (h : W.cell? ⟨b, 0, none⟩ = some v) : b < W.heap.size := by
  rcases Nat.lt_or_ge b W.heap.size with h' | h'
  · exact h'
  · simp [World.cell?, Array.getElem?_eq_none h'] at h
theorem gl_of_laid {W : World} (h : laidMet Tryd.prog laidList W) : Gl W := by
  have h3 := h.tail.tail
  have h4 := h3.tail
  have h5 := h4.tail
  obtain ⟨a4, s4, v4, _⟩ := laid_sentinel h4 (g := 3) (by kernel_rfl) (by kernel_rfl) Tryd.underlying50 row97 Tryd.underlying97 Tryd.underlying99 rfl rfl Tryd.underlying9 (by kernel_rfl) (by kernel_rfl)
  obtain ⟨a5, s5, v5, _⟩ := laid_sentinel h5 (g := 2) (by kernel_rfl) (by kernel_rfl) Tryd.underlying50 row97 Tryd.underlying97 Tryd.underlying99 rfl rfl Tryd.underlying9 (by kernel_rfl) (by kernel_rfl)
  have c4 := World.var?_cell (g := 3) (by kernel_rfl) v4 0
  have c5 := World.var?_cell (g := 2) (by kernel_rfl) v5 0
  simp at c4 c5
  exact ⟨tabIs_of_head (k := .u64) (zs := Lib.pow10Tab) (g := 4) (t := 90) (e := 44) (n := 20) (by kernel_rfl) (by kernel_rfl) (by kernel_rfl) (by kernel_rfl) (by kernel_rfl) (by kernel_rfl) h3, ⟨_, _, c5⟩, ⟨_, _, c4⟩, size_of_cell c4⟩
/-- A world for the witness: the settled one with two blocks more (the errors' structs), the five variables holding what their initialisers lay. -/
noncomputable def laidWorld (os : Os) : World :=
  let M := (World.settled Tryd.prog os).heap.size
  let w0 := World.holding Tryd.prog os ⟨#[.cells #[.string ⟨#[105, 110, 118, 97, 108, 105, 100, 32, 115, 121, 110, 116, 97, 120]⟩] 99, .cells #[.string ⟨#[118, 97, 108, 117, 101, 32, 111, 117, 116, 32, 111, 102, 32, 114, 97, 110, 103, 101]⟩] 99], #[], []⟩
  let put (h : Array Obj) (g : Nat) (cs : Array Value) : Array Obj := h.modify g fun
    | .cells _ t frozen => .cells cs t frozen
    | o => o
  let nums (d : DataW Unit) : Array Value := match d with
    | .agg l => (l.map fun | .lit (.int k n) => Value.int k n | _ => Value.bool false).toArray
    | _ => #[]
  let h1 := put (put w0.heap 2 #[.iface 97 (.pointer (some ⟨M, 0, none⟩))]) 3 #[.iface 97 (.pointer (some ⟨M + 1, 0, none⟩))]
  let h2 := put (put (put h1 4 (nums Rows.laid_internal_strconv_uint64pow10)) 5 (nums Rows.laid_math_bits_deBruijn32tab)) 6 (nums Rows.laid_math_bits_deBruijn64tab)
  { w0 with heap := h2 }
set_option maxRecDepth 100000 in
theorem laid_met (os : Os) (args : Array Value) : laidMet Tryd.prog laidList ((laidWorld os).forCall (fun _ _ => 0) ⟨#[], args, []⟩).memory :=
  laidMet_of_run' 8 (by kernel_rfl) (by kernel_rfl)
end Go.Proofs.YtheknmeeioajfaaDoor.F
