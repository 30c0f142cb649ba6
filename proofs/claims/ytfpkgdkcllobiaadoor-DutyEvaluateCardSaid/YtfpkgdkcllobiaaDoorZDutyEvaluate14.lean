/- Part 14 of the proof of the law DutyEvaluate (its walk through the code, and the plain laws over numbers and texts). Conditions: none. -/
import Derived.Test.YtfpkgdkcllobiaaDoorZDutyEvaluate13
import Derived.Deep.DeepHandedRow
import Derived.Deep.DeepWitnessRowRef
import Derived.Stop.LaidErr
import Derived.ProofKit
import Derived.HandedShaped
section
namespace Go.Proofs.YtfpkgdkcllobiaaDoor.F
open Go.ChangeShapes Go.WideShapes Go.ChangeAt Go.RowKit Go.Lib
theorem star : "*" ++ "errors.errorString" = "*errors.errorString" := by decide
theorem row142 (u : TypeId) (h : Tryd.prog.typeName? 3 u = some "*errors.errorString") : u = 142 :=
  typeName_ptr_named (nm := "errors.errorString") (by rw [star]; kernel_rfl) (by kernel_rfl) (by decide) u (by rw [star]; exact h)
def laidList : List (String × DataW Unit) := [("math/bits.deBruijn32tab", Rows.laid_math_bits_deBruijn32tab), ("math/bits.deBruijn64tab", Rows.laid_math_bits_deBruijn64tab), ("internal/strconv.uint64pow10", Rows.laid_internal_strconv_uint64pow10), ("unicode/utf8.acceptRanges", Rows.laid_unicode_utf8_acceptRanges), ("strconv.ErrRange", Rows.laid_strconv_ErrRange), ("strconv.ErrSyntax", Rows.laid_strconv_ErrSyntax), ("unicode/utf8.first", Rows.laid_unicode_utf8_first)]
theorem size_of_cell {W : World} {b : Nat} {v : Value} (h : W.cell? ⟨b, 0, none⟩ = some v) : b < W.heap.size := by
  rcases Nat.lt_or_ge b W.heap.size with h' | h'
  · exact h'
  · simp [World.cell?, Array.getElem?_eq_none h'] at h
theorem gl_of_laid {W : World} (h : laidMet Tryd.prog laidList W) (hsh : W.ShapedOpen Tryd.prog) : Gl W := by
  have h3 := h.tail.tail
  have h4 := h3.tail.tail
  have h5 := h4.tail
  obtain ⟨a4, s4, v4, _⟩ := laid_sentinel h4 (g := 5) (by kernel_rfl) (by kernel_rfl) Tryd.underlying86 row142 Tryd.underlying142 Tryd.underlying144 rfl rfl Tryd.underlying9 (by kernel_rfl) (by kernel_rfl)
  obtain ⟨a5, s5, v5, _⟩ := laid_sentinel h5 (g := 4) (by kernel_rfl) (by kernel_rfl) Tryd.underlying86 row142 Tryd.underlying142 Tryd.underlying144 rfl rfl Tryd.underlying9 (by kernel_rfl) (by kernel_rfl)
  have c4 := World.var?_cell (g := 5) (by kernel_rfl) v4 0
  have c5 := World.var?_cell (g := 4) (by kernel_rfl) v5 0
  simp at c4 c5
  have hm := Go.Proofs.cell_of_shapedOpen_int (P := Tryd.prog) (g := 2) (zero := #[.int .i64 0]) (t := 3) hsh (of_decide_eq_true (by kernel_rfl)) (by kernel_rfl) rfl (by kernel_rfl) (by kernel_rfl) Tryd.underlying3
  exact ⟨tabIs_of_head (k := .u64) (zs := Lib.pow10Tab) (g := 3) (t := 125) (e := 61) (n := 20) (by kernel_rfl) (by kernel_rfl) (by kernel_rfl) (by kernel_rfl) (by kernel_rfl) (by kernel_rfl) h3, ⟨_, _, c5⟩, ⟨_, _, c4⟩, hm, size_of_cell c4⟩
/-- A world for the witness: the settled one with two blocks more (the errors' structs), the seven variables holding what their initialisers lay. -/
noncomputable def laidWorld (os : Os) : World :=
  let M := (World.settled Tryd.prog os).heap.size
  let w0 := World.holding Tryd.prog os ⟨#[.cells #[.string ⟨#[105, 110, 118, 97, 108, 105, 100, 32, 115, 121, 110, 116, 97, 120]⟩] 144, .cells #[.string ⟨#[118, 97, 108, 117, 101, 32, 111, 117, 116, 32, 111, 102, 32, 114, 97, 110, 103, 101]⟩] 144], #[], []⟩
  let put (h : Array Obj) (g : Nat) (cs : Array Value) : Array Obj := h.modify g fun
    | .cells _ t frozen => .cells cs t frozen
    | o => o
  let num (d : DataW Unit) : Value := match d with
    | .lit (.int k n) => Value.int k n
    | _ => Value.bool false
  let nums (d : DataW Unit) : Array Value := match d with
    | .agg l => (l.map num).toArray
    | _ => #[]
  let pairs (d : DataW Unit) : Array Value := match d with
    | .agg l => (l.flatMap fun | .agg m => m.map num | _ => []).toArray
    | _ => #[]
  let h1 := put (put w0.heap 4 #[.iface 142 (.pointer (some ⟨M, 0, none⟩))]) 5 #[.iface 142 (.pointer (some ⟨M + 1, 0, none⟩))]
  let h2 := put (put (put h1 3 (nums Rows.laid_internal_strconv_uint64pow10)) 8 (nums Rows.laid_math_bits_deBruijn32tab)) 9 (nums Rows.laid_math_bits_deBruijn64tab)
  let h3 := put (put h2 6 (nums Rows.laid_unicode_utf8_first)) 7 (pairs Rows.laid_unicode_utf8_acceptRanges)
  { w0 with heap := h3 }
set_option maxRecDepth 100000 in
theorem laid_met (os : Os) (args : Array Value) : laidMet Tryd.prog laidList ((laidWorld os).forCall (fun _ _ => 0) ⟨#[], args, []⟩).memory :=
  laidMet_of_run' 8 (by kernel_rfl) (by kernel_rfl)
end Go.Proofs.YtfpkgdkcllobiaaDoor.F
end
