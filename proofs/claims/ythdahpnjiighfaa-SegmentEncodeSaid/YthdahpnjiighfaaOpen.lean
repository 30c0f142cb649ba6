/- Arguments opened: what a slice of texts, or of slices of texts, that came in reads as, here and in every later world that keeps the old blocks. -/
import Derived.Test.YthdahpnjiighfaaWShare
import Derived.Deep.Slices
import Derived.Deep.Strs
import Derived.Lib.SmallJoins
namespace Go.Proofs.Ythdahpnjiighfaa.D
set_option linter.unusedVariables false
open Go.RowKit Go.Deep Go.ChangeShapes Go.WideShapes Go.Proofs.YthdahpnjiighfaaW.PrintWords
/-- The blocks that were there are as they were. -/
def Old (w w1 : World) : Prop := ∀ k, k < w.heap.size → w1.heap[k]? = w.heap[k]?
theorem old_cell {w w1 : World} (hb : Old w w1) {a : Addr} {v : Value} (h : w.cell? a = some v) : w1.cell? a = some v := by
  have := hb a.block (World.block_lt_of_cell? w a h)
  simpa [World.cell?, this] using h
section
variable {H : Type} {enc : TypeId × Value → H} {P : Program} {w : World} {base : Nat} {spare : Nat → Bool} {held : Bool}
/-- What is read at a type is an element of a kind. -/
def Opens (enc : TypeId × Value → H) (P : Program) (w : World) (base : Nat) (spare : Nat → Bool) (held : Bool) {α : Type} (d : Kd α) (e : TypeId) (Q : α → Prop) : Prop :=
  ∀ fuel cs y, DataW.trod enc P w base spare held fuel e cs = some y → ∃ x, Q x ∧ cs.length = d.sz ∧ ∀ w1, Old w w1 → d.K w1 x cs
theorem opens_string {e : TypeId} (he : P.underlying e = some .string) : Opens enc P w base spare held Kd.string e (fun s => s.size ≤ maxLen) := by
  intro fuel cs y h
  obtain ⟨s, h1, h2, h3⟩ := DataW.trod_string he h
  subst h1
  exact ⟨s, h3, rfl, fun _ _ => rfl⟩
theorem open_row {α : Type} {d : Kd α} {t e : TypeId} {Q : α → Prop} (ht : P.underlying t = some (.slice e)) (hc : P.cellsOf e = d.sz) (hd : Opens enc P w base spare held d e Q) {fuel : Nat} {cs : List Value} {y : DataW H × List MemPlace}
    (h : DataW.trod enc P w base spare held fuel t cs = some y) : ∃ (A : Option Addr) (c : Nat) (xs : List α), cs = [.slice A xs.length c] ∧ xs.length ≤ c ∧ c ≤ maxLen ∧ (∀ x ∈ xs, Q x) ∧ ∀ w1, Old w w1 → Kd.C d w1 A xs.length xs := by
  rcases open_slice ht h with ⟨hcs, _⟩ | ⟨a, len, cap, m, n, D, Pl, hcs, hb, hl, hm, hmm, _, hx⟩
  · exact ⟨none, 0, [], hcs, Nat.le_refl _, Nat.zero_le _, ⟨fun x hx => (by cases hx), fun w1 _ => ⟨rfl, Nat.zero_le _, fun h0 => absurd h0 (Nat.lt_irrefl _)⟩⟩⟩
  · have hlm : len ≤ m := by rw [hmm]; split <;> omega
    have each : ∀ i, i < len → ∃ p : α × List Value, w.cells? base (a.add (i * P.cellsOf e)) (P.cellsOf e) = some p.2 ∧ Q p.1 ∧ p.2.length = d.sz ∧ ∀ w1, Old w w1 → d.K w1 p.1 p.2 := fun i hi => by
      obtain ⟨cs', h1, h2⟩ := hx i (by omega)
      obtain ⟨x, q, hl, hk⟩ := hd _ _ _ h2
      exact ⟨(x, cs'), h1, q, hl, hk⟩
    let f : Fin len → α × List Value := fun i => Classical.choose (each i.1 i.2)
    have hf : ∀ i : Fin len, w.cells? base (a.add (i.1 * P.cellsOf e)) (P.cellsOf e) = some (f i).2 ∧ Q (f i).1 ∧ (f i).2.length = d.sz ∧ ∀ w1, Old w w1 → d.K w1 (f i).1 (f i).2 := fun i => Classical.choose_spec (each i.1 i.2)
    have hxl : (List.ofFn fun i => (f i).1).length = len := List.length_ofFn
    refine ⟨some a, cap, List.ofFn fun i => (f i).1, by rw [hxl]; exact hcs, by rw [hxl]; exact hl, hm, ⟨fun x hx => ?_, fun w1 hw => ⟨rfl, by rw [hxl]; unfold maxLen at hm; omega, fun _ => ⟨a, rfl, fun j p hj => ?_⟩⟩⟩⟩
    · obtain ⟨i, rfl⟩ := List.mem_ofFn.1 hx
      exact (hf i).2.1
    · obtain ⟨hlt, rfl⟩ := List.getElem?_eq_some_iff.1 hj
      rw [List.getElem_ofFn]
      rw [hxl] at hlt
      obtain ⟨h1, h2, h3, h4⟩ := hf ⟨j, hlt⟩
      refine ⟨(f ⟨j, hlt⟩).2, h3, h4 w1 hw, fun i u hu => ?_⟩
      obtain ⟨_, hlen, hcell⟩ := World.cells?_some h1
      rw [← Go.Deep.add_add, ← hc]
      have hi' : i < (f ⟨j, hlt⟩).2.length := (List.getElem?_eq_some_iff.1 hu).1
      exact old_cell hw ((hcell i (by omega)).trans hu)
theorem opens_row {α : Type} {d : Kd α} {t e : TypeId} {Q : α → Prop} (ht : P.underlying t = some (.slice e)) (hc : P.cellsOf e = d.sz) (hd : Opens enc P w base spare held d e Q) : Opens enc P w base spare held (Kd.slice e d) t (fun xs => xs.length ≤ maxLen ∧ ∀ x ∈ xs, Q x) := by
  intro fuel cs y h
  obtain ⟨A, c, xs, rfl, hl, hm, hq, hk⟩ := open_row ht hc hd h
  exact ⟨xs, ⟨Nat.le_trans hl hm, hq⟩, rfl, fun w1 hw => ⟨A, c, rfl, hl, hk w1 hw⟩⟩
end
end Go.Proofs.Ythdahpnjiighfaa.D
