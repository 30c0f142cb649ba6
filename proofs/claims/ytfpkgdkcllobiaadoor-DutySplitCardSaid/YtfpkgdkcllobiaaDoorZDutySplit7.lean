/- Part 7 of the proof of the law DutySplit (its walk through the code, and the plain laws over numbers and texts). Conditions: none. -/
import Derived.Test.YtfpkgdkcllobiaaDoorZDutySplit6
section
namespace Go.Proofs.YtfpkgdkcllobiaaDoor.F
open Go.RowKit Go.Proofs.YtfpkgdkcllobiaaDoorW.PrintWords Go.Proofs.YtfpkgdkcllobiaaDoorW.PrintLast Go.Proofs.YtfpkgdkcllobiaaDoorW.PrintMore
attribute [local go_sem] max2_int min2_int max_two min_two max_three min_three max_four min_four   -- for this text's walks alone
set_option linter.unusedVariables false
set_option linter.unusedSimpArgs false

/-- A state of type 23 at block g of W; what its slices lead to came in by w0. -/
def IsS23 (w0 W : World) (g : Nat) (f0 : Int) (f1 : Int) (f2 : Int) (f3 : Bool) (f4 : Int) (f5 : Bool) (f6 : Int) : Prop := W.heap[g]? = some (.cells #[.int .i64 f0, .int .i64 f1, .int .i64 f2, .bool f3, .int .i64 f4, .bool f5, .int .i64 f6] 23 (0, 0)) ∧ w0.heap.size ≤ g
theorem IsS23.grown {w0 W : World} {g : Nat} {f0 : Int} {f1 : Int} {f2 : Int} {f3 : Bool} {f4 : Int} {f5 : Bool} {f6 : Int} {W1 : World} {row : Option Nat} (h : IsS23 w0 W g f0 f1 f2 f3 f4 f5 f6) (hw : W.grownBy W1 row) (hne : some g ≠ row) : IsS23 w0 W1 g f0 f1 f2 f3 f4 f5 f6 := by
  obtain ⟨hb, hg⟩ := h
  exact ⟨blk_grown hb hw hne, hg⟩
theorem IsS23.own_neN {w0 W : World} {g : Nat} {f0 : Int} {f1 : Int} {f2 : Int} {f3 : Bool} {f4 : Int} {f5 : Bool} {f6 : Int} {α : Type} {d : Kd α} {e : Nat} {base : Nat} {ok : Nat → Prop} {v : Value} {xs : List α} (h : IsS23 w0 W g f0 f1 f2 f3 f4 f5 f6) (ho : Kd.N d e W base ok v xs) (ht : e ≠ 23) : some g ≠ v.ownBlock := by
  obtain ⟨hb, hg⟩ := h
  exact Kd.N_ne ho hb ht
theorem IsS23.fresh {w0 W : World} {g : Nat} {f0 : Int} {f1 : Int} {f2 : Int} {f3 : Bool} {f4 : Int} {f5 : Bool} {f6 : Int} (h : IsS23 w0 W g f0 f1 f2 f3 f4 f5 f6) : ∀ k, W.heap.size ≤ k → k ≠ g := by
  obtain ⟨hb, hg⟩ := h
  exact Kd.freshB hb
theorem IsS23.kept {w0 W : World} {g : Nat} {f0 : Int} {f1 : Int} {f2 : Int} {f3 : Bool} {f4 : Int} {f5 : Bool} {f6 : Int} {W1 : World} {S : Nat → Prop} (h : IsS23 w0 W g f0 f1 f2 f3 f4 f5 f6) (hk : Kept W W1 S) (hne : ¬ S g) : IsS23 w0 W1 g f0 f1 f2 f3 f4 f5 f6 := by
  obtain ⟨hb, hg⟩ := h
  exact ⟨blk_kept hb hk hne, hg⟩
theorem IsS23.below {w0 W : World} {g : Nat} {f0 : Int} {f1 : Int} {f2 : Int} {f3 : Bool} {f4 : Int} {f5 : Bool} {f6 : Int} {W1 : World} (h : IsS23 w0 W g f0 f1 f2 f3 f4 f5 f6) (hw : Below W.heap.size W W1) : IsS23 w0 W1 g f0 f1 f2 f3 f4 f5 f6 := h.grown (grown_of_below hw none) (by simp)
theorem IsS23.alloc {w0 W : World} {g : Nat} {f0 : Int} {f1 : Int} {f2 : Int} {f3 : Bool} {f4 : Int} {f5 : Bool} {f6 : Int} (h : IsS23 w0 W g f0 f1 f2 f3 f4 f5 f6) (o : Obj) : IsS23 w0 (W.alloc o) g f0 f1 f2 f3 f4 f5 f6 := h.below (below_alloc (Below.refl _ _) o)
theorem IsS23.drewN {w0 W : World} {g : Nat} {f0 : Int} {f1 : Int} {f2 : Int} {f3 : Bool} {f4 : Int} {f5 : Bool} {f6 : Int} (h : IsS23 w0 W g f0 f1 f2 f3 f4 f5 f6) (m : Nat) : IsS23 w0 (W.drewN m) g f0 f1 f2 f3 f4 f5 f6 := h
theorem IsS23.drew {w0 W : World} {g : Nat} {f0 : Int} {f1 : Int} {f2 : Int} {f3 : Bool} {f4 : Int} {f5 : Bool} {f6 : Int} (h : IsS23 w0 W g f0 f1 f2 f3 f4 f5 f6) : IsS23 w0 W.drew g f0 f1 f2 f3 f4 f5 f6 := h
theorem IsS23.at_ {w0 W : World} {g : Nat} {f0 : Int} {f1 : Int} {f2 : Int} {f3 : Bool} {f4 : Int} {f5 : Bool} {f6 : Int} {w' : World} {m : Nat} (hq : W.drewN m = w') (h : IsS23 w0 W g f0 f1 f2 f3 f4 f5 f6) : IsS23 w0 w' g f0 f1 f2 f3 f4 f5 f6 := by subst hq; exact IsS23.drewN h m
theorem IsS23.apart {w0 W : World} {g : Nat} {f0 : Int} {f1 : Int} {f2 : Int} {f3 : Bool} {f4 : Int} {f5 : Bool} {f6 : Int} {α : Type} {d : Kd α} {e : Nat} {base : Nat} {ok : Nat → Prop} {v : Value} {xs : List α} (h : IsS23 w0 W g f0 f1 f2 f3 f4 f5 f6) (ho : d.R e W base ok v xs) (ht : ∀ q, q ∈ e :: d.E → q ≠ 23) : d.R e W base (fun k => ok k ∧ k ≠ g) v xs := by
  obtain ⟨hb, hg⟩ := h
  exact Kd.R_types ho hb ht
theorem IsS23.own_ne {w0 W : World} {g : Nat} {f0 : Int} {f1 : Int} {f2 : Int} {f3 : Bool} {f4 : Int} {f5 : Bool} {f6 : Int} {α : Type} {d : Kd α} {e : Nat} {base : Nat} {ok : Nat → Prop} {v : Value} {xs : List α} (h : IsS23 w0 W g f0 f1 f2 f3 f4 f5 f6) (ho : d.R e W base ok v xs) (ht : e ≠ 23) : some g ≠ v.ownBlock := by
  obtain ⟨hb, hg⟩ := h
  exact Kd.R_ne ho hb ht
theorem IsS23.apartQ {w0 W : World} {g : Nat} {f0 : Int} {f1 : Int} {f2 : Int} {f3 : Bool} {f4 : Int} {f5 : Bool} {f6 : Int} {α : Type} {d : Kd α} {e : Nat} {base : Nat} {ok : Nat → Prop} {v : Value} {xs : List α} (h : IsS23 w0 W g f0 f1 f2 f3 f4 f5 f6) (ho : d.Q e W base ok v xs) (ht : ∀ q, q ∈ e :: d.E → q ≠ 23) : d.Q e W base (fun k => ok k ∧ k ≠ g) v xs := by
  obtain ⟨hb, hg⟩ := h
  exact Kd.Q_types ho hb ht
theorem IsS23.own_neQ {w0 W : World} {g : Nat} {f0 : Int} {f1 : Int} {f2 : Int} {f3 : Bool} {f4 : Int} {f5 : Bool} {f6 : Int} {α : Type} {d : Kd α} {e : Nat} {base : Nat} {ok : Nat → Prop} {v : Value} {xs : List α} (h : IsS23 w0 W g f0 f1 f2 f3 f4 f5 f6) (ho : d.Q e W base ok v xs) (ht : e ≠ 23) : some g ≠ v.ownBlock := by
  obtain ⟨hb, hg⟩ := h
  exact Kd.Q_ne ho hb ht
theorem IsS23.apartS {w0 W : World} {g : Nat} {f0 : Int} {f1 : Int} {f2 : Int} {f3 : Bool} {f4 : Int} {f5 : Bool} {f6 : Int} {α : Type} {d : Kd α} {e : Nat} {base : Nat} {ok : Nat → Prop} {v : Value} {xs : List α} (h : IsS23 w0 W g f0 f1 f2 f3 f4 f5 f6) (ho : d.S e W base ok v xs) (ht : ∀ q, q ∈ e :: d.E → q ≠ 23) : d.S e W base (fun k => ok k ∧ k ≠ g) v xs := by
  obtain ⟨hb, hg⟩ := h
  exact Kd.S_types ho hb ht
theorem IsS23.own_neS {w0 W : World} {g : Nat} {f0 : Int} {f1 : Int} {f2 : Int} {f3 : Bool} {f4 : Int} {f5 : Bool} {f6 : Int} {α : Type} {d : Kd α} {e : Nat} {base : Nat} {ok : Nat → Prop} {v : Value} {xs : List α} (h : IsS23 w0 W g f0 f1 f2 f3 f4 f5 f6) (ho : d.S e W base ok v xs) (ht : e ≠ 23) : some g ≠ v.ownBlock := by
  obtain ⟨hb, hg⟩ := h
  exact Kd.S_ne ho hb ht
theorem IsS23.lt {w0 W : World} {g : Nat} {f0 : Int} {f1 : Int} {f2 : Int} {f3 : Bool} {f4 : Int} {f5 : Bool} {f6 : Int} (h : IsS23 w0 W g f0 f1 f2 f3 f4 f5 f6) : g < W.heap.size := by
  obtain ⟨hb, hg⟩ := h
  exact blk_lt hb
theorem IsS23.ge {w0 W : World} {g : Nat} {f0 : Int} {f1 : Int} {f2 : Int} {f3 : Bool} {f4 : Int} {f5 : Bool} {f6 : Int} (h : IsS23 w0 W g f0 f1 f2 f3 f4 f5 f6) : w0.heap.size ≤ g := by
  obtain ⟨hb, hg⟩ := h
  exact hg
theorem IsS23.ne_blk {w0 W : World} {g : Nat} {f0 : Int} {f1 : Int} {f2 : Int} {f3 : Bool} {f4 : Int} {f5 : Bool} {f6 : Int} {a : Nat} {cs : Array Value} {t : TypeId} {fr : Nat × Nat} (h : IsS23 w0 W g f0 f1 f2 f3 f4 f5 f6) (hb2 : W.heap[a]? = some (.cells cs t fr)) (ht : t ≠ 23) : g ≠ a := by
  obtain ⟨hb, hg⟩ := h
  rintro rfl
  rw [hb] at hb2
  injection hb2 with hb2
  injection hb2 with _ ht2
  exact ht ht2.symm
theorem IsS23.far {w0 W : World} {g : Nat} {f0 : Int} {f1 : Int} {f2 : Int} {f3 : Bool} {f4 : Int} {f5 : Bool} {f6 : Int} {p : Addr} (h : IsS23 w0 W g f0 f1 f2 f3 f4 f5 f6) (hne : g ≠ p.block) (u : Value) : IsS23 w0 (W.setCell p u) g f0 f1 f2 f3 f4 f5 f6 := by
  obtain ⟨hb, hg⟩ := h
  exact ⟨blk_far hb hne u, hg⟩
theorem cellS23_0 {W : World} {g : Nat} {f0 : Int} {f1 : Int} {f2 : Int} {f3 : Bool} {f4 : Int} {f5 : Bool} {f6 : Int} (h : W.heap[g]? = some (.cells #[.int .i64 f0, .int .i64 f1, .int .i64 f2, .bool f3, .int .i64 f4, .bool f5, .int .i64 f6] 23 (0, 0))) : W.cell? ⟨g, 0, none⟩ = some (.int .i64 f0) := (blk_cell h 0).trans rfl
theorem IsS23.set_0 {w0 W : World} {g : Nat} {f0 : Int} {f1 : Int} {f2 : Int} {f3 : Bool} {f4 : Int} {f5 : Bool} {f6 : Int} (h : IsS23 w0 W g f0 f1 f2 f3 f4 f5 f6) (x : Int) : IsS23 w0 (W.setCell ⟨g, 0, none⟩ (.int .i64 x)) g x f1 f2 f3 f4 f5 f6 := by
  obtain ⟨hb, hg⟩ := h
  exact ⟨by simpa using blk_set hb 0 (.int .i64 x), hg⟩
theorem cellS23_1 {W : World} {g : Nat} {f0 : Int} {f1 : Int} {f2 : Int} {f3 : Bool} {f4 : Int} {f5 : Bool} {f6 : Int} (h : W.heap[g]? = some (.cells #[.int .i64 f0, .int .i64 f1, .int .i64 f2, .bool f3, .int .i64 f4, .bool f5, .int .i64 f6] 23 (0, 0))) : W.cell? ⟨g, 1, none⟩ = some (.int .i64 f1) := (blk_cell h 1).trans rfl
theorem IsS23.set_1 {w0 W : World} {g : Nat} {f0 : Int} {f1 : Int} {f2 : Int} {f3 : Bool} {f4 : Int} {f5 : Bool} {f6 : Int} (h : IsS23 w0 W g f0 f1 f2 f3 f4 f5 f6) (x : Int) : IsS23 w0 (W.setCell ⟨g, 1, none⟩ (.int .i64 x)) g f0 x f2 f3 f4 f5 f6 := by
  obtain ⟨hb, hg⟩ := h
  exact ⟨by simpa using blk_set hb 1 (.int .i64 x), hg⟩
theorem cellS23_2 {W : World} {g : Nat} {f0 : Int} {f1 : Int} {f2 : Int} {f3 : Bool} {f4 : Int} {f5 : Bool} {f6 : Int} (h : W.heap[g]? = some (.cells #[.int .i64 f0, .int .i64 f1, .int .i64 f2, .bool f3, .int .i64 f4, .bool f5, .int .i64 f6] 23 (0, 0))) : W.cell? ⟨g, 2, none⟩ = some (.int .i64 f2) := (blk_cell h 2).trans rfl
theorem IsS23.set_2 {w0 W : World} {g : Nat} {f0 : Int} {f1 : Int} {f2 : Int} {f3 : Bool} {f4 : Int} {f5 : Bool} {f6 : Int} (h : IsS23 w0 W g f0 f1 f2 f3 f4 f5 f6) (x : Int) : IsS23 w0 (W.setCell ⟨g, 2, none⟩ (.int .i64 x)) g f0 f1 x f3 f4 f5 f6 := by
  obtain ⟨hb, hg⟩ := h
  exact ⟨by simpa using blk_set hb 2 (.int .i64 x), hg⟩
theorem cellS23_3 {W : World} {g : Nat} {f0 : Int} {f1 : Int} {f2 : Int} {f3 : Bool} {f4 : Int} {f5 : Bool} {f6 : Int} (h : W.heap[g]? = some (.cells #[.int .i64 f0, .int .i64 f1, .int .i64 f2, .bool f3, .int .i64 f4, .bool f5, .int .i64 f6] 23 (0, 0))) : W.cell? ⟨g, 3, none⟩ = some (.bool f3) := (blk_cell h 3).trans rfl
theorem IsS23.set_3 {w0 W : World} {g : Nat} {f0 : Int} {f1 : Int} {f2 : Int} {f3 : Bool} {f4 : Int} {f5 : Bool} {f6 : Int} (h : IsS23 w0 W g f0 f1 f2 f3 f4 f5 f6) (x : Bool) : IsS23 w0 (W.setCell ⟨g, 3, none⟩ (.bool x)) g f0 f1 f2 x f4 f5 f6 := by
  obtain ⟨hb, hg⟩ := h
  exact ⟨by simpa using blk_set hb 3 (.bool x), hg⟩
theorem cellS23_4 {W : World} {g : Nat} {f0 : Int} {f1 : Int} {f2 : Int} {f3 : Bool} {f4 : Int} {f5 : Bool} {f6 : Int} (h : W.heap[g]? = some (.cells #[.int .i64 f0, .int .i64 f1, .int .i64 f2, .bool f3, .int .i64 f4, .bool f5, .int .i64 f6] 23 (0, 0))) : W.cell? ⟨g, 4, none⟩ = some (.int .i64 f4) := (blk_cell h 4).trans rfl
theorem IsS23.set_4 {w0 W : World} {g : Nat} {f0 : Int} {f1 : Int} {f2 : Int} {f3 : Bool} {f4 : Int} {f5 : Bool} {f6 : Int} (h : IsS23 w0 W g f0 f1 f2 f3 f4 f5 f6) (x : Int) : IsS23 w0 (W.setCell ⟨g, 4, none⟩ (.int .i64 x)) g f0 f1 f2 f3 x f5 f6 := by
  obtain ⟨hb, hg⟩ := h
  exact ⟨by simpa using blk_set hb 4 (.int .i64 x), hg⟩
theorem cellS23_5 {W : World} {g : Nat} {f0 : Int} {f1 : Int} {f2 : Int} {f3 : Bool} {f4 : Int} {f5 : Bool} {f6 : Int} (h : W.heap[g]? = some (.cells #[.int .i64 f0, .int .i64 f1, .int .i64 f2, .bool f3, .int .i64 f4, .bool f5, .int .i64 f6] 23 (0, 0))) : W.cell? ⟨g, 5, none⟩ = some (.bool f5) := (blk_cell h 5).trans rfl
theorem IsS23.set_5 {w0 W : World} {g : Nat} {f0 : Int} {f1 : Int} {f2 : Int} {f3 : Bool} {f4 : Int} {f5 : Bool} {f6 : Int} (h : IsS23 w0 W g f0 f1 f2 f3 f4 f5 f6) (x : Bool) : IsS23 w0 (W.setCell ⟨g, 5, none⟩ (.bool x)) g f0 f1 f2 f3 f4 x f6 := by
  obtain ⟨hb, hg⟩ := h
  exact ⟨by simpa using blk_set hb 5 (.bool x), hg⟩
theorem cellS23_6 {W : World} {g : Nat} {f0 : Int} {f1 : Int} {f2 : Int} {f3 : Bool} {f4 : Int} {f5 : Bool} {f6 : Int} (h : W.heap[g]? = some (.cells #[.int .i64 f0, .int .i64 f1, .int .i64 f2, .bool f3, .int .i64 f4, .bool f5, .int .i64 f6] 23 (0, 0))) : W.cell? ⟨g, 6, none⟩ = some (.int .i64 f6) := (blk_cell h 6).trans rfl
theorem IsS23.set_6 {w0 W : World} {g : Nat} {f0 : Int} {f1 : Int} {f2 : Int} {f3 : Bool} {f4 : Int} {f5 : Bool} {f6 : Int} (h : IsS23 w0 W g f0 f1 f2 f3 f4 f5 f6) (x : Int) : IsS23 w0 (W.setCell ⟨g, 6, none⟩ (.int .i64 x)) g f0 f1 f2 f3 f4 f5 x := by
  obtain ⟨hb, hg⟩ := h
  exact ⟨by simpa using blk_set hb 6 (.int .i64 x), hg⟩
theorem IsS23.new (w0 W : World) (f0 : Int) (f1 : Int) (f2 : Int) (f3 : Bool) (f4 : Int) (f5 : Bool) (f6 : Int) (hB : Below w0.heap.size w0 W) : IsS23 w0 (W.alloc (.cells #[.int .i64 f0, .int .i64 f1, .int .i64 f2, .bool f3, .int .i64 f4, .bool f5, .int .i64 f6] 23)) W.heap.size f0 f1 f2 f3 f4 f5 f6 := ⟨by simpa using heap_alloc_new W _, hB.size⟩

/-! ### duty_amount: function 35 -/
def duty_amount.f (k : Nat) (a0 : ByteArray) (s1_0 : Int) (s1_1 : Int) (s1_2 : Int) (s1_3 : Bool) (s1_4 : Int) (s1_5 : Bool) (s1_6 : Int) : Option (Bool × Int × Int × Int × Bool × Int × Bool × Int) := (strings_Cut.f a0 (⟨#[47]⟩ : ByteArray)).bind fun bt202 => ((money_Parse.f k bt202.1).bind fun bt205 => ((strconv_Atoi.f bt202.2.1).bind fun bt207 => (if bt202.2.2 = true then (if bt205.2 = 0 then (if bt207.2.isNone = true then (some (true, s1_0, bt205.1, bt207.1, s1_3, s1_4, s1_5, s1_6)) else (some (false, s1_0, s1_1, s1_2, s1_3, s1_4, s1_5, s1_6))) else (some (false, s1_0, s1_1, s1_2, s1_3, s1_4, s1_5, s1_6))) else (some (false, s1_0, s1_1, s1_2, s1_3, s1_4, s1_5, s1_6)))))
theorem duty_amount.mono : ∀ a0 a1 a2 a3 a4 a5 a6 a7 k, LeO (duty_amount.f k a0 a1 a2 a3 a4 a5 a6 a7) (duty_amount.f (k + 1) a0 a1 a2 a3 a4 a5 a6 a7) := by
  intro a0 a1 a2 a3 a4 a5 a6 a7 k
  unfold duty_amount.f
  repeat' first
      | (with_reducible exact money_Parse.mono _ _)
      | (with_reducible exact LeO.refl _)
      | (with_reducible exact LeO.none _)
      | (with_reducible refine LeO.ite ?_ ?_)
      | (with_reducible refine LeO.bind ?_ (fun _ => ?_))
      | exact money_Parse.mono _ _
      | exact LeO.none _
      | refine LeO.ite ?_ ?_
      | refine LeO.bind ?_ (fun _ => ?_)
set_option maxHeartbeats 8000000 in
set_option maxRecDepth 100000 in
theorem duty_amount.calls (k : Nat) (a0 : ByteArray) (g : Nat) (s1_0 : Int) (s1_1 : Int) (s1_2 : Int) (s1_3 : Bool) (s1_4 : Int) (s1_5 : Bool) (s1_6 : Int) (r1 : Bool) (r2 : Int) (r3 : Int) (r4 : Int) (r5 : Bool) (r6 : Int) (r7 : Bool) (r8 : Int) (w0 w : World) (hG : Gl w0) (hI : IsS23 w0 w g s1_0 s1_1 s1_2 s1_3 s1_4 s1_5 s1_6) (hB : Below w0.heap.size w0 w) (h : duty_amount.f k a0 s1_0 s1_1 s1_2 s1_3 s1_4 s1_5 s1_6 = some (r1, r2, r3, r4, r5, r6, r7, r8)) :
    Calls Tryd.prog 35 #[.string a0, .pointer (some ⟨g, 0, none⟩)] w fun e w' => e = .returned (.bool r1) ∧ IsS23 w0 w' g r2 r3 r4 r5 r6 r7 r8 ∧ Below w0.heap.size w0 w' ∧ KeepBut w w' g none := by
  have hu86 := Tryd.underlying86
  have HI1 := Aside0.mk hI
  have HK := Aside0.mk (KeepBut.refl w g none)
  have HL := Aside0.mk hB.size
  clear hI
  have HG := Aside0.mk hG
  clear hG
  have HW0 := Aside0.mk hB.size
  have HB := Aside0.mk hB
  clear hB
  have H : ((strings_Cut.f a0 (⟨#[47]⟩ : ByteArray)).bind fun bt202 => ((money_Parse.f k bt202.1).bind fun bt205 => ((strconv_Atoi.f bt202.2.1).bind fun bt207 => (if bt202.2.2 = true then (if bt205.2 = 0 then (if bt207.2.isNone = true then (some (true, s1_0, bt205.1, bt207.1, s1_3, s1_4, s1_5, s1_6)) else (some (false, s1_0, s1_1, s1_2, s1_3, s1_4, s1_5, s1_6))) else (some (false, s1_0, s1_1, s1_2, s1_3, s1_4, s1_5, s1_6))) else (some (false, s1_0, s1_1, s1_2, s1_3, s1_4, s1_5, s1_6)))))) = some (r1, r2, r3, r4, r5, r6, r7, r8) := h
  clear h
  replace H := Option.bind_eq_some_iff.mp H
  obtain ⟨⟨t202, t203, t204⟩, A30, H⟩ := H
  replace H : ((money_Parse.f k t202).bind fun bt205 => ((strconv_Atoi.f t203).bind fun bt207 => (if t204 = true then (if bt205.2 = 0 then (if bt207.2.isNone = true then (some (true, s1_0, bt205.1, bt207.1, s1_3, s1_4, s1_5, s1_6)) else (some (false, s1_0, s1_1, s1_2, s1_3, s1_4, s1_5, s1_6))) else (some (false, s1_0, s1_1, s1_2, s1_3, s1_4, s1_5, s1_6))) else (some (false, s1_0, s1_1, s1_2, s1_3, s1_4, s1_5, s1_6))))) = some (r1, r2, r3, r4, r5, r6, r7, r8) := H
  have A3 := Aside0.mk A30
  clear A30
  replace H := Option.bind_eq_some_iff.mp H
  obtain ⟨⟨t205, t206⟩, A40, H⟩ := H
  replace H : ((strconv_Atoi.f t203).bind fun bt207 => (if t204 = true then (if t206 = 0 then (if bt207.2.isNone = true then (some (true, s1_0, t205, bt207.1, s1_3, s1_4, s1_5, s1_6)) else (some (false, s1_0, s1_1, s1_2, s1_3, s1_4, s1_5, s1_6))) else (some (false, s1_0, s1_1, s1_2, s1_3, s1_4, s1_5, s1_6))) else (some (false, s1_0, s1_1, s1_2, s1_3, s1_4, s1_5, s1_6)))) = some (r1, r2, r3, r4, r5, r6, r7, r8) := H
  have A4 := Aside0.mk A40
  clear A40
  replace H := Option.bind_eq_some_iff.mp H
  obtain ⟨⟨t207, t208⟩, A50, H⟩ := H
  replace H : (if t204 = true then (if t206 = 0 then (if t208.isNone = true then (some (true, s1_0, t205, t207, s1_3, s1_4, s1_5, s1_6)) else (some (false, s1_0, s1_1, s1_2, s1_3, s1_4, s1_5, s1_6))) else (some (false, s1_0, s1_1, s1_2, s1_3, s1_4, s1_5, s1_6))) else (some (false, s1_0, s1_1, s1_2, s1_3, s1_4, s1_5, s1_6))) = some (r1, r2, r3, r4, r5, r6, r7, r8) := H
  have A5 := Aside0.mk A50
  clear A50
  by_cases c6 : t204 = true
  · subst c6
    have H1 : (if t206 = 0 then (if t208.isNone = true then (some (true, s1_0, t205, t207, s1_3, s1_4, s1_5, s1_6)) else (some (false, s1_0, s1_1, s1_2, s1_3, s1_4, s1_5, s1_6))) else (some (false, s1_0, s1_1, s1_2, s1_3, s1_4, s1_5, s1_6))) = some (r1, r2, r3, r4, r5, r6, r7, r8) := by rw [if_pos rfl] at H; exact H
    clear H
    have H := H1
    clear H1
    by_cases c7 : t206 = 0
    · rw [if_pos c7] at H
      have c7b0 : (t206 == 0) = true := beq_iff_eq.mpr c7
      have c7b1 : (t206 != 0) = false := bne_eq_false_iff_eq.mpr c7
      clear c7
      rcases t208 with _ | q209
      · have H1 : (some (true, s1_0, t205, t207, s1_3, s1_4, s1_5, s1_6)) = some (r1, r2, r3, r4, r5, r6, r7, r8) := by rw [if_pos (show (none : Option Int).isNone = true by rfl)] at H; exact H
        clear H
        have H := H1
        clear H1
        try simp only [errW_none, errW_some]
        simp only [Option.some.injEq, Prod.mk.injEq] at H
        obtain ⟨rfl, rfl, rfl, rfl, rfl, rfl, rfl, rfl⟩ := H
        go_enter Tryd.func35, Tryd.ntmps35
        go_wp2_with (first | ((with_reducible refine gate_callee (f := 33) rfl ?_); refine goesL_ (some 14) rfl rfl Tryd.func33 (by kernel_rfl) rfl #[.string a0, .string (⟨#[47]⟩ : ByteArray)] rfl (by (try simp only [List.map_toArray, List.map_cons, List.map_nil]); first | done | rfl | (simp only [List.length_drop, List.length_take]; rfl)) ?_; (with_reducible refine (strings_Cut.calls a0 (⟨#[47]⟩ : ByteArray) t202 t203 true _ ?side1 A3.out).mono ?_); (case side1 => exact Gl.below HG.out (by repeat (first | (with_reducible first | exact HB.out | apply below_alloc | apply pw_below_drewN | apply below_drew1 | refine below_set ?_ (IsS23.ge HI1.out)) | exact HB.out))); rintro e w8 ⟨rfl, hb⟩; refine ⟨_, rfl, ?_⟩; have n0_ := Aside0.mk (IsS23.below (by repeat (first | (with_reducible first | exact HI1.out | apply IsS23.alloc | apply IsS23.drewN | apply IsS23.drew | apply IsS23.set_0 | apply IsS23.set_1 | apply IsS23.set_2 | apply IsS23.set_3 | apply IsS23.set_4 | apply IsS23.set_5 | apply IsS23.set_6) | exact HI1.out)) hb); have n1_ := Aside0.mk (KeepBut.trans (by repeat (first | (with_reducible first | exact HK.out | apply KeepBut.set_ | apply keep_drewN | apply keep_drew | apply keep_alloc) | exact HK.out)) (KeepBut.of_below hb g none) (.inl rfl)); have n2_ := Aside0.mk (below_step (by repeat (first | (with_reducible first | exact HB.out | apply below_alloc | apply pw_below_drewN | apply below_drew1 | refine below_set ?_ (IsS23.ge HI1.out)) | exact HB.out)) hb); clear HI1; clear HK; clear HB; have HI1 := n0_; have HK := n1_; have HB := n2_; clear n0_ n1_ n2_; (try clear hb); (try clear hb2); (try clear hk); (try clear hi)) | ((with_reducible refine gate_callee (f := 59) rfl ?_); refine goesL_ (some 20) rfl rfl Tryd.func59 (by kernel_rfl) rfl #[.string t202] rfl (by (try simp only [List.map_toArray, List.map_cons, List.map_nil]); first | done | rfl | (simp only [List.length_drop, List.length_take]; rfl)) ?_; (with_reducible refine (money_Parse.calls k t202 t205 t206 _ ?side1 A4.out).mono ?_); (case side1 => exact Gl.below HG.out (by repeat (first | (with_reducible first | exact HB.out | apply below_alloc | apply pw_below_drewN | apply below_drew1 | refine below_set ?_ (IsS23.ge HI1.out)) | exact HB.out))); rintro e w9 ⟨rfl, hb⟩; refine ⟨_, rfl, ?_⟩; have n0_ := Aside0.mk (IsS23.below (by repeat (first | (with_reducible first | exact HI1.out | apply IsS23.alloc | apply IsS23.drewN | apply IsS23.drew | apply IsS23.set_0 | apply IsS23.set_1 | apply IsS23.set_2 | apply IsS23.set_3 | apply IsS23.set_4 | apply IsS23.set_5 | apply IsS23.set_6) | exact HI1.out)) hb); have n1_ := Aside0.mk (KeepBut.trans (by repeat (first | (with_reducible first | exact HK.out | apply KeepBut.set_ | apply keep_drewN | apply keep_drew | apply keep_alloc) | exact HK.out)) (KeepBut.of_below hb g none) (.inl rfl)); have n2_ := Aside0.mk (below_step (by repeat (first | (with_reducible first | exact HB.out | apply below_alloc | apply pw_below_drewN | apply below_drew1 | refine below_set ?_ (IsS23.ge HI1.out)) | exact HB.out)) hb); clear HI1; clear HK; clear HB; have HI1 := n0_; have HK := n1_; have HB := n2_; clear n0_ n1_ n2_; (try clear hb); (try clear hb2); (try clear hk); (try clear hi)) | ((with_reducible refine gate_callee (f := 58) rfl ?_); refine goesL_ (some 25) rfl rfl Tryd.func58 (by kernel_rfl) rfl #[.string t203] rfl (by (try simp only [List.map_toArray, List.map_cons, List.map_nil]); first | done | rfl | (simp only [List.length_drop, List.length_take]; rfl)) ?_; (with_reducible refine (strconv_Atoi.calls t203 t207 none _ ?side1 A5.out).mono ?_); (case side1 => exact Gl.below HG.out (by repeat (first | (with_reducible first | exact HB.out | apply below_alloc | apply pw_below_drewN | apply below_drew1 | refine below_set ?_ (IsS23.ge HI1.out)) | exact HB.out))); rintro e w10 ⟨ce_, rfl, hb⟩; refine ⟨_, rfl, ?_⟩; have n0_ := Aside0.mk (IsS23.below (by repeat (first | (with_reducible first | exact HI1.out | apply IsS23.alloc | apply IsS23.drewN | apply IsS23.drew | apply IsS23.set_0 | apply IsS23.set_1 | apply IsS23.set_2 | apply IsS23.set_3 | apply IsS23.set_4 | apply IsS23.set_5 | apply IsS23.set_6) | exact HI1.out)) hb); have n1_ := Aside0.mk (KeepBut.trans (by repeat (first | (with_reducible first | exact HK.out | apply KeepBut.set_ | apply keep_drewN | apply keep_drew | apply keep_alloc) | exact HK.out)) (KeepBut.of_below hb g none) (.inl rfl)); have n2_ := Aside0.mk (below_step (by repeat (first | (with_reducible first | exact HB.out | apply below_alloc | apply pw_below_drewN | apply below_drew1 | refine below_set ?_ (IsS23.ge HI1.out)) | exact HB.out)) hb); clear HI1; clear HK; clear HB; have HI1 := n0_; have HK := n1_; have HB := n2_; clear n0_ n1_ n2_; (try clear hb); (try clear hb2); (try clear hk); (try clear hi); (try simp only [Option.map_none, Option.map_some, errW_none, errW_some]); obtain ⟨HGz11, hgz11⟩ := HI1.out; have hcz11_0 := cellS23_0 HGz11; have hcz11_1 := cellS23_1 HGz11; have hcz11_2 := cellS23_2 HGz11; have hcz11_3 := cellS23_3 HGz11; have hcz11_4 := cellS23_4 HGz11; have hcz11_5 := cellS23_5 HGz11; have hcz11_6 := cellS23_6 HGz11; have hfz11_0 := blk_frozen HGz11 0; have hfz11_1 := blk_frozen HGz11 1; have hfz11_2 := blk_frozen HGz11 2; have hfz11_3 := blk_frozen HGz11 3; have hfz11_4 := blk_frozen HGz11 4; have hfz11_5 := blk_frozen HGz11 5; have hfz11_6 := blk_frozen HGz11 6; clear HGz11 hgz11))
        go_ret
        exact ⟨by first | rfl | (simp [errW_none, errW_some] <;> rfl) | (simp [*, errW_none, errW_some] <;> rfl), by repeat (first | (with_reducible first | exact HI1.out | apply IsS23.alloc | apply IsS23.drewN | apply IsS23.drew | apply IsS23.set_0 | apply IsS23.set_1 | apply IsS23.set_2 | apply IsS23.set_3 | apply IsS23.set_4 | apply IsS23.set_5 | apply IsS23.set_6) | exact HI1.out), by repeat (first | (with_reducible first | exact HB.out | apply below_alloc | apply pw_below_drewN | apply below_drew1 | refine below_set ?_ (IsS23.ge HI1.out)) | exact HB.out), by repeat (first | (with_reducible first | exact HK.out | apply KeepBut.set_ | apply keep_drewN | apply keep_drew | apply keep_alloc) | exact HK.out)⟩
      · have H1 : (some (false, s1_0, s1_1, s1_2, s1_3, s1_4, s1_5, s1_6)) = some (r1, r2, r3, r4, r5, r6, r7, r8) := by rw [if_neg (show ¬ (some q209).isNone = true by simp)] at H; exact H
        clear H
        have H := H1
        clear H1
        try simp only [errW_none, errW_some]
        simp only [Option.some.injEq, Prod.mk.injEq] at H
        obtain ⟨rfl, rfl, rfl, rfl, rfl, rfl, rfl, rfl⟩ := H
        go_enter Tryd.func35, Tryd.ntmps35
        go_wp2_with (first | ((with_reducible refine gate_callee (f := 33) rfl ?_); refine goesL_ (some 14) rfl rfl Tryd.func33 (by kernel_rfl) rfl #[.string a0, .string (⟨#[47]⟩ : ByteArray)] rfl (by (try simp only [List.map_toArray, List.map_cons, List.map_nil]); first | done | rfl | (simp only [List.length_drop, List.length_take]; rfl)) ?_; (with_reducible refine (strings_Cut.calls a0 (⟨#[47]⟩ : ByteArray) t202 t203 true _ ?side1 A3.out).mono ?_); (case side1 => exact Gl.below HG.out (by repeat (first | (with_reducible first | exact HB.out | apply below_alloc | apply pw_below_drewN | apply below_drew1 | refine below_set ?_ (IsS23.ge HI1.out)) | exact HB.out))); rintro e w12 ⟨rfl, hb⟩; refine ⟨_, rfl, ?_⟩; have n0_ := Aside0.mk (IsS23.below (by repeat (first | (with_reducible first | exact HI1.out | apply IsS23.alloc | apply IsS23.drewN | apply IsS23.drew | apply IsS23.set_0 | apply IsS23.set_1 | apply IsS23.set_2 | apply IsS23.set_3 | apply IsS23.set_4 | apply IsS23.set_5 | apply IsS23.set_6) | exact HI1.out)) hb); have n1_ := Aside0.mk (KeepBut.trans (by repeat (first | (with_reducible first | exact HK.out | apply KeepBut.set_ | apply keep_drewN | apply keep_drew | apply keep_alloc) | exact HK.out)) (KeepBut.of_below hb g none) (.inl rfl)); have n2_ := Aside0.mk (below_step (by repeat (first | (with_reducible first | exact HB.out | apply below_alloc | apply pw_below_drewN | apply below_drew1 | refine below_set ?_ (IsS23.ge HI1.out)) | exact HB.out)) hb); clear HI1; clear HK; clear HB; have HI1 := n0_; have HK := n1_; have HB := n2_; clear n0_ n1_ n2_; (try clear hb); (try clear hb2); (try clear hk); (try clear hi)) | ((with_reducible refine gate_callee (f := 59) rfl ?_); refine goesL_ (some 20) rfl rfl Tryd.func59 (by kernel_rfl) rfl #[.string t202] rfl (by (try simp only [List.map_toArray, List.map_cons, List.map_nil]); first | done | rfl | (simp only [List.length_drop, List.length_take]; rfl)) ?_; (with_reducible refine (money_Parse.calls k t202 t205 t206 _ ?side1 A4.out).mono ?_); (case side1 => exact Gl.below HG.out (by repeat (first | (with_reducible first | exact HB.out | apply below_alloc | apply pw_below_drewN | apply below_drew1 | refine below_set ?_ (IsS23.ge HI1.out)) | exact HB.out))); rintro e w13 ⟨rfl, hb⟩; refine ⟨_, rfl, ?_⟩; have n0_ := Aside0.mk (IsS23.below (by repeat (first | (with_reducible first | exact HI1.out | apply IsS23.alloc | apply IsS23.drewN | apply IsS23.drew | apply IsS23.set_0 | apply IsS23.set_1 | apply IsS23.set_2 | apply IsS23.set_3 | apply IsS23.set_4 | apply IsS23.set_5 | apply IsS23.set_6) | exact HI1.out)) hb); have n1_ := Aside0.mk (KeepBut.trans (by repeat (first | (with_reducible first | exact HK.out | apply KeepBut.set_ | apply keep_drewN | apply keep_drew | apply keep_alloc) | exact HK.out)) (KeepBut.of_below hb g none) (.inl rfl)); have n2_ := Aside0.mk (below_step (by repeat (first | (with_reducible first | exact HB.out | apply below_alloc | apply pw_below_drewN | apply below_drew1 | refine below_set ?_ (IsS23.ge HI1.out)) | exact HB.out)) hb); clear HI1; clear HK; clear HB; have HI1 := n0_; have HK := n1_; have HB := n2_; clear n0_ n1_ n2_; (try clear hb); (try clear hb2); (try clear hk); (try clear hi)) | ((with_reducible refine gate_callee (f := 58) rfl ?_); refine goesL_ (some 25) rfl rfl Tryd.func58 (by kernel_rfl) rfl #[.string t203] rfl (by (try simp only [List.map_toArray, List.map_cons, List.map_nil]); first | done | rfl | (simp only [List.length_drop, List.length_take]; rfl)) ?_; (with_reducible refine (strconv_Atoi.calls t203 t207 (some q209) _ ?side1 A5.out).mono ?_); (case side1 => exact Gl.below HG.out (by repeat (first | (with_reducible first | exact HB.out | apply below_alloc | apply pw_below_drewN | apply below_drew1 | refine below_set ?_ (IsS23.ge HI1.out)) | exact HB.out))); rintro e w14 ⟨ce_, rfl, hb⟩; refine ⟨_, rfl, ?_⟩; have n0_ := Aside0.mk (IsS23.below (by repeat (first | (with_reducible first | exact HI1.out | apply IsS23.alloc | apply IsS23.drewN | apply IsS23.drew | apply IsS23.set_0 | apply IsS23.set_1 | apply IsS23.set_2 | apply IsS23.set_3 | apply IsS23.set_4 | apply IsS23.set_5 | apply IsS23.set_6) | exact HI1.out)) hb); have n1_ := Aside0.mk (KeepBut.trans (by repeat (first | (with_reducible first | exact HK.out | apply KeepBut.set_ | apply keep_drewN | apply keep_drew | apply keep_alloc) | exact HK.out)) (KeepBut.of_below hb g none) (.inl rfl)); have n2_ := Aside0.mk (below_step (by repeat (first | (with_reducible first | exact HB.out | apply below_alloc | apply pw_below_drewN | apply below_drew1 | refine below_set ?_ (IsS23.ge HI1.out)) | exact HB.out)) hb); clear HI1; clear HK; clear HB; have HI1 := n0_; have HK := n1_; have HB := n2_; clear n0_ n1_ n2_; (try clear hb); (try clear hb2); (try clear hk); (try clear hi); (try simp only [Option.map_none, Option.map_some, errW_none, errW_some])))
        go_ret
        exact ⟨by first | rfl | (simp [errW_none, errW_some] <;> rfl) | (simp [*, errW_none, errW_some] <;> rfl), by repeat (first | (with_reducible first | exact HI1.out | apply IsS23.alloc | apply IsS23.drewN | apply IsS23.drew | apply IsS23.set_0 | apply IsS23.set_1 | apply IsS23.set_2 | apply IsS23.set_3 | apply IsS23.set_4 | apply IsS23.set_5 | apply IsS23.set_6) | exact HI1.out), by repeat (first | (with_reducible first | exact HB.out | apply below_alloc | apply pw_below_drewN | apply below_drew1 | refine below_set ?_ (IsS23.ge HI1.out)) | exact HB.out), by repeat (first | (with_reducible first | exact HK.out | apply KeepBut.set_ | apply keep_drewN | apply keep_drew | apply keep_alloc) | exact HK.out)⟩
    · rw [if_neg c7] at H
      have c7b0 : (t206 == 0) = false := beq_eq_false_iff_ne.mpr c7
      have c7b1 : (t206 != 0) = true := bne_iff_ne.mpr c7
      simp only [Option.some.injEq, Prod.mk.injEq] at H
      obtain ⟨rfl, rfl, rfl, rfl, rfl, rfl, rfl, rfl⟩ := H
      go_enter Tryd.func35, Tryd.ntmps35
      go_wp2_with (first | ((with_reducible refine gate_callee (f := 33) rfl ?_); refine goesL_ (some 14) rfl rfl Tryd.func33 (by kernel_rfl) rfl #[.string a0, .string (⟨#[47]⟩ : ByteArray)] rfl (by (try simp only [List.map_toArray, List.map_cons, List.map_nil]); first | done | rfl | (simp only [List.length_drop, List.length_take]; rfl)) ?_; (with_reducible refine (strings_Cut.calls a0 (⟨#[47]⟩ : ByteArray) t202 t203 true _ ?side1 A3.out).mono ?_); (case side1 => exact Gl.below HG.out (by repeat (first | (with_reducible first | exact HB.out | apply below_alloc | apply pw_below_drewN | apply below_drew1 | refine below_set ?_ (IsS23.ge HI1.out)) | exact HB.out))); rintro e w15 ⟨rfl, hb⟩; refine ⟨_, rfl, ?_⟩; have n0_ := Aside0.mk (IsS23.below (by repeat (first | (with_reducible first | exact HI1.out | apply IsS23.alloc | apply IsS23.drewN | apply IsS23.drew | apply IsS23.set_0 | apply IsS23.set_1 | apply IsS23.set_2 | apply IsS23.set_3 | apply IsS23.set_4 | apply IsS23.set_5 | apply IsS23.set_6) | exact HI1.out)) hb); have n1_ := Aside0.mk (KeepBut.trans (by repeat (first | (with_reducible first | exact HK.out | apply KeepBut.set_ | apply keep_drewN | apply keep_drew | apply keep_alloc) | exact HK.out)) (KeepBut.of_below hb g none) (.inl rfl)); have n2_ := Aside0.mk (below_step (by repeat (first | (with_reducible first | exact HB.out | apply below_alloc | apply pw_below_drewN | apply below_drew1 | refine below_set ?_ (IsS23.ge HI1.out)) | exact HB.out)) hb); clear HI1; clear HK; clear HB; have HI1 := n0_; have HK := n1_; have HB := n2_; clear n0_ n1_ n2_; (try clear hb); (try clear hb2); (try clear hk); (try clear hi)) | ((with_reducible refine gate_callee (f := 59) rfl ?_); refine goesL_ (some 20) rfl rfl Tryd.func59 (by kernel_rfl) rfl #[.string t202] rfl (by (try simp only [List.map_toArray, List.map_cons, List.map_nil]); first | done | rfl | (simp only [List.length_drop, List.length_take]; rfl)) ?_; (with_reducible refine (money_Parse.calls k t202 t205 t206 _ ?side1 A4.out).mono ?_); (case side1 => exact Gl.below HG.out (by repeat (first | (with_reducible first | exact HB.out | apply below_alloc | apply pw_below_drewN | apply below_drew1 | refine below_set ?_ (IsS23.ge HI1.out)) | exact HB.out))); rintro e w16 ⟨rfl, hb⟩; refine ⟨_, rfl, ?_⟩; have n0_ := Aside0.mk (IsS23.below (by repeat (first | (with_reducible first | exact HI1.out | apply IsS23.alloc | apply IsS23.drewN | apply IsS23.drew | apply IsS23.set_0 | apply IsS23.set_1 | apply IsS23.set_2 | apply IsS23.set_3 | apply IsS23.set_4 | apply IsS23.set_5 | apply IsS23.set_6) | exact HI1.out)) hb); have n1_ := Aside0.mk (KeepBut.trans (by repeat (first | (with_reducible first | exact HK.out | apply KeepBut.set_ | apply keep_drewN | apply keep_drew | apply keep_alloc) | exact HK.out)) (KeepBut.of_below hb g none) (.inl rfl)); have n2_ := Aside0.mk (below_step (by repeat (first | (with_reducible first | exact HB.out | apply below_alloc | apply pw_below_drewN | apply below_drew1 | refine below_set ?_ (IsS23.ge HI1.out)) | exact HB.out)) hb); clear HI1; clear HK; clear HB; have HI1 := n0_; have HK := n1_; have HB := n2_; clear n0_ n1_ n2_; (try clear hb); (try clear hb2); (try clear hk); (try clear hi)) | ((with_reducible refine gate_callee (f := 58) rfl ?_); refine goesL_ (some 25) rfl rfl Tryd.func58 (by kernel_rfl) rfl #[.string t203] rfl (by (try simp only [List.map_toArray, List.map_cons, List.map_nil]); first | done | rfl | (simp only [List.length_drop, List.length_take]; rfl)) ?_; (with_reducible refine (strconv_Atoi.calls t203 t207 t208 _ ?side1 A5.out).mono ?_); (case side1 => exact Gl.below HG.out (by repeat (first | (with_reducible first | exact HB.out | apply below_alloc | apply pw_below_drewN | apply below_drew1 | refine below_set ?_ (IsS23.ge HI1.out)) | exact HB.out))); rintro e w17 ⟨ce_, rfl, hb⟩; refine ⟨_, rfl, ?_⟩; have n0_ := Aside0.mk (IsS23.below (by repeat (first | (with_reducible first | exact HI1.out | apply IsS23.alloc | apply IsS23.drewN | apply IsS23.drew | apply IsS23.set_0 | apply IsS23.set_1 | apply IsS23.set_2 | apply IsS23.set_3 | apply IsS23.set_4 | apply IsS23.set_5 | apply IsS23.set_6) | exact HI1.out)) hb); have n1_ := Aside0.mk (KeepBut.trans (by repeat (first | (with_reducible first | exact HK.out | apply KeepBut.set_ | apply keep_drewN | apply keep_drew | apply keep_alloc) | exact HK.out)) (KeepBut.of_below hb g none) (.inl rfl)); have n2_ := Aside0.mk (below_step (by repeat (first | (with_reducible first | exact HB.out | apply below_alloc | apply pw_below_drewN | apply below_drew1 | refine below_set ?_ (IsS23.ge HI1.out)) | exact HB.out)) hb); clear HI1; clear HK; clear HB; have HI1 := n0_; have HK := n1_; have HB := n2_; clear n0_ n1_ n2_; (try clear hb); (try clear hb2); (try clear hk); (try clear hi); (try simp only [Option.map_none, Option.map_some, errW_none, errW_some])))
      go_ret
      exact ⟨by first | rfl | (simp [errW_none, errW_some] <;> rfl) | (simp [*, errW_none, errW_some] <;> rfl), by repeat (first | (with_reducible first | exact HI1.out | apply IsS23.alloc | apply IsS23.drewN | apply IsS23.drew | apply IsS23.set_0 | apply IsS23.set_1 | apply IsS23.set_2 | apply IsS23.set_3 | apply IsS23.set_4 | apply IsS23.set_5 | apply IsS23.set_6) | exact HI1.out), by repeat (first | (with_reducible first | exact HB.out | apply below_alloc | apply pw_below_drewN | apply below_drew1 | refine below_set ?_ (IsS23.ge HI1.out)) | exact HB.out), by repeat (first | (with_reducible first | exact HK.out | apply KeepBut.set_ | apply keep_drewN | apply keep_drew | apply keep_alloc) | exact HK.out)⟩
  · replace c6 := Bool.eq_false_iff.mpr c6
    subst c6
    have H1 : (some (false, s1_0, s1_1, s1_2, s1_3, s1_4, s1_5, s1_6)) = some (r1, r2, r3, r4, r5, r6, r7, r8) := by rw [if_neg (show ¬ (false = true) by decide)] at H; exact H
    clear H
    have H := H1
    clear H1
    simp only [Option.some.injEq, Prod.mk.injEq] at H
    obtain ⟨rfl, rfl, rfl, rfl, rfl, rfl, rfl, rfl⟩ := H
    go_enter Tryd.func35, Tryd.ntmps35
    go_wp2_with (first | ((with_reducible refine gate_callee (f := 33) rfl ?_); refine goesL_ (some 14) rfl rfl Tryd.func33 (by kernel_rfl) rfl #[.string a0, .string (⟨#[47]⟩ : ByteArray)] rfl (by (try simp only [List.map_toArray, List.map_cons, List.map_nil]); first | done | rfl | (simp only [List.length_drop, List.length_take]; rfl)) ?_; (with_reducible refine (strings_Cut.calls a0 (⟨#[47]⟩ : ByteArray) t202 t203 false _ ?side1 A3.out).mono ?_); (case side1 => exact Gl.below HG.out (by repeat (first | (with_reducible first | exact HB.out | apply below_alloc | apply pw_below_drewN | apply below_drew1 | refine below_set ?_ (IsS23.ge HI1.out)) | exact HB.out))); rintro e w18 ⟨rfl, hb⟩; refine ⟨_, rfl, ?_⟩; have n0_ := Aside0.mk (IsS23.below (by repeat (first | (with_reducible first | exact HI1.out | apply IsS23.alloc | apply IsS23.drewN | apply IsS23.drew | apply IsS23.set_0 | apply IsS23.set_1 | apply IsS23.set_2 | apply IsS23.set_3 | apply IsS23.set_4 | apply IsS23.set_5 | apply IsS23.set_6) | exact HI1.out)) hb); have n1_ := Aside0.mk (KeepBut.trans (by repeat (first | (with_reducible first | exact HK.out | apply KeepBut.set_ | apply keep_drewN | apply keep_drew | apply keep_alloc) | exact HK.out)) (KeepBut.of_below hb g none) (.inl rfl)); have n2_ := Aside0.mk (below_step (by repeat (first | (with_reducible first | exact HB.out | apply below_alloc | apply pw_below_drewN | apply below_drew1 | refine below_set ?_ (IsS23.ge HI1.out)) | exact HB.out)) hb); clear HI1; clear HK; clear HB; have HI1 := n0_; have HK := n1_; have HB := n2_; clear n0_ n1_ n2_; (try clear hb); (try clear hb2); (try clear hk); (try clear hi)) | ((with_reducible refine gate_callee (f := 59) rfl ?_); refine goesL_ (some 20) rfl rfl Tryd.func59 (by kernel_rfl) rfl #[.string t202] rfl (by (try simp only [List.map_toArray, List.map_cons, List.map_nil]); first | done | rfl | (simp only [List.length_drop, List.length_take]; rfl)) ?_; (with_reducible refine (money_Parse.calls k t202 t205 t206 _ ?side1 A4.out).mono ?_); (case side1 => exact Gl.below HG.out (by repeat (first | (with_reducible first | exact HB.out | apply below_alloc | apply pw_below_drewN | apply below_drew1 | refine below_set ?_ (IsS23.ge HI1.out)) | exact HB.out))); rintro e w19 ⟨rfl, hb⟩; refine ⟨_, rfl, ?_⟩; have n0_ := Aside0.mk (IsS23.below (by repeat (first | (with_reducible first | exact HI1.out | apply IsS23.alloc | apply IsS23.drewN | apply IsS23.drew | apply IsS23.set_0 | apply IsS23.set_1 | apply IsS23.set_2 | apply IsS23.set_3 | apply IsS23.set_4 | apply IsS23.set_5 | apply IsS23.set_6) | exact HI1.out)) hb); have n1_ := Aside0.mk (KeepBut.trans (by repeat (first | (with_reducible first | exact HK.out | apply KeepBut.set_ | apply keep_drewN | apply keep_drew | apply keep_alloc) | exact HK.out)) (KeepBut.of_below hb g none) (.inl rfl)); have n2_ := Aside0.mk (below_step (by repeat (first | (with_reducible first | exact HB.out | apply below_alloc | apply pw_below_drewN | apply below_drew1 | refine below_set ?_ (IsS23.ge HI1.out)) | exact HB.out)) hb); clear HI1; clear HK; clear HB; have HI1 := n0_; have HK := n1_; have HB := n2_; clear n0_ n1_ n2_; (try clear hb); (try clear hb2); (try clear hk); (try clear hi)) | ((with_reducible refine gate_callee (f := 58) rfl ?_); refine goesL_ (some 25) rfl rfl Tryd.func58 (by kernel_rfl) rfl #[.string t203] rfl (by (try simp only [List.map_toArray, List.map_cons, List.map_nil]); first | done | rfl | (simp only [List.length_drop, List.length_take]; rfl)) ?_; (with_reducible refine (strconv_Atoi.calls t203 t207 t208 _ ?side1 A5.out).mono ?_); (case side1 => exact Gl.below HG.out (by repeat (first | (with_reducible first | exact HB.out | apply below_alloc | apply pw_below_drewN | apply below_drew1 | refine below_set ?_ (IsS23.ge HI1.out)) | exact HB.out))); rintro e w20 ⟨ce_, rfl, hb⟩; refine ⟨_, rfl, ?_⟩; have n0_ := Aside0.mk (IsS23.below (by repeat (first | (with_reducible first | exact HI1.out | apply IsS23.alloc | apply IsS23.drewN | apply IsS23.drew | apply IsS23.set_0 | apply IsS23.set_1 | apply IsS23.set_2 | apply IsS23.set_3 | apply IsS23.set_4 | apply IsS23.set_5 | apply IsS23.set_6) | exact HI1.out)) hb); have n1_ := Aside0.mk (KeepBut.trans (by repeat (first | (with_reducible first | exact HK.out | apply KeepBut.set_ | apply keep_drewN | apply keep_drew | apply keep_alloc) | exact HK.out)) (KeepBut.of_below hb g none) (.inl rfl)); have n2_ := Aside0.mk (below_step (by repeat (first | (with_reducible first | exact HB.out | apply below_alloc | apply pw_below_drewN | apply below_drew1 | refine below_set ?_ (IsS23.ge HI1.out)) | exact HB.out)) hb); clear HI1; clear HK; clear HB; have HI1 := n0_; have HK := n1_; have HB := n2_; clear n0_ n1_ n2_; (try clear hb); (try clear hb2); (try clear hk); (try clear hi); (try simp only [Option.map_none, Option.map_some, errW_none, errW_some])))
    go_ret
    exact ⟨by first | rfl | (simp [errW_none, errW_some] <;> rfl) | (simp [*, errW_none, errW_some] <;> rfl), by repeat (first | (with_reducible first | exact HI1.out | apply IsS23.alloc | apply IsS23.drewN | apply IsS23.drew | apply IsS23.set_0 | apply IsS23.set_1 | apply IsS23.set_2 | apply IsS23.set_3 | apply IsS23.set_4 | apply IsS23.set_5 | apply IsS23.set_6) | exact HI1.out), by repeat (first | (with_reducible first | exact HB.out | apply below_alloc | apply pw_below_drewN | apply below_drew1 | refine below_set ?_ (IsS23.ge HI1.out)) | exact HB.out), by repeat (first | (with_reducible first | exact HK.out | apply KeepBut.set_ | apply keep_drewN | apply keep_drew | apply keep_alloc) | exact HK.out)⟩

end Go.Proofs.YtfpkgdkcllobiaaDoor.F
end
section
namespace Go.Proofs.YtfpkgdkcllobiaaDoor.F
open Go.RowKit Go.Proofs.YtfpkgdkcllobiaaDoorW.PrintWords Go.Proofs.YtfpkgdkcllobiaaDoorW.PrintLast Go.Proofs.YtfpkgdkcllobiaaDoorW.PrintMore
attribute [local go_sem] max2_int min2_int max_two min_two max_three min_three max_four min_four   -- for this text's walks alone
set_option linter.unusedVariables false
set_option linter.unusedSimpArgs false

/-! ### duty_Parse: function 17 -/
mutual
def duty_Parse.j0 : Nat → ByteArray → ByteArray → Int → Int → Int → Bool → Int → Bool → Int → Option (Int × Int × Int × Bool × Int × Bool × Int × Int)
  | 0, _, _, _, _, _, _, _, _, _ => none
  | k + 1, x0, x5, x212000, x212001, x212002, x212003, x212004, x212005, x212006 => (strings_Cut.f x5 (⟨#[32, 109, 97, 120, 32]⟩ : ByteArray)).bind fun bt216 => (if bt216.2.2 = true then ((duty_parts.f k bt216.2.1).bind fun t219 => (duty_Parse.j1 k x0 bt216.1 x212000 x212001 x212002 true t219 x212005 x212006)) else (duty_Parse.j1 k x0 bt216.1 x212000 x212001 x212002 x212003 x212004 x212005 x212006))
def duty_Parse.j1 : Nat → ByteArray → ByteArray → Int → Int → Int → Bool → Int → Bool → Int → Option (Int × Int × Int × Bool × Int × Bool × Int × Int)
  | 0, _, _, _, _, _, _, _, _, _ => none
  | k + 1, x0, x5, x212000, x212001, x212002, x212003, x212004, x212005, x212006 => (strings_Cut.f x5 (⟨#[32, 43, 32]⟩ : ByteArray)).bind fun bt220 => (if bt220.2.2 = true then ((duty_parts.f k bt220.1).bind fun t223 => ((duty_amount.f k bt220.2.1 t223 x212001 x212002 x212003 x212004 x212005 x212006).bind fun bt224 => (if bt224.1 = true then (duty_Parse.j2 k x0 bt224.2.1 bt224.2.2.1 bt224.2.2.2.1 bt224.2.2.2.2.1 bt224.2.2.2.2.2.1 bt224.2.2.2.2.2.2.1 bt224.2.2.2.2.2.2.2) else (some (0, 0, 0, false, 0, false, 0, 4))))) else ((duty_amount.f k bt220.1 x212000 x212001 x212002 x212003 x212004 x212005 x212006).bind fun bt232 => (if bt232.1 = true then (duty_Parse.j2 k x0 bt232.2.1 bt232.2.2.1 bt232.2.2.2.1 bt232.2.2.2.2.1 bt232.2.2.2.2.2.1 bt232.2.2.2.2.2.2.1 bt232.2.2.2.2.2.2.2) else ((duty_parts.f k bt220.1).bind fun t240 => (duty_Parse.j2 k x0 t240 bt232.2.2.1 bt232.2.2.2.1 bt232.2.2.2.2.1 bt232.2.2.2.2.2.1 bt232.2.2.2.2.2.2.1 bt232.2.2.2.2.2.2.2)))))
def duty_Parse.j2 : Nat → ByteArray → Int → Int → Int → Bool → Int → Bool → Int → Option (Int × Int × Int × Bool × Int × Bool × Int × Int)
  | 0, _, _, _, _, _, _, _, _ => none
  | k + 1, x0, x212000, x212001, x212002, x212003, x212004, x212005, x212006 => (duty_Validate.f k x212000 x212001 x212002 x212003 x212004 x212005 x212006).bind fun t241 => (if t241 = 0 then ((duty_Format.f k x212000 x212001 x212002 x212003 x212004 x212005 x212006).bind fun t242 => (if t242.toList = x0.toList then (some (x212000, x212001, x212002, x212003, x212004, x212005, x212006, 0)) else (some (0, 0, 0, false, 0, false, 0, 4)))) else (some (0, 0, 0, false, 0, false, 0, 4)))
end
def duty_Parse.f (k : Nat) (a0 : ByteArray) : Option (Int × Int × Int × Bool × Int × Bool × Int × Int) := (strings_Cut.f a0 (⟨#[32, 109, 105, 110, 32]⟩ : ByteArray)).bind fun bt212 => (if bt212.2.2 = true then ((duty_parts.f k bt212.2.1).bind fun t215 => (duty_Parse.j0 k a0 bt212.1 0 0 0 false 0 true t215)) else (duty_Parse.j0 k a0 bt212.1 0 0 0 false 0 false 0))
theorem duty_Parse.mono_l : ∀ k, (∀ y0 y1 y2 y3 y4 y5 y6 y7 y8, LeO (duty_Parse.j0 k y0 y1 y2 y3 y4 y5 y6 y7 y8) (duty_Parse.j0 (k + 1) y0 y1 y2 y3 y4 y5 y6 y7 y8)) ∧ (∀ y0 y1 y2 y3 y4 y5 y6 y7 y8, LeO (duty_Parse.j1 k y0 y1 y2 y3 y4 y5 y6 y7 y8) (duty_Parse.j1 (k + 1) y0 y1 y2 y3 y4 y5 y6 y7 y8)) ∧ (∀ y0 y1 y2 y3 y4 y5 y6 y7, LeO (duty_Parse.j2 k y0 y1 y2 y3 y4 y5 y6 y7) (duty_Parse.j2 (k + 1) y0 y1 y2 y3 y4 y5 y6 y7))
  | 0 => ⟨fun _ _ _ _ _ _ _ _ _ r h => by simp [duty_Parse.j0] at h, fun _ _ _ _ _ _ _ _ _ r h => by simp [duty_Parse.j1] at h, fun _ _ _ _ _ _ _ _ r h => by simp [duty_Parse.j2] at h⟩
  | k + 1 => by
    obtain ⟨ih0, ih1, ih2⟩ := duty_Parse.mono_l k
    refine ⟨?_, ?_, ?_⟩
    · intro y0 y1 y2 y3 y4 y5 y6 y7 y8
      unfold duty_Parse.j0
      repeat' first
      | (with_reducible exact ih0 _ _ _ _ _ _ _ _ _)
      | (with_reducible exact ih1 _ _ _ _ _ _ _ _ _)
      | (with_reducible exact ih2 _ _ _ _ _ _ _ _)
      | (with_reducible exact duty_Format.mono _ _ _ _ _ _ _ _)
      | (with_reducible exact duty_Validate.mono _ _ _ _ _ _ _ _)
      | (with_reducible exact duty_amount.mono _ _ _ _ _ _ _ _ _)
      | (with_reducible exact duty_parts.mono _ _)
      | (with_reducible exact LeO.refl _)
      | (with_reducible exact LeO.none _)
      | (with_reducible refine LeO.ite ?_ ?_)
      | (with_reducible refine LeO.bind ?_ (fun _ => ?_))
      | exact ih0 _ _ _ _ _ _ _ _ _
      | exact ih1 _ _ _ _ _ _ _ _ _
      | exact ih2 _ _ _ _ _ _ _ _
      | exact duty_Format.mono _ _ _ _ _ _ _ _
      | exact duty_Validate.mono _ _ _ _ _ _ _ _
      | exact duty_amount.mono _ _ _ _ _ _ _ _ _
      | exact duty_parts.mono _ _
      | exact LeO.none _
      | refine LeO.ite ?_ ?_
      | refine LeO.bind ?_ (fun _ => ?_)
    · intro y0 y1 y2 y3 y4 y5 y6 y7 y8
      unfold duty_Parse.j1
      repeat' first
      | (with_reducible exact ih0 _ _ _ _ _ _ _ _ _)
      | (with_reducible exact ih1 _ _ _ _ _ _ _ _ _)
      | (with_reducible exact ih2 _ _ _ _ _ _ _ _)
      | (with_reducible exact duty_Format.mono _ _ _ _ _ _ _ _)
      | (with_reducible exact duty_Validate.mono _ _ _ _ _ _ _ _)
      | (with_reducible exact duty_amount.mono _ _ _ _ _ _ _ _ _)
      | (with_reducible exact duty_parts.mono _ _)
      | (with_reducible exact LeO.refl _)
      | (with_reducible exact LeO.none _)
      | (with_reducible refine LeO.ite ?_ ?_)
      | (with_reducible refine LeO.bind ?_ (fun _ => ?_))
      | exact ih0 _ _ _ _ _ _ _ _ _
      | exact ih1 _ _ _ _ _ _ _ _ _
      | exact ih2 _ _ _ _ _ _ _ _
      | exact duty_Format.mono _ _ _ _ _ _ _ _
      | exact duty_Validate.mono _ _ _ _ _ _ _ _
      | exact duty_amount.mono _ _ _ _ _ _ _ _ _
      | exact duty_parts.mono _ _
      | exact LeO.none _
      | refine LeO.ite ?_ ?_
      | refine LeO.bind ?_ (fun _ => ?_)
    · intro y0 y1 y2 y3 y4 y5 y6 y7
      unfold duty_Parse.j2
      repeat' first
      | (with_reducible exact ih0 _ _ _ _ _ _ _ _ _)
      | (with_reducible exact ih1 _ _ _ _ _ _ _ _ _)
      | (with_reducible exact ih2 _ _ _ _ _ _ _ _)
      | (with_reducible exact duty_Format.mono _ _ _ _ _ _ _ _)
      | (with_reducible exact duty_Validate.mono _ _ _ _ _ _ _ _)
      | (with_reducible exact duty_amount.mono _ _ _ _ _ _ _ _ _)
      | (with_reducible exact duty_parts.mono _ _)
      | (with_reducible exact LeO.refl _)
      | (with_reducible exact LeO.none _)
      | (with_reducible refine LeO.ite ?_ ?_)
      | (with_reducible refine LeO.bind ?_ (fun _ => ?_))
      | exact ih0 _ _ _ _ _ _ _ _ _
      | exact ih1 _ _ _ _ _ _ _ _ _
      | exact ih2 _ _ _ _ _ _ _ _
      | exact duty_Format.mono _ _ _ _ _ _ _ _
      | exact duty_Validate.mono _ _ _ _ _ _ _ _
      | exact duty_amount.mono _ _ _ _ _ _ _ _ _
      | exact duty_parts.mono _ _
      | exact LeO.none _
      | refine LeO.ite ?_ ?_
      | refine LeO.bind ?_ (fun _ => ?_)
theorem duty_Parse.mono : ∀ a0 k, LeO (duty_Parse.f k a0) (duty_Parse.f (k + 1) a0) := by
  intro a0 k
  obtain ⟨ih0, ih1, ih2⟩ := duty_Parse.mono_l k
  unfold duty_Parse.f
  repeat' first
      | (with_reducible exact ih0 _ _ _ _ _ _ _ _ _)
      | (with_reducible exact ih1 _ _ _ _ _ _ _ _ _)
      | (with_reducible exact ih2 _ _ _ _ _ _ _ _)
      | (with_reducible exact duty_Format.mono _ _ _ _ _ _ _ _)
      | (with_reducible exact duty_Validate.mono _ _ _ _ _ _ _ _)
      | (with_reducible exact duty_amount.mono _ _ _ _ _ _ _ _ _)
      | (with_reducible exact duty_parts.mono _ _)
      | (with_reducible exact LeO.refl _)
      | (with_reducible exact LeO.none _)
      | (with_reducible refine LeO.ite ?_ ?_)
      | (with_reducible refine LeO.bind ?_ (fun _ => ?_))
      | exact ih0 _ _ _ _ _ _ _ _ _
      | exact ih1 _ _ _ _ _ _ _ _ _
      | exact ih2 _ _ _ _ _ _ _ _
      | exact duty_Format.mono _ _ _ _ _ _ _ _
      | exact duty_Validate.mono _ _ _ _ _ _ _ _
      | exact duty_amount.mono _ _ _ _ _ _ _ _ _
      | exact duty_parts.mono _ _
      | exact LeO.none _
      | refine LeO.ite ?_ ?_
      | refine LeO.bind ?_ (fun _ => ?_)
set_option maxHeartbeats 8000000 in
set_option maxRecDepth 100000 in
theorem duty_Parse.calls (k : Nat) (a0 : ByteArray) (r1 : Int) (r2 : Int) (r3 : Int) (r4 : Bool) (r5 : Int) (r6 : Bool) (r7 : Int) (r8 : Int) (w : World) (hG : Gl w) (h : duty_Parse.f k a0 = some (r1, r2, r3, r4, r5, r6, r7, r8)) :
    Calls Tryd.prog 17 #[.string a0] w fun e w' => e = .returned (.tuple #[.agg #[.int .i64 r1, .int .i64 r2, .int .i64 r3, .bool r4, .int .i64 r5, .bool r6, .int .i64 r7], .int .i64 r8]) ∧ Below w.heap.size w w' := by
  have hu23 := Tryd.underlying23
  have HG := Aside0.mk hG
  clear hG
  have HB := Aside0.mk (Below.refl w.heap.size w)
  have H : ((strings_Cut.f a0 (⟨#[32, 109, 105, 110, 32]⟩ : ByteArray)).bind fun bt212 => (if bt212.2.2 = true then ((duty_parts.f k bt212.2.1).bind fun t215 => (duty_Parse.j0 k a0 bt212.1 0 0 0 false 0 true t215)) else (duty_Parse.j0 k a0 bt212.1 0 0 0 false 0 false 0))) = some (r1, r2, r3, r4, r5, r6, r7, r8) := h
  clear h
  replace H := Option.bind_eq_some_iff.mp H
  obtain ⟨⟨t212, t213, t214⟩, A20, H⟩ := H
  replace H : (if t214 = true then ((duty_parts.f k t213).bind fun t215 => (duty_Parse.j0 k a0 t212 0 0 0 false 0 true t215)) else (duty_Parse.j0 k a0 t212 0 0 0 false 0 false 0)) = some (r1, r2, r3, r4, r5, r6, r7, r8) := H
  have A2 := Aside0.mk A20
  clear A20
  have HC3 := Aside0.mk H
  clear H
  go_enter Tryd.func17, Tryd.ntmps17
  go_upto_if 17 with (first | ((with_reducible refine gate_dst (N := 2) rfl ?_); refine box_event ?hg (N := 2) ?hd (cs := #[.int .i64 0, .int .i64 0, .int .i64 0, .bool false, .int .i64 0, .bool false, .int .i64 0]) (t := 23) ?hr ?_; (case hd => rfl); (case hg => rfl); (case hr => first | (go_simp; done) | (go_simp; rfl)); intro gb210 hg w4 hbox hb; have n0_ := Aside0.mk (below_step (by repeat (first | (with_reducible first | exact HB.out | apply below_alloc | apply pw_below_drewN | apply below_drew1) | exact HB.out)) hb); have n1_ := Aside0.mk (hbox); have n2_ := Aside0.mk ((by rw [hg]; exact (below_size (by repeat (first | (with_reducible first | exact HB.out | apply below_alloc | apply pw_below_drewN | apply below_drew1) | exact HB.out))) : w.heap.size ≤ gb210)); have n3_ := Aside0.mk ((by rw [hg]; exact (below_size (by repeat (first | (with_reducible first | exact HB.out | apply below_alloc | apply pw_below_drewN | apply below_drew1) | exact HB.out))) : w.heap.size ≤ gb210)); clear HB; have HB := n0_; have BK210 := n1_; have GW210 := n2_; have GE210 := n3_; clear n0_ n1_ n2_ n3_; clear hb hbox hg) | ((with_reducible refine gate_dst (N := 4) rfl ?_); refine box_event ?hg (N := 4) ?hd (cs := #[.int .i64 0, .int .i64 0, .int .i64 0, .bool false, .int .i64 0, .bool false, .int .i64 0]) (t := 23) ?hr ?_; (case hd => rfl); (case hg => rfl); (case hr => first | (go_simp; done) | (go_simp; rfl)); intro gb211 hg w5 hbox hb; have n0_ := Aside0.mk (blk_below (g := gb210) (o := .cells #[.int .i64 0, .int .i64 0, .int .i64 0, .bool false, .int .i64 0, .bool false, .int .i64 0] 23 (0, 0)) (by (with_reducible repeat (first | refine blk_drewN ?_ _ | refine blk_drew ?_ | refine blk_alloc ?_ _)); exact BK210.out) hb); have n1_ := Aside0.mk (below_step (by repeat (first | (with_reducible first | exact HB.out | apply below_alloc | apply pw_below_drewN | apply below_drew1 | refine below_set ?_ GE210.out) | exact HB.out)) hb); have n2_ := Aside0.mk (hbox); have n3_ := Aside0.mk ((by rw [hg]; exact (below_size (by repeat (first | (with_reducible first | exact HB.out | apply below_alloc | apply pw_below_drewN | apply below_drew1 | refine below_set ?_ GE210.out) | exact HB.out))) : w.heap.size ≤ gb211)); have n4_ := Aside0.mk ((by rw [hg]; exact (below_size (by repeat (first | (with_reducible first | exact HB.out | apply below_alloc | apply pw_below_drewN | apply below_drew1 | refine below_set ?_ GE210.out) | exact HB.out))) : w.heap.size ≤ gb211)); have n5_ := Aside0.mk ((by rw [hg]; exact Nat.ne_of_lt (blk_lt (g := gb210) (o := .cells #[.int .i64 0, .int .i64 0, .int .i64 0, .bool false, .int .i64 0, .bool false, .int .i64 0] 23 (0, 0)) (by (with_reducible repeat (first | refine blk_drewN ?_ _ | refine blk_drew ?_ | refine blk_alloc ?_ _)); exact BK210.out)) : gb210 ≠ gb211)); have n6_ := Aside0.mk ((by rw [hg]; exact Nat.ne_of_gt (blk_lt (g := gb210) (o := .cells #[.int .i64 0, .int .i64 0, .int .i64 0, .bool false, .int .i64 0, .bool false, .int .i64 0] 23 (0, 0)) (by (with_reducible repeat (first | refine blk_drewN ?_ _ | refine blk_drew ?_ | refine blk_alloc ?_ _)); exact BK210.out)) : gb211 ≠ gb210)); clear BK210; clear HB; have BK210 := n0_; have HB := n1_; have BK211 := n2_; have GW211 := n3_; have GE211 := n4_; have NB210_211 := n5_; have NB211_210 := n6_; clear n0_ n1_ n2_ n3_ n4_ n5_ n6_; clear hb hbox hg) | ((with_reducible refine gate_callee (f := 33) rfl ?_); refine goesL_ (some 13) rfl rfl Tryd.func33 (by kernel_rfl) rfl #[.string a0, .string (⟨#[32, 109, 105, 110, 32]⟩ : ByteArray)] rfl (by (try simp only [List.map_toArray, List.map_cons, List.map_nil]); first | done | rfl | (simp only [List.length_drop, List.length_take]; rfl)) ?_; (with_reducible refine (strings_Cut.calls a0 (⟨#[32, 109, 105, 110, 32]⟩ : ByteArray) t212 t213 t214 _ ?side1 A2.out).mono ?_); (case side1 => exact Gl.below HG.out (by repeat (first | (with_reducible first | exact HB.out | apply below_alloc | apply pw_below_drewN | apply below_drew1 | refine below_set ?_ GE210.out | refine below_set ?_ GE211.out) | exact HB.out))); rintro e w6 ⟨rfl, hb⟩; refine ⟨_, rfl, ?_⟩; have n0_ := Aside0.mk (blk_below (g := gb210) (o := .cells #[.int .i64 0, .int .i64 0, .int .i64 0, .bool false, .int .i64 0, .bool false, .int .i64 0] 23 (0, 0)) (by (with_reducible repeat (first | refine blk_drewN ?_ _ | refine blk_drew ?_ | refine blk_alloc ?_ _)); exact BK210.out) hb); have n1_ := Aside0.mk (blk_below (g := gb211) (o := .cells #[.int .i64 0, .int .i64 0, .int .i64 0, .bool false, .int .i64 0, .bool false, .int .i64 0] 23 (0, 0)) (by (with_reducible repeat (first | refine blk_drewN ?_ _ | refine blk_drew ?_ | refine blk_alloc ?_ _)); exact BK211.out) hb); have n2_ := Aside0.mk (below_step (by repeat (first | (with_reducible first | exact HB.out | apply below_alloc | apply pw_below_drewN | apply below_drew1 | refine below_set ?_ GE210.out | refine below_set ?_ GE211.out) | exact HB.out)) hb); clear BK210; clear BK211; clear HB; have BK210 := n0_; have BK211 := n1_; have HB := n2_; clear n0_ n1_ n2_; (try clear hb); (try clear hb2); (try clear hk); (try clear hi)))
  (try simp only [Act.put, List.setIfInBounds_toArray, List.set_cons_zero, List.set_cons_succ])
  go_cut [] (fun wc => ∃ (kq : Nat) (x212005_2 : Bool) (x212006_2 : Int), Aside0 (duty_Parse.j0 kq a0 t212 0 0 0 false 0 x212005_2 x212006_2 = some (r1, r2, r3, r4, r5, r6, r7, r8)) ∧ Aside0 (kq ≤ k) ∧ Aside0 (wc.heap[gb210]? = some (.cells #[.int .i64 0, .int .i64 0, .int .i64 0, .bool false, .int .i64 0, .bool false, .int .i64 0] 23 (0, 0))) ∧ Aside0 (IsS23 w wc gb211 0 0 0 false 0 x212005_2 x212006_2) ∧ Aside0 (Below w.heap.size w wc))
  case first =>
    have H := HC3.out
    clear HC3
    by_cases c7 : t214 = true
    · subst c7
      have H1 : ((duty_parts.f k t213).bind fun t215 => (duty_Parse.j0 k a0 t212 0 0 0 false 0 true t215)) = some (r1, r2, r3, r4, r5, r6, r7, r8) := by rw [if_pos rfl] at H; exact H
      clear H
      have H := H1
      clear H1
      replace H := Option.bind_eq_some_iff.mp H
      obtain ⟨t215, A80, H⟩ := H
      replace H : (duty_Parse.j0 k a0 t212 0 0 0 false 0 true t215) = some (r1, r2, r3, r4, r5, r6, r7, r8) := H
      have A8 := Aside0.mk A80
      clear A80
      have H' := Aside0.mk H
      clear H
      go_wp2_with (first | ((with_reducible refine gate_callee (f := 34) rfl ?_); refine goesL_ (some 19) rfl rfl Tryd.func34 (by kernel_rfl) rfl #[.string t213] rfl (by (try simp only [List.map_toArray, List.map_cons, List.map_nil]); first | done | rfl | (simp only [List.length_drop, List.length_take]; rfl)) ?_; (with_reducible refine (duty_parts.calls k t213 t215 _ ?side1 A8.out).mono ?_); (case side1 => exact Gl.below HG.out (by repeat (first | (with_reducible first | exact HB.out | apply below_alloc | apply pw_below_drewN | apply below_drew1 | refine below_set ?_ GE210.out | refine below_set ?_ GE211.out) | exact HB.out))); rintro e w9 ⟨rfl, hb⟩; refine ⟨_, rfl, ?_⟩; have n0_ := Aside0.mk (blk_below (g := gb210) (o := .cells #[.int .i64 0, .int .i64 0, .int .i64 0, .bool false, .int .i64 0, .bool false, .int .i64 0] 23 (0, 0)) (by (with_reducible repeat (first | refine blk_drewN ?_ _ | refine blk_drew ?_ | refine blk_alloc ?_ _)); exact BK210.out) hb); have n1_ := Aside0.mk (blk_below (g := gb211) (o := .cells #[.int .i64 0, .int .i64 0, .int .i64 0, .bool false, .int .i64 0, .bool false, .int .i64 0] 23 (0, 0)) (by (with_reducible repeat (first | refine blk_drewN ?_ _ | refine blk_drew ?_ | refine blk_alloc ?_ _)); exact BK211.out) hb); have n2_ := Aside0.mk (below_step (by repeat (first | (with_reducible first | exact HB.out | apply below_alloc | apply pw_below_drewN | apply below_drew1 | refine below_set ?_ GE210.out | refine below_set ?_ GE211.out) | exact HB.out)) hb); clear BK210; clear BK211; clear HB; have BK210 := n0_; have BK211 := n1_; have HB := n2_; clear n0_ n1_ n2_; (try clear hb); (try clear hb2); (try clear hk); (try clear hi); have hnb10 := NB211_210.out; have hnc10 := NB210_211.out; have hcz11_0 : w9.cell? ⟨gb211, 0, none⟩ = some (.int .i64 0) := (blk_cell BK211.out 0).trans rfl; have hcz11_1 : w9.cell? ⟨gb211, 1, none⟩ = some (.int .i64 0) := (blk_cell BK211.out 1).trans rfl; have hcz11_2 : w9.cell? ⟨gb211, 2, none⟩ = some (.int .i64 0) := (blk_cell BK211.out 2).trans rfl; have hcz11_3 : w9.cell? ⟨gb211, 3, none⟩ = some (.bool false) := (blk_cell BK211.out 3).trans rfl; have hcz11_4 : w9.cell? ⟨gb211, 4, none⟩ = some (.int .i64 0) := (blk_cell BK211.out 4).trans rfl; have hcz11_5 : w9.cell? ⟨gb211, 5, none⟩ = some (.bool false) := (blk_cell BK211.out 5).trans rfl; have hcz11_6 : w9.cell? ⟨gb211, 6, none⟩ = some (.int .i64 0) := (blk_cell BK211.out 6).trans rfl; have hfz11_0 := blk_frozen BK211.out 0; have hfz11_1 := blk_frozen BK211.out 1; have hfz11_2 := blk_frozen BK211.out 2; have hfz11_3 := blk_frozen BK211.out 3; have hfz11_4 := blk_frozen BK211.out 4; have hfz11_5 := blk_frozen BK211.out 5; have hfz11_6 := blk_frozen BK211.out 6))
      go_meet
      case rel => exact ⟨_, (true), (t215), H', ⟨by first | omega | exact Nat.le_refl _⟩, ⟨by (with_reducible repeat (first | refine blk_drewN ?_ _ | refine blk_drew ?_ | refine blk_alloc ?_ _)); refine blk_far ?_ NB210_211.out _; (with_reducible repeat (first | refine blk_drewN ?_ _ | refine blk_drew ?_ | refine blk_alloc ?_ _)); refine blk_far ?_ NB210_211.out _; (with_reducible repeat (first | refine blk_drewN ?_ _ | refine blk_drew ?_ | refine blk_alloc ?_ _)); exact BK210.out⟩, ⟨by unfold IsS23; exact ⟨(by (with_reducible repeat (first | refine blk_drewN ?_ _ | refine blk_drew ?_ | refine blk_alloc ?_ _)); refine blk_put (cs := #[.int .i64 0, .int .i64 0, .int .i64 0, .bool false, .int .i64 0, .bool true, .int .i64 0]) ?_ 6 _ rfl; (with_reducible repeat (first | refine blk_drewN ?_ _ | refine blk_drew ?_ | refine blk_alloc ?_ _)); refine blk_put (cs := #[.int .i64 0, .int .i64 0, .int .i64 0, .bool false, .int .i64 0, .bool false, .int .i64 0]) ?_ 5 _ rfl; (with_reducible repeat (first | refine blk_drewN ?_ _ | refine blk_drew ?_ | refine blk_alloc ?_ _)); exact BK211.out), GE211.out⟩⟩, ⟨by repeat (first | (with_reducible first | exact HB.out | apply below_alloc | apply pw_below_drewN | apply below_drew1 | refine below_set ?_ GE211.out | refine below_set ?_ GE210.out) | exact HB.out)⟩⟩
    · replace c7 := Bool.eq_false_iff.mpr c7
      subst c7
      have H1 : (duty_Parse.j0 k a0 t212 0 0 0 false 0 false 0) = some (r1, r2, r3, r4, r5, r6, r7, r8) := by rw [if_neg (show ¬ (false = true) by decide)] at H; exact H
      clear H
      have H := H1
      clear H1
      have H' := Aside0.mk H
      clear H
      go_wp2
      go_meet
      case rel => exact ⟨_, (false), (0), H', ⟨by first | omega | exact Nat.le_refl _⟩, ⟨by (with_reducible repeat (first | refine blk_drewN ?_ _ | refine blk_drew ?_ | refine blk_alloc ?_ _)); exact BK210.out⟩, ⟨by unfold IsS23; exact ⟨(by (with_reducible repeat (first | refine blk_drewN ?_ _ | refine blk_drew ?_ | refine blk_alloc ?_ _)); exact BK211.out), GE211.out⟩⟩, ⟨by repeat (first | (with_reducible first | exact HB.out | apply below_alloc | apply pw_below_drewN | apply below_drew1 | refine below_set ?_ GE211.out | refine below_set ?_ GE210.out) | exact HB.out)⟩⟩
  case rest =>
    clear HC3
    try clear c1
    try clear p2
    try clear c3
    try clear c7
    try clear c10
    try clear hcz11_0
    try clear hcz11_1
    try clear hcz11_2
    try clear hcz11_3
    try clear hcz11_4
    try clear hcz11_5
    try clear hcz11_6
    try clear hfz11_0
    try clear hfz11_1
    try clear hfz11_2
    try clear hfz11_3
    try clear hfz11_4
    try clear hfz11_5
    try clear hfz11_6
    obtain ⟨kq, x212005_2, x212006_2, HA, HJ2, BK210, HI211, HB⟩ := hcut
    cases kq with
    | zero => exact absurd HA.out (by simp [duty_Parse.j0])
    | succ kj2 =>
      have H := HA.out
      clear HA
      simp only [duty_Parse.j0] at H
      replace H := Option.bind_eq_some_iff.mp H
      obtain ⟨⟨t216, t217, t218⟩, A120, H⟩ := H
      replace H : (if t218 = true then ((duty_parts.f kj2 t217).bind fun t219 => (duty_Parse.j1 kj2 a0 t216 0 0 0 true t219 x212005_2 x212006_2)) else (duty_Parse.j1 kj2 a0 t216 0 0 0 false 0 x212005_2 x212006_2)) = some (r1, r2, r3, r4, r5, r6, r7, r8) := H
      have A12 := Aside0.mk A120
      clear A120
      have HC13 := Aside0.mk H
      clear H
      go_upto_if 28 with (first | ((with_reducible refine gate_callee (f := 33) rfl ?_); refine goesL_ (some 24) rfl rfl Tryd.func33 (by kernel_rfl) rfl #[.string t212, .string (⟨#[32, 109, 97, 120, 32]⟩ : ByteArray)] rfl (by (try simp only [List.map_toArray, List.map_cons, List.map_nil]); first | done | rfl | (simp only [List.length_drop, List.length_take]; rfl)) ?_; (with_reducible refine (strings_Cut.calls t212 (⟨#[32, 109, 97, 120, 32]⟩ : ByteArray) t216 t217 t218 _ ?side1 A12.out).mono ?_); (case side1 => exact Gl.below HG.out (by repeat (first | (with_reducible first | exact HB.out | apply below_alloc | apply pw_below_drewN | apply below_drew1 | refine below_set ?_ (IsS23.ge HI211.out) | refine below_set ?_ GE210.out) | exact HB.out))); rintro e w14 ⟨rfl, hb⟩; refine ⟨_, rfl, ?_⟩; have n0_ := Aside0.mk (blk_below (g := gb210) (o := .cells #[.int .i64 0, .int .i64 0, .int .i64 0, .bool false, .int .i64 0, .bool false, .int .i64 0] 23 (0, 0)) (by (with_reducible repeat (first | refine blk_drewN ?_ _ | refine blk_drew ?_ | refine blk_alloc ?_ _)); exact BK210.out) hb); have n1_ := Aside0.mk (IsS23.below (by repeat (first | (with_reducible first | exact HI211.out | apply IsS23.alloc | apply IsS23.drewN | apply IsS23.drew | apply IsS23.set_0 | apply IsS23.set_1 | apply IsS23.set_2 | apply IsS23.set_3 | apply IsS23.set_4 | apply IsS23.set_5 | apply IsS23.set_6 | refine IsS23.far ?_ NB211_210.out _) | exact HI211.out)) hb); have n2_ := Aside0.mk (below_step (by repeat (first | (with_reducible first | exact HB.out | apply below_alloc | apply pw_below_drewN | apply below_drew1 | refine below_set ?_ (IsS23.ge HI211.out) | refine below_set ?_ GE210.out) | exact HB.out)) hb); clear BK210; clear HI211; clear HB; have BK210 := n0_; have HI211 := n1_; have HB := n2_; clear n0_ n1_ n2_; (try clear hb); (try clear hb2); (try clear hk); (try clear hi)))
      (try simp only [Act.put, List.setIfInBounds_toArray, List.set_cons_zero, List.set_cons_succ])
      go_cut [] (fun wc => ∃ (kq : Nat) (x212003_12 : Bool) (x212004_12 : Int), Aside0 (duty_Parse.j1 kq a0 t216 0 0 0 x212003_12 x212004_12 x212005_2 x212006_2 = some (r1, r2, r3, r4, r5, r6, r7, r8)) ∧ Aside0 (kq ≤ kj2) ∧ Aside0 (wc.heap[gb210]? = some (.cells #[.int .i64 0, .int .i64 0, .int .i64 0, .bool false, .int .i64 0, .bool false, .int .i64 0] 23 (0, 0))) ∧ Aside0 (IsS23 w wc gb211 0 0 0 x212003_12 x212004_12 x212005_2 x212006_2) ∧ Aside0 (Below w.heap.size w wc))
      case first =>
        have H := HC13.out
        clear HC13
        by_cases c15 : t218 = true
        · subst c15
          have H1 : ((duty_parts.f kj2 t217).bind fun t219 => (duty_Parse.j1 kj2 a0 t216 0 0 0 true t219 x212005_2 x212006_2)) = some (r1, r2, r3, r4, r5, r6, r7, r8) := by rw [if_pos rfl] at H; exact H
          clear H
          have H := H1
          clear H1
          replace H := Option.bind_eq_some_iff.mp H
          obtain ⟨t219, A160, H⟩ := H
          replace H : (duty_Parse.j1 kj2 a0 t216 0 0 0 true t219 x212005_2 x212006_2) = some (r1, r2, r3, r4, r5, r6, r7, r8) := H
          have A16 := Aside0.mk A160
          clear A160
          have H' := Aside0.mk H
          clear H
          go_wp2_with (first | ((with_reducible refine gate_callee (f := 34) rfl ?_); refine goesL_ (some 30) rfl rfl Tryd.func34 (by kernel_rfl) rfl #[.string t217] rfl (by (try simp only [List.map_toArray, List.map_cons, List.map_nil]); first | done | rfl | (simp only [List.length_drop, List.length_take]; rfl)) ?_; (with_reducible refine (duty_parts.calls kj2 t217 t219 _ ?side1 A16.out).mono ?_); (case side1 => exact Gl.below HG.out (by repeat (first | (with_reducible first | exact HB.out | apply below_alloc | apply pw_below_drewN | apply below_drew1 | refine below_set ?_ (IsS23.ge HI211.out) | refine below_set ?_ GE210.out) | exact HB.out))); rintro e w17 ⟨rfl, hb⟩; refine ⟨_, rfl, ?_⟩; have n0_ := Aside0.mk (blk_below (g := gb210) (o := .cells #[.int .i64 0, .int .i64 0, .int .i64 0, .bool false, .int .i64 0, .bool false, .int .i64 0] 23 (0, 0)) (by (with_reducible repeat (first | refine blk_drewN ?_ _ | refine blk_drew ?_ | refine blk_alloc ?_ _)); exact BK210.out) hb); have n1_ := Aside0.mk (IsS23.below (by repeat (first | (with_reducible first | exact HI211.out | apply IsS23.alloc | apply IsS23.drewN | apply IsS23.drew | apply IsS23.set_0 | apply IsS23.set_1 | apply IsS23.set_2 | apply IsS23.set_3 | apply IsS23.set_4 | apply IsS23.set_5 | apply IsS23.set_6 | refine IsS23.far ?_ NB211_210.out _) | exact HI211.out)) hb); have n2_ := Aside0.mk (below_step (by repeat (first | (with_reducible first | exact HB.out | apply below_alloc | apply pw_below_drewN | apply below_drew1 | refine below_set ?_ (IsS23.ge HI211.out) | refine below_set ?_ GE210.out) | exact HB.out)) hb); clear BK210; clear HI211; clear HB; have BK210 := n0_; have HI211 := n1_; have HB := n2_; clear n0_ n1_ n2_; (try clear hb); (try clear hb2); (try clear hk); (try clear hi); obtain ⟨HGz18, hgz18⟩ := HI211.out; have hcz18_0 := cellS23_0 HGz18; have hcz18_1 := cellS23_1 HGz18; have hcz18_2 := cellS23_2 HGz18; have hcz18_3 := cellS23_3 HGz18; have hcz18_4 := cellS23_4 HGz18; have hcz18_5 := cellS23_5 HGz18; have hcz18_6 := cellS23_6 HGz18; have hfz18_0 := blk_frozen HGz18 0; have hfz18_1 := blk_frozen HGz18 1; have hfz18_2 := blk_frozen HGz18 2; have hfz18_3 := blk_frozen HGz18 3; have hfz18_4 := blk_frozen HGz18 4; have hfz18_5 := blk_frozen HGz18 5; have hfz18_6 := blk_frozen HGz18 6; clear HGz18 hgz18))
          go_meet
          case rel => exact ⟨_, (true), (t219), H', ⟨by have := HJ2.out; first | omega | exact Nat.le_refl _⟩, ⟨by (with_reducible repeat (first | refine blk_drewN ?_ _ | refine blk_drew ?_ | refine blk_alloc ?_ _)); refine blk_far ?_ NB210_211.out _; (with_reducible repeat (first | refine blk_drewN ?_ _ | refine blk_drew ?_ | refine blk_alloc ?_ _)); refine blk_far ?_ NB210_211.out _; (with_reducible repeat (first | refine blk_drewN ?_ _ | refine blk_drew ?_ | refine blk_alloc ?_ _)); exact BK210.out⟩, ⟨by repeat (first | (with_reducible first | exact HI211.out | apply IsS23.alloc | apply IsS23.drewN | apply IsS23.drew | apply IsS23.set_0 | apply IsS23.set_1 | apply IsS23.set_2 | apply IsS23.set_3 | apply IsS23.set_4 | apply IsS23.set_5 | apply IsS23.set_6 | refine IsS23.far ?_ NB211_210.out _) | exact HI211.out)⟩, ⟨by repeat (first | (with_reducible first | exact HB.out | apply below_alloc | apply pw_below_drewN | apply below_drew1 | refine below_set ?_ (IsS23.ge HI211.out) | refine below_set ?_ GE210.out) | exact HB.out)⟩⟩
        · replace c15 := Bool.eq_false_iff.mpr c15
          subst c15
          have H1 : (duty_Parse.j1 kj2 a0 t216 0 0 0 false 0 x212005_2 x212006_2) = some (r1, r2, r3, r4, r5, r6, r7, r8) := by rw [if_neg (show ¬ (false = true) by decide)] at H; exact H
          clear H
          have H := H1
          clear H1
          have H' := Aside0.mk H
          clear H
          go_wp2
          go_meet
          case rel => exact ⟨_, (false), (0), H', ⟨by have := HJ2.out; first | omega | exact Nat.le_refl _⟩, ⟨by (with_reducible repeat (first | refine blk_drewN ?_ _ | refine blk_drew ?_ | refine blk_alloc ?_ _)); exact BK210.out⟩, ⟨by repeat (first | (with_reducible first | exact HI211.out | apply IsS23.alloc | apply IsS23.drewN | apply IsS23.drew | apply IsS23.set_0 | apply IsS23.set_1 | apply IsS23.set_2 | apply IsS23.set_3 | apply IsS23.set_4 | apply IsS23.set_5 | apply IsS23.set_6 | refine IsS23.far ?_ NB211_210.out _) | exact HI211.out)⟩, ⟨by repeat (first | (with_reducible first | exact HB.out | apply below_alloc | apply pw_below_drewN | apply below_drew1 | refine below_set ?_ (IsS23.ge HI211.out) | refine below_set ?_ GE210.out) | exact HB.out)⟩⟩
      case rest =>
        clear HC13
        try clear c1
        try clear p2
        try clear c3
        try clear c7
        try clear c10
        try clear c15
        try clear c17
        try clear hcz11_0
        try clear hcz11_1
        try clear hcz11_2
        try clear hcz11_3
        try clear hcz11_4
        try clear hcz11_5
        try clear hcz11_6
        try clear hcz18_0
        try clear hcz18_1
        try clear hcz18_2
        try clear hcz18_3
        try clear hcz18_4
        try clear hcz18_5
        try clear hcz18_6
        try clear hfz11_0
        try clear hfz11_1
        try clear hfz11_2
        try clear hfz11_3
        try clear hfz11_4
        try clear hfz11_5
        try clear hfz11_6
        try clear hfz18_0
        try clear hfz18_1
        try clear hfz18_2
        try clear hfz18_3
        try clear hfz18_4
        try clear hfz18_5
        try clear hfz18_6
        try clear p2
        obtain ⟨kq, x212003_12, x212004_12, HA, HJ12, BK210, HI211, HB⟩ := hcut
        cases kq with
        | zero => exact absurd HA.out (by simp [duty_Parse.j1])
        | succ kj12 =>
          have H := HA.out
          clear HA
          simp only [duty_Parse.j1] at H
          replace H := Option.bind_eq_some_iff.mp H
          obtain ⟨⟨t220, t221, t222⟩, A190, H⟩ := H
          replace H : (if t222 = true then ((duty_parts.f kj12 t220).bind fun t223 => ((duty_amount.f kj12 t221 t223 0 0 x212003_12 x212004_12 x212005_2 x212006_2).bind fun bt224 => (if bt224.1 = true then (duty_Parse.j2 kj12 a0 bt224.2.1 bt224.2.2.1 bt224.2.2.2.1 bt224.2.2.2.2.1 bt224.2.2.2.2.2.1 bt224.2.2.2.2.2.2.1 bt224.2.2.2.2.2.2.2) else (some (0, 0, 0, false, 0, false, 0, 4))))) else ((duty_amount.f kj12 t220 0 0 0 x212003_12 x212004_12 x212005_2 x212006_2).bind fun bt232 => (if bt232.1 = true then (duty_Parse.j2 kj12 a0 bt232.2.1 bt232.2.2.1 bt232.2.2.2.1 bt232.2.2.2.2.1 bt232.2.2.2.2.2.1 bt232.2.2.2.2.2.2.1 bt232.2.2.2.2.2.2.2) else ((duty_parts.f kj12 t220).bind fun t240 => (duty_Parse.j2 kj12 a0 t240 bt232.2.2.1 bt232.2.2.2.1 bt232.2.2.2.2.1 bt232.2.2.2.2.2.1 bt232.2.2.2.2.2.2.1 bt232.2.2.2.2.2.2.2))))) = some (r1, r2, r3, r4, r5, r6, r7, r8) := H
          have A19 := Aside0.mk A190
          clear A190
          have HC20 := Aside0.mk H
          clear H
          go_upto_block 0 with (first | ((with_reducible refine gate_callee (f := 33) rfl ?_); refine goesL_ (some 35) rfl rfl Tryd.func33 (by kernel_rfl) rfl #[.string t216, .string (⟨#[32, 43, 32]⟩ : ByteArray)] rfl (by (try simp only [List.map_toArray, List.map_cons, List.map_nil]); first | done | rfl | (simp only [List.length_drop, List.length_take]; rfl)) ?_; (with_reducible refine (strings_Cut.calls t216 (⟨#[32, 43, 32]⟩ : ByteArray) t220 t221 t222 _ ?side1 A19.out).mono ?_); (case side1 => exact Gl.below HG.out (by repeat (first | (with_reducible first | exact HB.out | apply below_alloc | apply pw_below_drewN | apply below_drew1 | refine below_set ?_ (IsS23.ge HI211.out) | refine below_set ?_ GE210.out) | exact HB.out))); rintro e w21 ⟨rfl, hb⟩; refine ⟨_, rfl, ?_⟩; have n0_ := Aside0.mk (blk_below (g := gb210) (o := .cells #[.int .i64 0, .int .i64 0, .int .i64 0, .bool false, .int .i64 0, .bool false, .int .i64 0] 23 (0, 0)) (by (with_reducible repeat (first | refine blk_drewN ?_ _ | refine blk_drew ?_ | refine blk_alloc ?_ _)); exact BK210.out) hb); have n1_ := Aside0.mk (IsS23.below (by repeat (first | (with_reducible first | exact HI211.out | apply IsS23.alloc | apply IsS23.drewN | apply IsS23.drew | apply IsS23.set_0 | apply IsS23.set_1 | apply IsS23.set_2 | apply IsS23.set_3 | apply IsS23.set_4 | apply IsS23.set_5 | apply IsS23.set_6 | refine IsS23.far ?_ NB211_210.out _) | exact HI211.out)) hb); have n2_ := Aside0.mk (below_step (by repeat (first | (with_reducible first | exact HB.out | apply below_alloc | apply pw_below_drewN | apply below_drew1 | refine below_set ?_ (IsS23.ge HI211.out) | refine below_set ?_ GE210.out) | exact HB.out)) hb); clear BK210; clear HI211; clear HB; have BK210 := n0_; have HI211 := n1_; have HB := n2_; clear n0_ n1_ n2_; (try clear hb); (try clear hb2); (try clear hk); (try clear hi)))
          (try simp only [Act.put, List.setIfInBounds_toArray, List.set_cons_zero, List.set_cons_succ])
          go_cut [] (fun wc => ∃ (kq : Nat) (x211000_19 : Int) (x211001_19 : Int) (x211002_19 : Int) (x211003_19 : Bool) (x211004_19 : Int) (x211005_19 : Bool) (x211006_19 : Int) (x212000_19 : Int) (x212001_19 : Int) (x212002_19 : Int) (x212003_19 : Bool) (x212004_19 : Int) (x212005_19 : Bool) (x212006_19 : Int), Aside0 (duty_Parse.j2 kq a0 x212000_19 x212001_19 x212002_19 x212003_19 x212004_19 x212005_19 x212006_19 = some (r1, r2, r3, r4, r5, r6, r7, r8)) ∧ Aside0 (kq ≤ kj12) ∧ Aside0 (wc.heap[gb210]? = some (.cells #[.int .i64 x211000_19, .int .i64 x211001_19, .int .i64 x211002_19, .bool x211003_19, .int .i64 x211004_19, .bool x211005_19, .int .i64 x211006_19] 23 (0, 0))) ∧ Aside0 (IsS23 w wc gb211 x212000_19 x212001_19 x212002_19 x212003_19 x212004_19 x212005_19 x212006_19) ∧ Aside0 (Below w.heap.size w wc))
          case first =>
            have H := HC20.out
            clear HC20
            by_cases c22 : t222 = true
            · subst c22
              have H1 : ((duty_parts.f kj12 t220).bind fun t223 => ((duty_amount.f kj12 t221 t223 0 0 x212003_12 x212004_12 x212005_2 x212006_2).bind fun bt224 => (if bt224.1 = true then (duty_Parse.j2 kj12 a0 bt224.2.1 bt224.2.2.1 bt224.2.2.2.1 bt224.2.2.2.2.1 bt224.2.2.2.2.2.1 bt224.2.2.2.2.2.2.1 bt224.2.2.2.2.2.2.2) else (some (0, 0, 0, false, 0, false, 0, 4))))) = some (r1, r2, r3, r4, r5, r6, r7, r8) := by rw [if_pos rfl] at H; exact H
              clear H
              have H := H1
              clear H1
              replace H := Option.bind_eq_some_iff.mp H
              obtain ⟨t223, A230, H⟩ := H
              replace H : ((duty_amount.f kj12 t221 t223 0 0 x212003_12 x212004_12 x212005_2 x212006_2).bind fun bt224 => (if bt224.1 = true then (duty_Parse.j2 kj12 a0 bt224.2.1 bt224.2.2.1 bt224.2.2.2.1 bt224.2.2.2.2.1 bt224.2.2.2.2.2.1 bt224.2.2.2.2.2.2.1 bt224.2.2.2.2.2.2.2) else (some (0, 0, 0, false, 0, false, 0, 4)))) = some (r1, r2, r3, r4, r5, r6, r7, r8) := H
              have A23 := Aside0.mk A230
              clear A230
              replace H := Option.bind_eq_some_iff.mp H
              obtain ⟨⟨t224, t225, t226, t227, t228, t229, t230, t231⟩, A240, H⟩ := H
              replace H : (if t224 = true then (duty_Parse.j2 kj12 a0 t225 t226 t227 t228 t229 t230 t231) else (some (0, 0, 0, false, 0, false, 0, 4))) = some (r1, r2, r3, r4, r5, r6, r7, r8) := H
              have A24 := Aside0.mk A240
              clear A240
              by_cases c25 : t224 = true
              · subst c25
                have H1 : (duty_Parse.j2 kj12 a0 t225 t226 t227 t228 t229 t230 t231) = some (r1, r2, r3, r4, r5, r6, r7, r8) := by rw [if_pos rfl] at H; exact H
                clear H
                have H := H1
                clear H1
                have H' := Aside0.mk H
                clear H
                go_wp2_with (first | ((with_reducible refine gate_callee (f := 34) rfl ?_); refine goesL_ (some 42) rfl rfl Tryd.func34 (by kernel_rfl) rfl #[.string t220] rfl (by (try simp only [List.map_toArray, List.map_cons, List.map_nil]); first | done | rfl | (simp only [List.length_drop, List.length_take]; rfl)) ?_; (with_reducible refine (duty_parts.calls kj12 t220 t223 _ ?side1 A23.out).mono ?_); (case side1 => exact Gl.below HG.out (by repeat (first | (with_reducible first | exact HB.out | apply below_alloc | apply pw_below_drewN | apply below_drew1 | refine below_set ?_ (IsS23.ge HI211.out) | refine below_set ?_ GE210.out) | exact HB.out))); rintro e w26 ⟨rfl, hb⟩; refine ⟨_, rfl, ?_⟩; have n0_ := Aside0.mk (blk_below (g := gb210) (o := .cells #[.int .i64 0, .int .i64 0, .int .i64 0, .bool false, .int .i64 0, .bool false, .int .i64 0] 23 (0, 0)) (by (with_reducible repeat (first | refine blk_drewN ?_ _ | refine blk_drew ?_ | refine blk_alloc ?_ _)); exact BK210.out) hb); have n1_ := Aside0.mk (IsS23.below (by repeat (first | (with_reducible first | exact HI211.out | apply IsS23.alloc | apply IsS23.drewN | apply IsS23.drew | apply IsS23.set_0 | apply IsS23.set_1 | apply IsS23.set_2 | apply IsS23.set_3 | apply IsS23.set_4 | apply IsS23.set_5 | apply IsS23.set_6 | refine IsS23.far ?_ NB211_210.out _) | exact HI211.out)) hb); have n2_ := Aside0.mk (below_step (by repeat (first | (with_reducible first | exact HB.out | apply below_alloc | apply pw_below_drewN | apply below_drew1 | refine below_set ?_ (IsS23.ge HI211.out) | refine below_set ?_ GE210.out) | exact HB.out)) hb); clear BK210; clear HI211; clear HB; have BK210 := n0_; have HI211 := n1_; have HB := n2_; clear n0_ n1_ n2_; (try clear hb); (try clear hb2); (try clear hk); (try clear hi); obtain ⟨HGz27, hgz27⟩ := HI211.out; have hcz27_0 := cellS23_0 HGz27; have hcz27_1 := cellS23_1 HGz27; have hcz27_2 := cellS23_2 HGz27; have hcz27_3 := cellS23_3 HGz27; have hcz27_4 := cellS23_4 HGz27; have hcz27_5 := cellS23_5 HGz27; have hcz27_6 := cellS23_6 HGz27; have hfz27_0 := blk_frozen HGz27 0; have hfz27_1 := blk_frozen HGz27 1; have hfz27_2 := blk_frozen HGz27 2; have hfz27_3 := blk_frozen HGz27 3; have hfz27_4 := blk_frozen HGz27 4; have hfz27_5 := blk_frozen HGz27 5; have hfz27_6 := blk_frozen HGz27 6; clear HGz27 hgz27) | ((with_reducible refine gate_callee (f := 35) rfl ?_); refine goesL_ (some 45) rfl rfl Tryd.func35 (by kernel_rfl) rfl #[.string t221, .pointer (some ⟨gb211, 0, none⟩)] rfl (by (try simp only [List.map_toArray, List.map_cons, List.map_nil]); first | done | rfl | (simp only [List.length_drop, List.length_take]; rfl)) ?_; (with_reducible refine (duty_amount.calls kj12 t221 gb211 t223 0 0 x212003_12 x212004_12 x212005_2 x212006_2 true t225 t226 t227 t228 t229 t230 t231 w _ HG.out ?side1 ?side2 A24.out).mono ?_); (case side1 => repeat (first | (with_reducible first | exact HI211.out | apply IsS23.alloc | apply IsS23.drewN | apply IsS23.drew | apply IsS23.set_0 | apply IsS23.set_1 | apply IsS23.set_2 | apply IsS23.set_3 | apply IsS23.set_4 | apply IsS23.set_5 | apply IsS23.set_6 | refine IsS23.far ?_ NB211_210.out _) | exact HI211.out)); (case side2 => repeat (first | (with_reducible first | exact HB.out | apply below_alloc | apply pw_below_drewN | apply below_drew1 | refine below_set ?_ (IsS23.ge HI211.out) | refine below_set ?_ GE210.out) | exact HB.out)); rintro e w28 ⟨rfl, hi, hb, hk⟩; refine ⟨_, rfl, ?_⟩; have n0_ := Aside0.mk (KeepBut.blk hk (g' := gb210) (o := .cells #[.int .i64 0, .int .i64 0, .int .i64 0, .bool false, .int .i64 0, .bool false, .int .i64 0] 23 (0, 0)) (by (with_reducible repeat (first | refine blk_drewN ?_ _ | refine blk_drew ?_ | refine blk_alloc ?_ _)); refine blk_far ?_ NB210_211.out _; (with_reducible repeat (first | refine blk_drewN ?_ _ | refine blk_drew ?_ | refine blk_alloc ?_ _)); exact BK210.out) NB210_211.out (by simp)); have n1_ := Aside0.mk (hb); have n2_ := Aside0.mk (hi); clear BK210; clear HB; clear HI211; have BK210 := n0_; have HB := n1_; have HI211 := n2_; clear n0_ n1_ n2_; (try clear hb); (try clear hb2); (try clear hk); (try clear hi)))
                go_meet
                case rel => exact ⟨_, (0), (0), (0), (false), (0), (false), (0), (t225), (t226), (t227), (t228), (t229), (t230), (t231), H', ⟨by have := HJ2.out; have := HJ12.out; first | omega | exact Nat.le_refl _⟩, ⟨by (with_reducible repeat (first | refine blk_drewN ?_ _ | refine blk_drew ?_ | refine blk_alloc ?_ _)); exact BK210.out⟩, ⟨by repeat (first | (with_reducible first | exact HI211.out | apply IsS23.alloc | apply IsS23.drewN | apply IsS23.drew | apply IsS23.set_0 | apply IsS23.set_1 | apply IsS23.set_2 | apply IsS23.set_3 | apply IsS23.set_4 | apply IsS23.set_5 | apply IsS23.set_6 | refine IsS23.far ?_ NB211_210.out _) | exact HI211.out)⟩, ⟨by repeat (first | (with_reducible first | exact HB.out | apply below_alloc | apply pw_below_drewN | apply below_drew1 | refine below_set ?_ (IsS23.ge HI211.out) | refine below_set ?_ GE210.out) | exact HB.out)⟩⟩
              · replace c25 := Bool.eq_false_iff.mpr c25
                subst c25
                have H1 : (some (0, 0, 0, false, 0, false, 0, 4)) = some (r1, r2, r3, r4, r5, r6, r7, r8) := by rw [if_neg (show ¬ (false = true) by decide)] at H; exact H
                clear H
                have H := H1
                clear H1
                simp only [Option.some.injEq, Prod.mk.injEq] at H
                obtain ⟨rfl, rfl, rfl, rfl, rfl, rfl, rfl, rfl⟩ := H
                go_wp2_with (first | ((with_reducible refine gate_callee (f := 34) rfl ?_); refine goesL_ (some 42) rfl rfl Tryd.func34 (by kernel_rfl) rfl #[.string t220] rfl (by (try simp only [List.map_toArray, List.map_cons, List.map_nil]); first | done | rfl | (simp only [List.length_drop, List.length_take]; rfl)) ?_; (with_reducible refine (duty_parts.calls kj12 t220 t223 _ ?side1 A23.out).mono ?_); (case side1 => exact Gl.below HG.out (by repeat (first | (with_reducible first | exact HB.out | apply below_alloc | apply pw_below_drewN | apply below_drew1 | refine below_set ?_ (IsS23.ge HI211.out) | refine below_set ?_ GE210.out) | exact HB.out))); rintro e w29 ⟨rfl, hb⟩; refine ⟨_, rfl, ?_⟩; have n0_ := Aside0.mk (blk_below (g := gb210) (o := .cells #[.int .i64 0, .int .i64 0, .int .i64 0, .bool false, .int .i64 0, .bool false, .int .i64 0] 23 (0, 0)) (by (with_reducible repeat (first | refine blk_drewN ?_ _ | refine blk_drew ?_ | refine blk_alloc ?_ _)); exact BK210.out) hb); have n1_ := Aside0.mk (IsS23.below (by repeat (first | (with_reducible first | exact HI211.out | apply IsS23.alloc | apply IsS23.drewN | apply IsS23.drew | apply IsS23.set_0 | apply IsS23.set_1 | apply IsS23.set_2 | apply IsS23.set_3 | apply IsS23.set_4 | apply IsS23.set_5 | apply IsS23.set_6 | refine IsS23.far ?_ NB211_210.out _) | exact HI211.out)) hb); have n2_ := Aside0.mk (below_step (by repeat (first | (with_reducible first | exact HB.out | apply below_alloc | apply pw_below_drewN | apply below_drew1 | refine below_set ?_ (IsS23.ge HI211.out) | refine below_set ?_ GE210.out) | exact HB.out)) hb); clear BK210; clear HI211; clear HB; have BK210 := n0_; have HI211 := n1_; have HB := n2_; clear n0_ n1_ n2_; (try clear hb); (try clear hb2); (try clear hk); (try clear hi); obtain ⟨HGz30, hgz30⟩ := HI211.out; have hcz30_0 := cellS23_0 HGz30; have hcz30_1 := cellS23_1 HGz30; have hcz30_2 := cellS23_2 HGz30; have hcz30_3 := cellS23_3 HGz30; have hcz30_4 := cellS23_4 HGz30; have hcz30_5 := cellS23_5 HGz30; have hcz30_6 := cellS23_6 HGz30; have hfz30_0 := blk_frozen HGz30 0; have hfz30_1 := blk_frozen HGz30 1; have hfz30_2 := blk_frozen HGz30 2; have hfz30_3 := blk_frozen HGz30 3; have hfz30_4 := blk_frozen HGz30 4; have hfz30_5 := blk_frozen HGz30 5; have hfz30_6 := blk_frozen HGz30 6; clear HGz30 hgz30) | ((with_reducible refine gate_callee (f := 35) rfl ?_); refine goesL_ (some 45) rfl rfl Tryd.func35 (by kernel_rfl) rfl #[.string t221, .pointer (some ⟨gb211, 0, none⟩)] rfl (by (try simp only [List.map_toArray, List.map_cons, List.map_nil]); first | done | rfl | (simp only [List.length_drop, List.length_take]; rfl)) ?_; (with_reducible refine (duty_amount.calls kj12 t221 gb211 t223 0 0 x212003_12 x212004_12 x212005_2 x212006_2 false t225 t226 t227 t228 t229 t230 t231 w _ HG.out ?side1 ?side2 A24.out).mono ?_); (case side1 => repeat (first | (with_reducible first | exact HI211.out | apply IsS23.alloc | apply IsS23.drewN | apply IsS23.drew | apply IsS23.set_0 | apply IsS23.set_1 | apply IsS23.set_2 | apply IsS23.set_3 | apply IsS23.set_4 | apply IsS23.set_5 | apply IsS23.set_6 | refine IsS23.far ?_ NB211_210.out _) | exact HI211.out)); (case side2 => repeat (first | (with_reducible first | exact HB.out | apply below_alloc | apply pw_below_drewN | apply below_drew1 | refine below_set ?_ (IsS23.ge HI211.out) | refine below_set ?_ GE210.out) | exact HB.out)); rintro e w31 ⟨rfl, hi, hb, hk⟩; refine ⟨_, rfl, ?_⟩; have n0_ := Aside0.mk (KeepBut.blk hk (g' := gb210) (o := .cells #[.int .i64 0, .int .i64 0, .int .i64 0, .bool false, .int .i64 0, .bool false, .int .i64 0] 23 (0, 0)) (by (with_reducible repeat (first | refine blk_drewN ?_ _ | refine blk_drew ?_ | refine blk_alloc ?_ _)); refine blk_far ?_ NB210_211.out _; (with_reducible repeat (first | refine blk_drewN ?_ _ | refine blk_drew ?_ | refine blk_alloc ?_ _)); exact BK210.out) NB210_211.out (by simp)); have n1_ := Aside0.mk (hb); have n2_ := Aside0.mk (hi); clear BK210; clear HB; clear HI211; have BK210 := n0_; have HB := n1_; have HI211 := n2_; clear n0_ n1_ n2_; (try clear hb); (try clear hb2); (try clear hk); (try clear hi); have hnb32 := NB210_211.out; have hnc32 := NB211_210.out; have hcz33_0 : w31.cell? ⟨gb210, 0, none⟩ = some (.int .i64 0) := (blk_cell BK210.out 0).trans rfl; have hcz33_1 : w31.cell? ⟨gb210, 1, none⟩ = some (.int .i64 0) := (blk_cell BK210.out 1).trans rfl; have hcz33_2 : w31.cell? ⟨gb210, 2, none⟩ = some (.int .i64 0) := (blk_cell BK210.out 2).trans rfl; have hcz33_3 : w31.cell? ⟨gb210, 3, none⟩ = some (.bool false) := (blk_cell BK210.out 3).trans rfl; have hcz33_4 : w31.cell? ⟨gb210, 4, none⟩ = some (.int .i64 0) := (blk_cell BK210.out 4).trans rfl; have hcz33_5 : w31.cell? ⟨gb210, 5, none⟩ = some (.bool false) := (blk_cell BK210.out 5).trans rfl; have hcz33_6 : w31.cell? ⟨gb210, 6, none⟩ = some (.int .i64 0) := (blk_cell BK210.out 6).trans rfl; have hfz33_0 := blk_frozen BK210.out 0; have hfz33_1 := blk_frozen BK210.out 1; have hfz33_2 := blk_frozen BK210.out 2; have hfz33_3 := blk_frozen BK210.out 3; have hfz33_4 := blk_frozen BK210.out 4; have hfz33_5 := blk_frozen BK210.out 5; have hfz33_6 := blk_frozen BK210.out 6))
                refine bodyPost_ret (results_ct rfl _ _ gb210 23 #[.int .i64 0, .int .i64 0, .int .i64 0, .bool false, .int .i64 0, .bool false, .int .i64 0] (0, 0) _ rfl (by (with_reducible repeat (first | refine blk_drewN ?_ _ | refine blk_drew ?_ | refine blk_alloc ?_ _)); refine blk_put (cs := #[.int .i64 0, .int .i64 0, .int .i64 0, .bool false, .int .i64 0, .bool false, .int .i64 0]) ?_ 6 _ rfl; (with_reducible repeat (first | refine blk_drewN ?_ _ | refine blk_drew ?_ | refine blk_alloc ?_ _)); refine blk_put (cs := #[.int .i64 0, .int .i64 0, .int .i64 0, .bool false, .int .i64 0, .bool false, .int .i64 0]) ?_ 5 _ rfl; (with_reducible repeat (first | refine blk_drewN ?_ _ | refine blk_drew ?_ | refine blk_alloc ?_ _)); refine blk_put (cs := #[.int .i64 0, .int .i64 0, .int .i64 0, .bool false, .int .i64 0, .bool false, .int .i64 0]) ?_ 4 _ rfl; (with_reducible repeat (first | refine blk_drewN ?_ _ | refine blk_drew ?_ | refine blk_alloc ?_ _)); refine blk_put (cs := #[.int .i64 0, .int .i64 0, .int .i64 0, .bool false, .int .i64 0, .bool false, .int .i64 0]) ?_ 3 _ rfl; (with_reducible repeat (first | refine blk_drewN ?_ _ | refine blk_drew ?_ | refine blk_alloc ?_ _)); refine blk_put (cs := #[.int .i64 0, .int .i64 0, .int .i64 0, .bool false, .int .i64 0, .bool false, .int .i64 0]) ?_ 2 _ rfl; (with_reducible repeat (first | refine blk_drewN ?_ _ | refine blk_drew ?_ | refine blk_alloc ?_ _)); refine blk_put (cs := #[.int .i64 0, .int .i64 0, .int .i64 0, .bool false, .int .i64 0, .bool false, .int .i64 0]) ?_ 1 _ rfl; (with_reducible repeat (first | refine blk_drewN ?_ _ | refine blk_drew ?_ | refine blk_alloc ?_ _)); refine blk_put (cs := #[.int .i64 0, .int .i64 0, .int .i64 0, .bool false, .int .i64 0, .bool false, .int .i64 0]) ?_ 0 _ rfl; (with_reducible repeat (first | refine blk_drewN ?_ _ | refine blk_drew ?_ | refine blk_alloc ?_ _)); exact BK210.out) Tryd.underlying23 rfl (by kernel_rfl)) rfl ?_
                exact ⟨by first | rfl | (simp [errW_none, errW_some] <;> rfl) | (simp [*, errW_none, errW_some] <;> rfl), by repeat (first | (with_reducible first | exact HB.out | apply below_alloc | apply pw_below_drewN | apply below_drew1 | refine below_set ?_ (IsS23.ge HI211.out) | refine below_set ?_ GE210.out) | exact HB.out)⟩
            · replace c22 := Bool.eq_false_iff.mpr c22
              subst c22
              have H1 : ((duty_amount.f kj12 t220 0 0 0 x212003_12 x212004_12 x212005_2 x212006_2).bind fun bt232 => (if bt232.1 = true then (duty_Parse.j2 kj12 a0 bt232.2.1 bt232.2.2.1 bt232.2.2.2.1 bt232.2.2.2.2.1 bt232.2.2.2.2.2.1 bt232.2.2.2.2.2.2.1 bt232.2.2.2.2.2.2.2) else ((duty_parts.f kj12 t220).bind fun t240 => (duty_Parse.j2 kj12 a0 t240 bt232.2.2.1 bt232.2.2.2.1 bt232.2.2.2.2.1 bt232.2.2.2.2.2.1 bt232.2.2.2.2.2.2.1 bt232.2.2.2.2.2.2.2)))) = some (r1, r2, r3, r4, r5, r6, r7, r8) := by rw [if_neg (show ¬ (false = true) by decide)] at H; exact H
              clear H
              have H := H1
              clear H1
              replace H := Option.bind_eq_some_iff.mp H
              obtain ⟨⟨t232, t233, t234, t235, t236, t237, t238, t239⟩, A340, H⟩ := H
              replace H : (if t232 = true then (duty_Parse.j2 kj12 a0 t233 t234 t235 t236 t237 t238 t239) else ((duty_parts.f kj12 t220).bind fun t240 => (duty_Parse.j2 kj12 a0 t240 t234 t235 t236 t237 t238 t239))) = some (r1, r2, r3, r4, r5, r6, r7, r8) := H
              have A34 := Aside0.mk A340
              clear A340
              by_cases c35 : t232 = true
              · subst c35
                have H1 : (duty_Parse.j2 kj12 a0 t233 t234 t235 t236 t237 t238 t239) = some (r1, r2, r3, r4, r5, r6, r7, r8) := by rw [if_pos rfl] at H; exact H
                clear H
                have H := H1
                clear H1
                have H' := Aside0.mk H
                clear H
                go_wp2_with (first | ((with_reducible refine gate_callee (f := 35) rfl ?_); refine goesL_ (some 50) rfl rfl Tryd.func35 (by kernel_rfl) rfl #[.string t220, .pointer (some ⟨gb211, 0, none⟩)] rfl (by (try simp only [List.map_toArray, List.map_cons, List.map_nil]); first | done | rfl | (simp only [List.length_drop, List.length_take]; rfl)) ?_; (with_reducible refine (duty_amount.calls kj12 t220 gb211 0 0 0 x212003_12 x212004_12 x212005_2 x212006_2 true t233 t234 t235 t236 t237 t238 t239 w _ HG.out ?side1 ?side2 A34.out).mono ?_); (case side1 => repeat (first | (with_reducible first | exact HI211.out | apply IsS23.alloc | apply IsS23.drewN | apply IsS23.drew | apply IsS23.set_0 | apply IsS23.set_1 | apply IsS23.set_2 | apply IsS23.set_3 | apply IsS23.set_4 | apply IsS23.set_5 | apply IsS23.set_6 | refine IsS23.far ?_ NB211_210.out _) | exact HI211.out)); (case side2 => repeat (first | (with_reducible first | exact HB.out | apply below_alloc | apply pw_below_drewN | apply below_drew1 | refine below_set ?_ (IsS23.ge HI211.out) | refine below_set ?_ GE210.out) | exact HB.out)); rintro e w36 ⟨rfl, hi, hb, hk⟩; refine ⟨_, rfl, ?_⟩; have n0_ := Aside0.mk (KeepBut.blk hk (g' := gb210) (o := .cells #[.int .i64 0, .int .i64 0, .int .i64 0, .bool false, .int .i64 0, .bool false, .int .i64 0] 23 (0, 0)) (by (with_reducible repeat (first | refine blk_drewN ?_ _ | refine blk_drew ?_ | refine blk_alloc ?_ _)); exact BK210.out) NB210_211.out (by simp)); have n1_ := Aside0.mk (hb); have n2_ := Aside0.mk (hi); clear BK210; clear HB; clear HI211; have BK210 := n0_; have HB := n1_; have HI211 := n2_; clear n0_ n1_ n2_; (try clear hb); (try clear hb2); (try clear hk); (try clear hi)))
                go_meet
                case rel => exact ⟨_, (0), (0), (0), (false), (0), (false), (0), (t233), (t234), (t235), (t236), (t237), (t238), (t239), H', ⟨by have := HJ2.out; have := HJ12.out; first | omega | exact Nat.le_refl _⟩, ⟨by (with_reducible repeat (first | refine blk_drewN ?_ _ | refine blk_drew ?_ | refine blk_alloc ?_ _)); exact BK210.out⟩, ⟨by repeat (first | (with_reducible first | exact HI211.out | apply IsS23.alloc | apply IsS23.drewN | apply IsS23.drew | apply IsS23.set_0 | apply IsS23.set_1 | apply IsS23.set_2 | apply IsS23.set_3 | apply IsS23.set_4 | apply IsS23.set_5 | apply IsS23.set_6 | refine IsS23.far ?_ NB211_210.out _) | exact HI211.out)⟩, ⟨by repeat (first | (with_reducible first | exact HB.out | apply below_alloc | apply pw_below_drewN | apply below_drew1 | refine below_set ?_ (IsS23.ge HI211.out) | refine below_set ?_ GE210.out) | exact HB.out)⟩⟩
              · replace c35 := Bool.eq_false_iff.mpr c35
                subst c35
                have H1 : ((duty_parts.f kj12 t220).bind fun t240 => (duty_Parse.j2 kj12 a0 t240 t234 t235 t236 t237 t238 t239)) = some (r1, r2, r3, r4, r5, r6, r7, r8) := by rw [if_neg (show ¬ (false = true) by decide)] at H; exact H
                clear H
                have H := H1
                clear H1
                replace H := Option.bind_eq_some_iff.mp H
                obtain ⟨t240, A370, H⟩ := H
                replace H : (duty_Parse.j2 kj12 a0 t240 t234 t235 t236 t237 t238 t239) = some (r1, r2, r3, r4, r5, r6, r7, r8) := H
                have A37 := Aside0.mk A370
                clear A370
                have H' := Aside0.mk H
                clear H
                go_wp2_with (first | ((with_reducible refine gate_callee (f := 35) rfl ?_); refine goesL_ (some 50) rfl rfl Tryd.func35 (by kernel_rfl) rfl #[.string t220, .pointer (some ⟨gb211, 0, none⟩)] rfl (by (try simp only [List.map_toArray, List.map_cons, List.map_nil]); first | done | rfl | (simp only [List.length_drop, List.length_take]; rfl)) ?_; (with_reducible refine (duty_amount.calls kj12 t220 gb211 0 0 0 x212003_12 x212004_12 x212005_2 x212006_2 false t233 t234 t235 t236 t237 t238 t239 w _ HG.out ?side1 ?side2 A34.out).mono ?_); (case side1 => repeat (first | (with_reducible first | exact HI211.out | apply IsS23.alloc | apply IsS23.drewN | apply IsS23.drew | apply IsS23.set_0 | apply IsS23.set_1 | apply IsS23.set_2 | apply IsS23.set_3 | apply IsS23.set_4 | apply IsS23.set_5 | apply IsS23.set_6 | refine IsS23.far ?_ NB211_210.out _) | exact HI211.out)); (case side2 => repeat (first | (with_reducible first | exact HB.out | apply below_alloc | apply pw_below_drewN | apply below_drew1 | refine below_set ?_ (IsS23.ge HI211.out) | refine below_set ?_ GE210.out) | exact HB.out)); rintro e w38 ⟨rfl, hi, hb, hk⟩; refine ⟨_, rfl, ?_⟩; have n0_ := Aside0.mk (KeepBut.blk hk (g' := gb210) (o := .cells #[.int .i64 0, .int .i64 0, .int .i64 0, .bool false, .int .i64 0, .bool false, .int .i64 0] 23 (0, 0)) (by (with_reducible repeat (first | refine blk_drewN ?_ _ | refine blk_drew ?_ | refine blk_alloc ?_ _)); exact BK210.out) NB210_211.out (by simp)); have n1_ := Aside0.mk (hb); have n2_ := Aside0.mk (hi); clear BK210; clear HB; clear HI211; have BK210 := n0_; have HB := n1_; have HI211 := n2_; clear n0_ n1_ n2_; (try clear hb); (try clear hb2); (try clear hk); (try clear hi)) | ((with_reducible refine gate_callee (f := 34) rfl ?_); refine goesL_ (some 53) rfl rfl Tryd.func34 (by kernel_rfl) rfl #[.string t220] rfl (by (try simp only [List.map_toArray, List.map_cons, List.map_nil]); first | done | rfl | (simp only [List.length_drop, List.length_take]; rfl)) ?_; (with_reducible refine (duty_parts.calls kj12 t220 t240 _ ?side1 A37.out).mono ?_); (case side1 => exact Gl.below HG.out (by repeat (first | (with_reducible first | exact HB.out | apply below_alloc | apply pw_below_drewN | apply below_drew1 | refine below_set ?_ (IsS23.ge HI211.out) | refine below_set ?_ GE210.out) | exact HB.out))); rintro e w39 ⟨rfl, hb⟩; refine ⟨_, rfl, ?_⟩; have n0_ := Aside0.mk (blk_below (g := gb210) (o := .cells #[.int .i64 0, .int .i64 0, .int .i64 0, .bool false, .int .i64 0, .bool false, .int .i64 0] 23 (0, 0)) (by (with_reducible repeat (first | refine blk_drewN ?_ _ | refine blk_drew ?_ | refine blk_alloc ?_ _)); exact BK210.out) hb); have n1_ := Aside0.mk (IsS23.below (by repeat (first | (with_reducible first | exact HI211.out | apply IsS23.alloc | apply IsS23.drewN | apply IsS23.drew | apply IsS23.set_0 | apply IsS23.set_1 | apply IsS23.set_2 | apply IsS23.set_3 | apply IsS23.set_4 | apply IsS23.set_5 | apply IsS23.set_6 | refine IsS23.far ?_ NB211_210.out _) | exact HI211.out)) hb); have n2_ := Aside0.mk (below_step (by repeat (first | (with_reducible first | exact HB.out | apply below_alloc | apply pw_below_drewN | apply below_drew1 | refine below_set ?_ (IsS23.ge HI211.out) | refine below_set ?_ GE210.out) | exact HB.out)) hb); clear BK210; clear HI211; clear HB; have BK210 := n0_; have HI211 := n1_; have HB := n2_; clear n0_ n1_ n2_; (try clear hb); (try clear hb2); (try clear hk); (try clear hi); obtain ⟨HGz40, hgz40⟩ := HI211.out; have hcz40_0 := cellS23_0 HGz40; have hcz40_1 := cellS23_1 HGz40; have hcz40_2 := cellS23_2 HGz40; have hcz40_3 := cellS23_3 HGz40; have hcz40_4 := cellS23_4 HGz40; have hcz40_5 := cellS23_5 HGz40; have hcz40_6 := cellS23_6 HGz40; have hfz40_0 := blk_frozen HGz40 0; have hfz40_1 := blk_frozen HGz40 1; have hfz40_2 := blk_frozen HGz40 2; have hfz40_3 := blk_frozen HGz40 3; have hfz40_4 := blk_frozen HGz40 4; have hfz40_5 := blk_frozen HGz40 5; have hfz40_6 := blk_frozen HGz40 6; clear HGz40 hgz40))
                go_meet
                case rel => exact ⟨_, (0), (0), (0), (false), (0), (false), (0), (t240), (t234), (t235), (t236), (t237), (t238), (t239), H', ⟨by have := HJ2.out; have := HJ12.out; first | omega | exact Nat.le_refl _⟩, ⟨by (with_reducible repeat (first | refine blk_drewN ?_ _ | refine blk_drew ?_ | refine blk_alloc ?_ _)); refine blk_far ?_ NB210_211.out _; (with_reducible repeat (first | refine blk_drewN ?_ _ | refine blk_drew ?_ | refine blk_alloc ?_ _)); exact BK210.out⟩, ⟨by repeat (first | (with_reducible first | exact HI211.out | apply IsS23.alloc | apply IsS23.drewN | apply IsS23.drew | apply IsS23.set_0 | apply IsS23.set_1 | apply IsS23.set_2 | apply IsS23.set_3 | apply IsS23.set_4 | apply IsS23.set_5 | apply IsS23.set_6 | refine IsS23.far ?_ NB211_210.out _) | exact HI211.out)⟩, ⟨by repeat (first | (with_reducible first | exact HB.out | apply below_alloc | apply pw_below_drewN | apply below_drew1 | refine below_set ?_ (IsS23.ge HI211.out) | refine below_set ?_ GE210.out) | exact HB.out)⟩⟩
          case rest =>
            clear HC20
            try clear c1
            try clear c2
            try clear p2
            try clear c3
            try clear c7
            try clear c10
            try clear c15
            try clear c17
            try clear c22
            try clear c25
            try clear c32
            try clear c33
            try clear c34
            try clear c35
            try clear hcz11_0
            try clear hcz11_1
            try clear hcz11_2
            try clear hcz11_3
            try clear hcz11_4
            try clear hcz11_5
            try clear hcz11_6
            try clear hcz18_0
            try clear hcz18_1
            try clear hcz18_2
            try clear hcz18_3
            try clear hcz18_4
            try clear hcz18_5
            try clear hcz18_6
            try clear hcz27_0
            try clear hcz27_1
            try clear hcz27_2
            try clear hcz27_3
            try clear hcz27_4
            try clear hcz27_5
            try clear hcz27_6
            try clear hcz30_0
            try clear hcz30_1
            try clear hcz30_2
            try clear hcz30_3
            try clear hcz30_4
            try clear hcz30_5
            try clear hcz30_6
            try clear hcz33_0
            try clear hcz33_1
            try clear hcz33_2
            try clear hcz33_3
            try clear hcz33_4
            try clear hcz33_5
            try clear hcz33_6
            try clear hcz40_0
            try clear hcz40_1
            try clear hcz40_2
            try clear hcz40_3
            try clear hcz40_4
            try clear hcz40_5
            try clear hcz40_6
            try clear hfz11_0
            try clear hfz11_1
            try clear hfz11_2
            try clear hfz11_3
            try clear hfz11_4
            try clear hfz11_5
            try clear hfz11_6
            try clear hfz18_0
            try clear hfz18_1
            try clear hfz18_2
            try clear hfz18_3
            try clear hfz18_4
            try clear hfz18_5
            try clear hfz18_6
            try clear hfz27_0
            try clear hfz27_1
            try clear hfz27_2
            try clear hfz27_3
            try clear hfz27_4
            try clear hfz27_5
            try clear hfz27_6
            try clear hfz30_0
            try clear hfz30_1
            try clear hfz30_2
            try clear hfz30_3
            try clear hfz30_4
            try clear hfz30_5
            try clear hfz30_6
            try clear hfz33_0
            try clear hfz33_1
            try clear hfz33_2
            try clear hfz33_3
            try clear hfz33_4
            try clear hfz33_5
            try clear hfz33_6
            try clear hfz40_0
            try clear hfz40_1
            try clear hfz40_2
            try clear hfz40_3
            try clear hfz40_4
            try clear hfz40_5
            try clear hfz40_6
            try clear p2
            obtain ⟨kq, x211000_19, x211001_19, x211002_19, x211003_19, x211004_19, x211005_19, x211006_19, x212000_19, x212001_19, x212002_19, x212003_19, x212004_19, x212005_19, x212006_19, HA, HJ19, BK210, HI211, HB⟩ := hcut
            cases kq with
            | zero => exact absurd HA.out (by simp [duty_Parse.j2])
            | succ kj19 =>
              have H := HA.out
              clear HA
              simp only [duty_Parse.j2] at H
              replace H := Option.bind_eq_some_iff.mp H
              obtain ⟨t241, A410, H⟩ := H
              replace H : (if t241 = 0 then ((duty_Format.f kj19 x212000_19 x212001_19 x212002_19 x212003_19 x212004_19 x212005_19 x212006_19).bind fun t242 => (if t242.toList = a0.toList then (some (x212000_19, x212001_19, x212002_19, x212003_19, x212004_19, x212005_19, x212006_19, 0)) else (some (0, 0, 0, false, 0, false, 0, 4)))) else (some (0, 0, 0, false, 0, false, 0, 4))) = some (r1, r2, r3, r4, r5, r6, r7, r8) := H
              have A41 := Aside0.mk A410
              clear A410
              by_cases c42 : t241 = 0
              · rw [if_pos c42] at H
                have c42b0 : (t241 == 0) = true := beq_iff_eq.mpr c42
                have c42b1 : (t241 != 0) = false := bne_eq_false_iff_eq.mpr c42
                clear c42
                replace H := Option.bind_eq_some_iff.mp H
                obtain ⟨t242, A430, H⟩ := H
                replace H : (if t242.toList = a0.toList then (some (x212000_19, x212001_19, x212002_19, x212003_19, x212004_19, x212005_19, x212006_19, 0)) else (some (0, 0, 0, false, 0, false, 0, 4))) = some (r1, r2, r3, r4, r5, r6, r7, r8) := H
                have A43 := Aside0.mk A430
                clear A430
                by_cases c44 : t242.toList = a0.toList
                · rw [if_pos c44] at H
                  have c44b0 : (t242.toList == a0.toList) = true := beq_iff_eq.mpr c44
                  have c44b1 : (t242.toList != a0.toList) = false := bne_eq_false_iff_eq.mpr c44
                  clear c44
                  simp only [Option.some.injEq, Prod.mk.injEq] at H
                  obtain ⟨rfl, rfl, rfl, rfl, rfl, rfl, rfl, rfl⟩ := H
                  obtain ⟨HGz45, hgz45⟩ := HI211.out
                  have hcz45_0 := cellS23_0 HGz45
                  have hcz45_1 := cellS23_1 HGz45
                  have hcz45_2 := cellS23_2 HGz45
                  have hcz45_3 := cellS23_3 HGz45
                  have hcz45_4 := cellS23_4 HGz45
                  have hcz45_5 := cellS23_5 HGz45
                  have hcz45_6 := cellS23_6 HGz45
                  have hfz45_0 := blk_frozen HGz45 0
                  have hfz45_1 := blk_frozen HGz45 1
                  have hfz45_2 := blk_frozen HGz45 2
                  have hfz45_3 := blk_frozen HGz45 3
                  have hfz45_4 := blk_frozen HGz45 4
                  have hfz45_5 := blk_frozen HGz45 5
                  have hfz45_6 := blk_frozen HGz45 6
                  clear HGz45 hgz45
                  go_wp2_with (first | ((with_reducible refine gate_callee (f := 11) rfl ?_); refine goesL_ (some 56) rfl rfl Tryd.func11 (by kernel_rfl) rfl #[.agg #[.int .i64 x212000_19, .int .i64 x212001_19, .int .i64 x212002_19, .bool x212003_19, .int .i64 x212004_19, .bool x212005_19, .int .i64 x212006_19]] rfl (by (try simp only [List.map_toArray, List.map_cons, List.map_nil]); first | done | rfl | (simp only [List.length_drop, List.length_take]; rfl)) ?_; (with_reducible refine (duty_Validate.calls kj19 x212000_19 x212001_19 x212002_19 x212003_19 x212004_19 x212005_19 x212006_19 t241 _ A41.out).mono ?_); rintro e w46 ⟨rfl, hb⟩; refine ⟨_, rfl, ?_⟩; have n0_ := Aside0.mk (blk_below (g := gb210) (o := .cells #[.int .i64 x211000_19, .int .i64 x211001_19, .int .i64 x211002_19, .bool x211003_19, .int .i64 x211004_19, .bool x211005_19, .int .i64 x211006_19] 23 (0, 0)) (by (with_reducible repeat (first | refine blk_drewN ?_ _ | refine blk_drew ?_ | refine blk_alloc ?_ _)); exact BK210.out) hb); have n1_ := Aside0.mk (IsS23.below (by repeat (first | (with_reducible first | exact HI211.out | apply IsS23.alloc | apply IsS23.drewN | apply IsS23.drew | apply IsS23.set_0 | apply IsS23.set_1 | apply IsS23.set_2 | apply IsS23.set_3 | apply IsS23.set_4 | apply IsS23.set_5 | apply IsS23.set_6 | refine IsS23.far ?_ NB211_210.out _) | exact HI211.out)) hb); have n2_ := Aside0.mk (below_step (by repeat (first | (with_reducible first | exact HB.out | apply below_alloc | apply pw_below_drewN | apply below_drew1 | refine below_set ?_ (IsS23.ge HI211.out) | refine below_set ?_ GE210.out) | exact HB.out)) hb); clear BK210; clear HI211; clear HB; have BK210 := n0_; have HI211 := n1_; have HB := n2_; clear n0_ n1_ n2_; (try clear hb); (try clear hb2); (try clear hk); (try clear hi); obtain ⟨HGz47, hgz47⟩ := HI211.out; have hcz47_0 := cellS23_0 HGz47; have hcz47_1 := cellS23_1 HGz47; have hcz47_2 := cellS23_2 HGz47; have hcz47_3 := cellS23_3 HGz47; have hcz47_4 := cellS23_4 HGz47; have hcz47_5 := cellS23_5 HGz47; have hcz47_6 := cellS23_6 HGz47; have hfz47_0 := blk_frozen HGz47 0; have hfz47_1 := blk_frozen HGz47 1; have hfz47_2 := blk_frozen HGz47 2; have hfz47_3 := blk_frozen HGz47 3; have hfz47_4 := blk_frozen HGz47 4; have hfz47_5 := blk_frozen HGz47 5; have hfz47_6 := blk_frozen HGz47 6; clear HGz47 hgz47) | (go_at_call 15; (with_reducible refine (duty_Format.calls kj19 x212000_19 x212001_19 x212002_19 x212003_19 x212004_19 x212005_19 x212006_19 t242 _ ?side1 A43.out).mono ?_); (case side1 => exact Gl.below HG.out (by repeat (first | (with_reducible first | exact HB.out | apply below_alloc | apply pw_below_drewN | apply below_drew1 | refine below_set ?_ (IsS23.ge HI211.out) | refine below_set ?_ GE210.out) | exact HB.out))); rintro e w48 ⟨rfl, hb⟩; have n0_ := Aside0.mk (blk_below (g := gb210) (o := .cells #[.int .i64 x211000_19, .int .i64 x211001_19, .int .i64 x211002_19, .bool x211003_19, .int .i64 x211004_19, .bool x211005_19, .int .i64 x211006_19] 23 (0, 0)) (by (with_reducible repeat (first | refine blk_drewN ?_ _ | refine blk_drew ?_ | refine blk_alloc ?_ _)); exact BK210.out) hb); have n1_ := Aside0.mk (IsS23.below (by repeat (first | (with_reducible first | exact HI211.out | apply IsS23.alloc | apply IsS23.drewN | apply IsS23.drew | apply IsS23.set_0 | apply IsS23.set_1 | apply IsS23.set_2 | apply IsS23.set_3 | apply IsS23.set_4 | apply IsS23.set_5 | apply IsS23.set_6 | refine IsS23.far ?_ NB211_210.out _) | exact HI211.out)) hb); have n2_ := Aside0.mk (below_step (by repeat (first | (with_reducible first | exact HB.out | apply below_alloc | apply pw_below_drewN | apply below_drew1 | refine below_set ?_ (IsS23.ge HI211.out) | refine below_set ?_ GE210.out) | exact HB.out)) hb); clear BK210; clear HI211; clear HB; have BK210 := n0_; have HI211 := n1_; have HB := n2_; clear n0_ n1_ n2_; (try clear hb); (try clear hb2); (try clear hk); (try clear hi); obtain ⟨HGz49, hgz49⟩ := HI211.out; have hcz49_0 := cellS23_0 HGz49; have hcz49_1 := cellS23_1 HGz49; have hcz49_2 := cellS23_2 HGz49; have hcz49_3 := cellS23_3 HGz49; have hcz49_4 := cellS23_4 HGz49; have hcz49_5 := cellS23_5 HGz49; have hcz49_6 := cellS23_6 HGz49; have hfz49_0 := blk_frozen HGz49 0; have hfz49_1 := blk_frozen HGz49 1; have hfz49_2 := blk_frozen HGz49 2; have hfz49_3 := blk_frozen HGz49 3; have hfz49_4 := blk_frozen HGz49 4; have hfz49_5 := blk_frozen HGz49 5; have hfz49_6 := blk_frozen HGz49 6; clear HGz49 hgz49; have hnb50 := NB210_211.out; have hnc50 := NB211_210.out; have hcz51_0 : w48.cell? ⟨gb210, 0, none⟩ = some (.int .i64 x211000_19) := (blk_cell BK210.out 0).trans rfl; have hcz51_1 : w48.cell? ⟨gb210, 1, none⟩ = some (.int .i64 x211001_19) := (blk_cell BK210.out 1).trans rfl; have hcz51_2 : w48.cell? ⟨gb210, 2, none⟩ = some (.int .i64 x211002_19) := (blk_cell BK210.out 2).trans rfl; have hcz51_3 : w48.cell? ⟨gb210, 3, none⟩ = some (.bool x211003_19) := (blk_cell BK210.out 3).trans rfl; have hcz51_4 : w48.cell? ⟨gb210, 4, none⟩ = some (.int .i64 x211004_19) := (blk_cell BK210.out 4).trans rfl; have hcz51_5 : w48.cell? ⟨gb210, 5, none⟩ = some (.bool x211005_19) := (blk_cell BK210.out 5).trans rfl; have hcz51_6 : w48.cell? ⟨gb210, 6, none⟩ = some (.int .i64 x211006_19) := (blk_cell BK210.out 6).trans rfl; have hfz51_0 := blk_frozen BK210.out 0; have hfz51_1 := blk_frozen BK210.out 1; have hfz51_2 := blk_frozen BK210.out 2; have hfz51_3 := blk_frozen BK210.out 3; have hfz51_4 := blk_frozen BK210.out 4; have hfz51_5 := blk_frozen BK210.out 5; have hfz51_6 := blk_frozen BK210.out 6))
                  refine bodyPost_ret (results_ct rfl _ _ gb210 23 #[.int .i64 x212000_19, .int .i64 x212001_19, .int .i64 x212002_19, .bool x212003_19, .int .i64 x212004_19, .bool x212005_19, .int .i64 x212006_19] (0, 0) _ rfl (by (with_reducible repeat (first | refine blk_drewN ?_ _ | refine blk_drew ?_ | refine blk_alloc ?_ _)); refine blk_put (cs := #[.int .i64 x212000_19, .int .i64 x212001_19, .int .i64 x212002_19, .bool x212003_19, .int .i64 x212004_19, .bool x212005_19, .int .i64 x211006_19]) ?_ 6 _ rfl; (with_reducible repeat (first | refine blk_drewN ?_ _ | refine blk_drew ?_ | refine blk_alloc ?_ _)); refine blk_put (cs := #[.int .i64 x212000_19, .int .i64 x212001_19, .int .i64 x212002_19, .bool x212003_19, .int .i64 x212004_19, .bool x211005_19, .int .i64 x211006_19]) ?_ 5 _ rfl; (with_reducible repeat (first | refine blk_drewN ?_ _ | refine blk_drew ?_ | refine blk_alloc ?_ _)); refine blk_put (cs := #[.int .i64 x212000_19, .int .i64 x212001_19, .int .i64 x212002_19, .bool x212003_19, .int .i64 x211004_19, .bool x211005_19, .int .i64 x211006_19]) ?_ 4 _ rfl; (with_reducible repeat (first | refine blk_drewN ?_ _ | refine blk_drew ?_ | refine blk_alloc ?_ _)); refine blk_put (cs := #[.int .i64 x212000_19, .int .i64 x212001_19, .int .i64 x212002_19, .bool x211003_19, .int .i64 x211004_19, .bool x211005_19, .int .i64 x211006_19]) ?_ 3 _ rfl; (with_reducible repeat (first | refine blk_drewN ?_ _ | refine blk_drew ?_ | refine blk_alloc ?_ _)); refine blk_put (cs := #[.int .i64 x212000_19, .int .i64 x212001_19, .int .i64 x211002_19, .bool x211003_19, .int .i64 x211004_19, .bool x211005_19, .int .i64 x211006_19]) ?_ 2 _ rfl; (with_reducible repeat (first | refine blk_drewN ?_ _ | refine blk_drew ?_ | refine blk_alloc ?_ _)); refine blk_put (cs := #[.int .i64 x212000_19, .int .i64 x211001_19, .int .i64 x211002_19, .bool x211003_19, .int .i64 x211004_19, .bool x211005_19, .int .i64 x211006_19]) ?_ 1 _ rfl; (with_reducible repeat (first | refine blk_drewN ?_ _ | refine blk_drew ?_ | refine blk_alloc ?_ _)); refine blk_put (cs := #[.int .i64 x211000_19, .int .i64 x211001_19, .int .i64 x211002_19, .bool x211003_19, .int .i64 x211004_19, .bool x211005_19, .int .i64 x211006_19]) ?_ 0 _ rfl; (with_reducible repeat (first | refine blk_drewN ?_ _ | refine blk_drew ?_ | refine blk_alloc ?_ _)); exact BK210.out) Tryd.underlying23 rfl (by kernel_rfl)) rfl ?_
                  exact ⟨by first | rfl | (simp [errW_none, errW_some] <;> rfl) | (simp [*, errW_none, errW_some] <;> rfl), by repeat (first | (with_reducible first | exact HB.out | apply below_alloc | apply pw_below_drewN | apply below_drew1 | refine below_set ?_ (IsS23.ge HI211.out) | refine below_set ?_ GE210.out) | exact HB.out)⟩
                · rw [if_neg c44] at H
                  have c44b0 : (t242.toList == a0.toList) = false := beq_eq_false_iff_ne.mpr c44
                  have c44b1 : (t242.toList != a0.toList) = true := bne_iff_ne.mpr c44
                  simp only [Option.some.injEq, Prod.mk.injEq] at H
                  obtain ⟨rfl, rfl, rfl, rfl, rfl, rfl, rfl, rfl⟩ := H
                  obtain ⟨HGz52, hgz52⟩ := HI211.out
                  have hcz52_0 := cellS23_0 HGz52
                  have hcz52_1 := cellS23_1 HGz52
                  have hcz52_2 := cellS23_2 HGz52
                  have hcz52_3 := cellS23_3 HGz52
                  have hcz52_4 := cellS23_4 HGz52
                  have hcz52_5 := cellS23_5 HGz52
                  have hcz52_6 := cellS23_6 HGz52
                  have hfz52_0 := blk_frozen HGz52 0
                  have hfz52_1 := blk_frozen HGz52 1
                  have hfz52_2 := blk_frozen HGz52 2
                  have hfz52_3 := blk_frozen HGz52 3
                  have hfz52_4 := blk_frozen HGz52 4
                  have hfz52_5 := blk_frozen HGz52 5
                  have hfz52_6 := blk_frozen HGz52 6
                  clear HGz52 hgz52
                  go_wp2_with (first | ((with_reducible refine gate_callee (f := 11) rfl ?_); refine goesL_ (some 56) rfl rfl Tryd.func11 (by kernel_rfl) rfl #[.agg #[.int .i64 x212000_19, .int .i64 x212001_19, .int .i64 x212002_19, .bool x212003_19, .int .i64 x212004_19, .bool x212005_19, .int .i64 x212006_19]] rfl (by (try simp only [List.map_toArray, List.map_cons, List.map_nil]); first | done | rfl | (simp only [List.length_drop, List.length_take]; rfl)) ?_; (with_reducible refine (duty_Validate.calls kj19 x212000_19 x212001_19 x212002_19 x212003_19 x212004_19 x212005_19 x212006_19 t241 _ A41.out).mono ?_); rintro e w53 ⟨rfl, hb⟩; refine ⟨_, rfl, ?_⟩; have n0_ := Aside0.mk (blk_below (g := gb210) (o := .cells #[.int .i64 x211000_19, .int .i64 x211001_19, .int .i64 x211002_19, .bool x211003_19, .int .i64 x211004_19, .bool x211005_19, .int .i64 x211006_19] 23 (0, 0)) (by (with_reducible repeat (first | refine blk_drewN ?_ _ | refine blk_drew ?_ | refine blk_alloc ?_ _)); exact BK210.out) hb); have n1_ := Aside0.mk (IsS23.below (by repeat (first | (with_reducible first | exact HI211.out | apply IsS23.alloc | apply IsS23.drewN | apply IsS23.drew | apply IsS23.set_0 | apply IsS23.set_1 | apply IsS23.set_2 | apply IsS23.set_3 | apply IsS23.set_4 | apply IsS23.set_5 | apply IsS23.set_6 | refine IsS23.far ?_ NB211_210.out _) | exact HI211.out)) hb); have n2_ := Aside0.mk (below_step (by repeat (first | (with_reducible first | exact HB.out | apply below_alloc | apply pw_below_drewN | apply below_drew1 | refine below_set ?_ (IsS23.ge HI211.out) | refine below_set ?_ GE210.out) | exact HB.out)) hb); clear BK210; clear HI211; clear HB; have BK210 := n0_; have HI211 := n1_; have HB := n2_; clear n0_ n1_ n2_; (try clear hb); (try clear hb2); (try clear hk); (try clear hi); obtain ⟨HGz54, hgz54⟩ := HI211.out; have hcz54_0 := cellS23_0 HGz54; have hcz54_1 := cellS23_1 HGz54; have hcz54_2 := cellS23_2 HGz54; have hcz54_3 := cellS23_3 HGz54; have hcz54_4 := cellS23_4 HGz54; have hcz54_5 := cellS23_5 HGz54; have hcz54_6 := cellS23_6 HGz54; have hfz54_0 := blk_frozen HGz54 0; have hfz54_1 := blk_frozen HGz54 1; have hfz54_2 := blk_frozen HGz54 2; have hfz54_3 := blk_frozen HGz54 3; have hfz54_4 := blk_frozen HGz54 4; have hfz54_5 := blk_frozen HGz54 5; have hfz54_6 := blk_frozen HGz54 6; clear HGz54 hgz54) | (go_at_call 15; (with_reducible refine (duty_Format.calls kj19 x212000_19 x212001_19 x212002_19 x212003_19 x212004_19 x212005_19 x212006_19 t242 _ ?side1 A43.out).mono ?_); (case side1 => exact Gl.below HG.out (by repeat (first | (with_reducible first | exact HB.out | apply below_alloc | apply pw_below_drewN | apply below_drew1 | refine below_set ?_ (IsS23.ge HI211.out) | refine below_set ?_ GE210.out) | exact HB.out))); rintro e w55 ⟨rfl, hb⟩; have n0_ := Aside0.mk (blk_below (g := gb210) (o := .cells #[.int .i64 x211000_19, .int .i64 x211001_19, .int .i64 x211002_19, .bool x211003_19, .int .i64 x211004_19, .bool x211005_19, .int .i64 x211006_19] 23 (0, 0)) (by (with_reducible repeat (first | refine blk_drewN ?_ _ | refine blk_drew ?_ | refine blk_alloc ?_ _)); exact BK210.out) hb); have n1_ := Aside0.mk (IsS23.below (by repeat (first | (with_reducible first | exact HI211.out | apply IsS23.alloc | apply IsS23.drewN | apply IsS23.drew | apply IsS23.set_0 | apply IsS23.set_1 | apply IsS23.set_2 | apply IsS23.set_3 | apply IsS23.set_4 | apply IsS23.set_5 | apply IsS23.set_6 | refine IsS23.far ?_ NB211_210.out _) | exact HI211.out)) hb); have n2_ := Aside0.mk (below_step (by repeat (first | (with_reducible first | exact HB.out | apply below_alloc | apply pw_below_drewN | apply below_drew1 | refine below_set ?_ (IsS23.ge HI211.out) | refine below_set ?_ GE210.out) | exact HB.out)) hb); clear BK210; clear HI211; clear HB; have BK210 := n0_; have HI211 := n1_; have HB := n2_; clear n0_ n1_ n2_; (try clear hb); (try clear hb2); (try clear hk); (try clear hi); have hnb56 := NB210_211.out; have hnc56 := NB211_210.out; have hcz57_0 : w55.cell? ⟨gb210, 0, none⟩ = some (.int .i64 x211000_19) := (blk_cell BK210.out 0).trans rfl; have hcz57_1 : w55.cell? ⟨gb210, 1, none⟩ = some (.int .i64 x211001_19) := (blk_cell BK210.out 1).trans rfl; have hcz57_2 : w55.cell? ⟨gb210, 2, none⟩ = some (.int .i64 x211002_19) := (blk_cell BK210.out 2).trans rfl; have hcz57_3 : w55.cell? ⟨gb210, 3, none⟩ = some (.bool x211003_19) := (blk_cell BK210.out 3).trans rfl; have hcz57_4 : w55.cell? ⟨gb210, 4, none⟩ = some (.int .i64 x211004_19) := (blk_cell BK210.out 4).trans rfl; have hcz57_5 : w55.cell? ⟨gb210, 5, none⟩ = some (.bool x211005_19) := (blk_cell BK210.out 5).trans rfl; have hcz57_6 : w55.cell? ⟨gb210, 6, none⟩ = some (.int .i64 x211006_19) := (blk_cell BK210.out 6).trans rfl; have hfz57_0 := blk_frozen BK210.out 0; have hfz57_1 := blk_frozen BK210.out 1; have hfz57_2 := blk_frozen BK210.out 2; have hfz57_3 := blk_frozen BK210.out 3; have hfz57_4 := blk_frozen BK210.out 4; have hfz57_5 := blk_frozen BK210.out 5; have hfz57_6 := blk_frozen BK210.out 6))
                  refine bodyPost_ret (results_ct rfl _ _ gb210 23 #[.int .i64 0, .int .i64 0, .int .i64 0, .bool false, .int .i64 0, .bool false, .int .i64 0] (0, 0) _ rfl (by (with_reducible repeat (first | refine blk_drewN ?_ _ | refine blk_drew ?_ | refine blk_alloc ?_ _)); refine blk_put (cs := #[.int .i64 0, .int .i64 0, .int .i64 0, .bool false, .int .i64 0, .bool false, .int .i64 x211006_19]) ?_ 6 _ rfl; (with_reducible repeat (first | refine blk_drewN ?_ _ | refine blk_drew ?_ | refine blk_alloc ?_ _)); refine blk_put (cs := #[.int .i64 0, .int .i64 0, .int .i64 0, .bool false, .int .i64 0, .bool x211005_19, .int .i64 x211006_19]) ?_ 5 _ rfl; (with_reducible repeat (first | refine blk_drewN ?_ _ | refine blk_drew ?_ | refine blk_alloc ?_ _)); refine blk_put (cs := #[.int .i64 0, .int .i64 0, .int .i64 0, .bool false, .int .i64 x211004_19, .bool x211005_19, .int .i64 x211006_19]) ?_ 4 _ rfl; (with_reducible repeat (first | refine blk_drewN ?_ _ | refine blk_drew ?_ | refine blk_alloc ?_ _)); refine blk_put (cs := #[.int .i64 0, .int .i64 0, .int .i64 0, .bool x211003_19, .int .i64 x211004_19, .bool x211005_19, .int .i64 x211006_19]) ?_ 3 _ rfl; (with_reducible repeat (first | refine blk_drewN ?_ _ | refine blk_drew ?_ | refine blk_alloc ?_ _)); refine blk_put (cs := #[.int .i64 0, .int .i64 0, .int .i64 x211002_19, .bool x211003_19, .int .i64 x211004_19, .bool x211005_19, .int .i64 x211006_19]) ?_ 2 _ rfl; (with_reducible repeat (first | refine blk_drewN ?_ _ | refine blk_drew ?_ | refine blk_alloc ?_ _)); refine blk_put (cs := #[.int .i64 0, .int .i64 x211001_19, .int .i64 x211002_19, .bool x211003_19, .int .i64 x211004_19, .bool x211005_19, .int .i64 x211006_19]) ?_ 1 _ rfl; (with_reducible repeat (first | refine blk_drewN ?_ _ | refine blk_drew ?_ | refine blk_alloc ?_ _)); refine blk_put (cs := #[.int .i64 x211000_19, .int .i64 x211001_19, .int .i64 x211002_19, .bool x211003_19, .int .i64 x211004_19, .bool x211005_19, .int .i64 x211006_19]) ?_ 0 _ rfl; (with_reducible repeat (first | refine blk_drewN ?_ _ | refine blk_drew ?_ | refine blk_alloc ?_ _)); exact BK210.out) Tryd.underlying23 rfl (by kernel_rfl)) rfl ?_
                  exact ⟨by first | rfl | (simp [errW_none, errW_some] <;> rfl) | (simp [*, errW_none, errW_some] <;> rfl), by repeat (first | (with_reducible first | exact HB.out | apply below_alloc | apply pw_below_drewN | apply below_drew1 | refine below_set ?_ (IsS23.ge HI211.out) | refine below_set ?_ GE210.out) | exact HB.out)⟩
              · rw [if_neg c42] at H
                have c42b0 : (t241 == 0) = false := beq_eq_false_iff_ne.mpr c42
                have c42b1 : (t241 != 0) = true := bne_iff_ne.mpr c42
                simp only [Option.some.injEq, Prod.mk.injEq] at H
                obtain ⟨rfl, rfl, rfl, rfl, rfl, rfl, rfl, rfl⟩ := H
                obtain ⟨HGz58, hgz58⟩ := HI211.out
                have hcz58_0 := cellS23_0 HGz58
                have hcz58_1 := cellS23_1 HGz58
                have hcz58_2 := cellS23_2 HGz58
                have hcz58_3 := cellS23_3 HGz58
                have hcz58_4 := cellS23_4 HGz58
                have hcz58_5 := cellS23_5 HGz58
                have hcz58_6 := cellS23_6 HGz58
                have hfz58_0 := blk_frozen HGz58 0
                have hfz58_1 := blk_frozen HGz58 1
                have hfz58_2 := blk_frozen HGz58 2
                have hfz58_3 := blk_frozen HGz58 3
                have hfz58_4 := blk_frozen HGz58 4
                have hfz58_5 := blk_frozen HGz58 5
                have hfz58_6 := blk_frozen HGz58 6
                clear HGz58 hgz58
                go_wp2_with (first | ((with_reducible refine gate_callee (f := 11) rfl ?_); refine goesL_ (some 56) rfl rfl Tryd.func11 (by kernel_rfl) rfl #[.agg #[.int .i64 x212000_19, .int .i64 x212001_19, .int .i64 x212002_19, .bool x212003_19, .int .i64 x212004_19, .bool x212005_19, .int .i64 x212006_19]] rfl (by (try simp only [List.map_toArray, List.map_cons, List.map_nil]); first | done | rfl | (simp only [List.length_drop, List.length_take]; rfl)) ?_; (with_reducible refine (duty_Validate.calls kj19 x212000_19 x212001_19 x212002_19 x212003_19 x212004_19 x212005_19 x212006_19 t241 _ A41.out).mono ?_); rintro e w59 ⟨rfl, hb⟩; refine ⟨_, rfl, ?_⟩; have n0_ := Aside0.mk (blk_below (g := gb210) (o := .cells #[.int .i64 x211000_19, .int .i64 x211001_19, .int .i64 x211002_19, .bool x211003_19, .int .i64 x211004_19, .bool x211005_19, .int .i64 x211006_19] 23 (0, 0)) (by (with_reducible repeat (first | refine blk_drewN ?_ _ | refine blk_drew ?_ | refine blk_alloc ?_ _)); exact BK210.out) hb); have n1_ := Aside0.mk (IsS23.below (by repeat (first | (with_reducible first | exact HI211.out | apply IsS23.alloc | apply IsS23.drewN | apply IsS23.drew | apply IsS23.set_0 | apply IsS23.set_1 | apply IsS23.set_2 | apply IsS23.set_3 | apply IsS23.set_4 | apply IsS23.set_5 | apply IsS23.set_6 | refine IsS23.far ?_ NB211_210.out _) | exact HI211.out)) hb); have n2_ := Aside0.mk (below_step (by repeat (first | (with_reducible first | exact HB.out | apply below_alloc | apply pw_below_drewN | apply below_drew1 | refine below_set ?_ (IsS23.ge HI211.out) | refine below_set ?_ GE210.out) | exact HB.out)) hb); clear BK210; clear HI211; clear HB; have BK210 := n0_; have HI211 := n1_; have HB := n2_; clear n0_ n1_ n2_; (try clear hb); (try clear hb2); (try clear hk); (try clear hi); have hnb60 := NB210_211.out; have hnc60 := NB211_210.out; have hcz61_0 : w59.cell? ⟨gb210, 0, none⟩ = some (.int .i64 x211000_19) := (blk_cell BK210.out 0).trans rfl; have hcz61_1 : w59.cell? ⟨gb210, 1, none⟩ = some (.int .i64 x211001_19) := (blk_cell BK210.out 1).trans rfl; have hcz61_2 : w59.cell? ⟨gb210, 2, none⟩ = some (.int .i64 x211002_19) := (blk_cell BK210.out 2).trans rfl; have hcz61_3 : w59.cell? ⟨gb210, 3, none⟩ = some (.bool x211003_19) := (blk_cell BK210.out 3).trans rfl; have hcz61_4 : w59.cell? ⟨gb210, 4, none⟩ = some (.int .i64 x211004_19) := (blk_cell BK210.out 4).trans rfl; have hcz61_5 : w59.cell? ⟨gb210, 5, none⟩ = some (.bool x211005_19) := (blk_cell BK210.out 5).trans rfl; have hcz61_6 : w59.cell? ⟨gb210, 6, none⟩ = some (.int .i64 x211006_19) := (blk_cell BK210.out 6).trans rfl; have hfz61_0 := blk_frozen BK210.out 0; have hfz61_1 := blk_frozen BK210.out 1; have hfz61_2 := blk_frozen BK210.out 2; have hfz61_3 := blk_frozen BK210.out 3; have hfz61_4 := blk_frozen BK210.out 4; have hfz61_5 := blk_frozen BK210.out 5; have hfz61_6 := blk_frozen BK210.out 6))
                refine bodyPost_ret (results_ct rfl _ _ gb210 23 #[.int .i64 0, .int .i64 0, .int .i64 0, .bool false, .int .i64 0, .bool false, .int .i64 0] (0, 0) _ rfl (by (with_reducible repeat (first | refine blk_drewN ?_ _ | refine blk_drew ?_ | refine blk_alloc ?_ _)); refine blk_put (cs := #[.int .i64 0, .int .i64 0, .int .i64 0, .bool false, .int .i64 0, .bool false, .int .i64 x211006_19]) ?_ 6 _ rfl; (with_reducible repeat (first | refine blk_drewN ?_ _ | refine blk_drew ?_ | refine blk_alloc ?_ _)); refine blk_put (cs := #[.int .i64 0, .int .i64 0, .int .i64 0, .bool false, .int .i64 0, .bool x211005_19, .int .i64 x211006_19]) ?_ 5 _ rfl; (with_reducible repeat (first | refine blk_drewN ?_ _ | refine blk_drew ?_ | refine blk_alloc ?_ _)); refine blk_put (cs := #[.int .i64 0, .int .i64 0, .int .i64 0, .bool false, .int .i64 x211004_19, .bool x211005_19, .int .i64 x211006_19]) ?_ 4 _ rfl; (with_reducible repeat (first | refine blk_drewN ?_ _ | refine blk_drew ?_ | refine blk_alloc ?_ _)); refine blk_put (cs := #[.int .i64 0, .int .i64 0, .int .i64 0, .bool x211003_19, .int .i64 x211004_19, .bool x211005_19, .int .i64 x211006_19]) ?_ 3 _ rfl; (with_reducible repeat (first | refine blk_drewN ?_ _ | refine blk_drew ?_ | refine blk_alloc ?_ _)); refine blk_put (cs := #[.int .i64 0, .int .i64 0, .int .i64 x211002_19, .bool x211003_19, .int .i64 x211004_19, .bool x211005_19, .int .i64 x211006_19]) ?_ 2 _ rfl; (with_reducible repeat (first | refine blk_drewN ?_ _ | refine blk_drew ?_ | refine blk_alloc ?_ _)); refine blk_put (cs := #[.int .i64 0, .int .i64 x211001_19, .int .i64 x211002_19, .bool x211003_19, .int .i64 x211004_19, .bool x211005_19, .int .i64 x211006_19]) ?_ 1 _ rfl; (with_reducible repeat (first | refine blk_drewN ?_ _ | refine blk_drew ?_ | refine blk_alloc ?_ _)); refine blk_put (cs := #[.int .i64 x211000_19, .int .i64 x211001_19, .int .i64 x211002_19, .bool x211003_19, .int .i64 x211004_19, .bool x211005_19, .int .i64 x211006_19]) ?_ 0 _ rfl; (with_reducible repeat (first | refine blk_drewN ?_ _ | refine blk_drew ?_ | refine blk_alloc ?_ _)); exact BK210.out) Tryd.underlying23 rfl (by kernel_rfl)) rfl ?_
                exact ⟨by first | rfl | (simp [errW_none, errW_some] <;> rfl) | (simp [*, errW_none, errW_some] <;> rfl), by repeat (first | (with_reducible first | exact HB.out | apply below_alloc | apply pw_below_drewN | apply below_drew1 | refine below_set ?_ (IsS23.ge HI211.out) | refine below_set ?_ GE210.out) | exact HB.out)⟩

end Go.Proofs.YtfpkgdkcllobiaaDoor.F
end
section
namespace Go.Proofs.YtfpkgdkcllobiaaDoor.F
open Go.RowKit Go.Proofs.YtfpkgdkcllobiaaDoorW.PrintWords
def bits_LeadingZeros64.f (a0 : Int) : Option Int := if 0 ≤ a0 ∧ a0 ≤ 18446744073709551615 then some (64 - (Lib.bitLen a0.toNat : Int)) else none
theorem bits_LeadingZeros64.calls (a0 : Int) (r : Int) (w : World) (h : bits_LeadingZeros64.f a0 = some r) :
    Calls Tryd.prog 75 #[.int .u64 a0] w fun e w' => e = .returned (.int .i64 r) ∧ Drawn0 w w' := by
  unfold bits_LeadingZeros64.f at h
  split at h
  · rename_i hb
    obtain rfl := Option.some.inj h
    refine (Tryd.bits_LeadingZeros64 a0 w hb.1 hb.2).mono ?_
    rintro e w' ⟨rfl, rfl⟩
    exact ⟨rfl, Drawn0.refl _⟩
  · cases h
end Go.Proofs.YtfpkgdkcllobiaaDoor.F
end
section
namespace Go.Proofs.YtfpkgdkcllobiaaDoor.F
open Go.RowKit Go.Proofs.YtfpkgdkcllobiaaDoorW.PrintWords Go.Proofs.YtfpkgdkcllobiaaDoorW.PrintLast Go.Proofs.YtfpkgdkcllobiaaDoorW.PrintMore
attribute [local go_sem] max2_int min2_int max_two min_two max_three min_three max_four min_four   -- for this text's walks alone
set_option linter.unusedVariables false
set_option linter.unusedSimpArgs false

/-! ### bits_Div64: function 63 -/
mutual
def bits_Div64.j2 : Nat → Int → Int → Int → Int → Int → Int → Int → Int → Option (Int × Int)
  | 0, _, _, _, _, _, _, _, _ => none
  | k + 1, x2, x8, x9, x10, x11, x13, x14, x15 => if x9 = 0 then (none) else (bits_Div64.l1 k x2 x8 x9 x10 x14 x15 (IntKind.u64.wrap ((IntKind.u64.wrap ((IntKind.u64.wrap ((IntKind.u64.wrap (x11 * 4294967296)) + x13)) - (IntKind.u64.wrap (x15 * x2)))) - (IntKind.u64.wrap ((IntKind.u64.wrap (Int.tdiv (IntKind.u64.wrap ((IntKind.u64.wrap ((IntKind.u64.wrap (x11 * 4294967296)) + x13)) - (IntKind.u64.wrap (x15 * x2)))) x9)) * x9)))) (IntKind.u64.wrap ((IntKind.u64.wrap ((IntKind.u64.wrap (x11 * 4294967296)) + x13)) - (IntKind.u64.wrap (x15 * x2)))) (IntKind.u64.wrap (Int.tdiv (IntKind.u64.wrap ((IntKind.u64.wrap ((IntKind.u64.wrap (x11 * 4294967296)) + x13)) - (IntKind.u64.wrap (x15 * x2)))) x9)))
def bits_Div64.l1 : Nat → Int → Int → Int → Int → Int → Int → Int → Int → Int → Option (Int × Int)
  | 0, _, _, _, _, _, _, _, _, _ => none
  | k + 1, x2, x8, x9, x10, x14, x15, x16, x17, x18 => if x18 ≥ 4294967296 then (bits_Div64.j4 k x2 x8 x9 x10 x14 x15 x16 x17 x18 true) else (bits_Div64.j4 k x2 x8 x9 x10 x14 x15 x16 x17 x18 (decide ((IntKind.u64.wrap (x18 * x10)) > (IntKind.u64.wrap ((IntKind.u64.wrap (4294967296 * x16)) + x14)))))
def bits_Div64.j4 : Nat → Int → Int → Int → Int → Int → Int → Int → Int → Int → Bool → Option (Int × Int)
  | 0, _, _, _, _, _, _, _, _, _, _ => none
  | k + 1, x2, x8, x9, x10, x14, x15, x16, x17, x18, x113 => if x113 = true then (if (IntKind.u64.wrap (x16 + x9)) ≥ 4294967296 then (if 0 ≤ x8 then (some (IntKind.u64.wrap ((IntKind.u64.wrap (x15 * 4294967296)) + (IntKind.u64.wrap (x18 - 1))), shr .u64 (IntKind.u64.wrap ((IntKind.u64.wrap ((IntKind.u64.wrap (x17 * 4294967296)) + x14)) - (IntKind.u64.wrap ((IntKind.u64.wrap (x18 - 1)) * x2)))) x8)) else (none)) else (bits_Div64.l1 k x2 x8 x9 x10 x14 x15 (IntKind.u64.wrap (x16 + x9)) x17 (IntKind.u64.wrap (x18 - 1)))) else (if 0 ≤ x8 then (some (IntKind.u64.wrap ((IntKind.u64.wrap (x15 * 4294967296)) + x18), shr .u64 (IntKind.u64.wrap ((IntKind.u64.wrap ((IntKind.u64.wrap (x17 * 4294967296)) + x14)) - (IntKind.u64.wrap (x18 * x2)))) x8)) else (none))
def bits_Div64.l0 : Nat → Int → Int → Int → Int → Int → Int → Int → Int → Int → Option (Int × Int)
  | 0, _, _, _, _, _, _, _, _, _ => none
  | k + 1, x2, x8, x9, x10, x11, x13, x14, x15, x16 => if x15 ≥ 4294967296 then (bits_Div64.j1 k x2 x8 x9 x10 x11 x13 x14 x15 x16 true) else (bits_Div64.j1 k x2 x8 x9 x10 x11 x13 x14 x15 x16 (decide ((IntKind.u64.wrap (x15 * x10)) > (IntKind.u64.wrap ((IntKind.u64.wrap (4294967296 * x16)) + x13)))))
def bits_Div64.j1 : Nat → Int → Int → Int → Int → Int → Int → Int → Int → Int → Bool → Option (Int × Int)
  | 0, _, _, _, _, _, _, _, _, _, _ => none
  | k + 1, x2, x8, x9, x10, x11, x13, x14, x15, x16, x78 => if x78 = true then (if (IntKind.u64.wrap (x16 + x9)) ≥ 4294967296 then (bits_Div64.j2 k x2 x8 x9 x10 x11 x13 x14 (IntKind.u64.wrap (x15 - 1))) else (bits_Div64.l0 k x2 x8 x9 x10 x11 x13 x14 (IntKind.u64.wrap (x15 - 1)) (IntKind.u64.wrap (x16 + x9)))) else (bits_Div64.j2 k x2 x8 x9 x10 x11 x13 x14 x15)
end
def bits_Div64.f (k : Nat) (a0 : Int) (a1 : Int) (a2 : Int) : Option (Int × Int) := if a2 = 0 then (none) else (if a2 ≤ a0 then (none) else (if a0 = 0 then (some (IntKind.u64.wrap (Int.tdiv a1 a2), Int.tmod a1 a2)) else ((bits_LeadingZeros64.f a2).bind fun t584 => (if 0 ≤ (IntKind.u64.wrap (t584)) then (if 0 ≤ (IntKind.u64.wrap (64 - (IntKind.u64.wrap (t584)))) then (if ((shl .u64 a2 (IntKind.u64.wrap (t584))) / 4294967296) = 0 then (none) else (bits_Div64.l0 k (shl .u64 a2 (IntKind.u64.wrap (t584))) (IntKind.u64.wrap (t584)) ((shl .u64 a2 (IntKind.u64.wrap (t584))) / 4294967296) (Go.bits .and .u64 (shl .u64 a2 (IntKind.u64.wrap (t584))) 4294967295) (Go.bits .or .u64 (shl .u64 a0 (IntKind.u64.wrap (t584))) (shr .u64 a1 (IntKind.u64.wrap (64 - (IntKind.u64.wrap (t584)))))) ((shl .u64 a1 (IntKind.u64.wrap (t584))) / 4294967296) (Go.bits .and .u64 (shl .u64 a1 (IntKind.u64.wrap (t584))) 4294967295) (IntKind.u64.wrap (Int.tdiv (Go.bits .or .u64 (shl .u64 a0 (IntKind.u64.wrap (t584))) (shr .u64 a1 (IntKind.u64.wrap (64 - (IntKind.u64.wrap (t584)))))) ((shl .u64 a2 (IntKind.u64.wrap (t584))) / 4294967296))) (IntKind.u64.wrap ((Go.bits .or .u64 (shl .u64 a0 (IntKind.u64.wrap (t584))) (shr .u64 a1 (IntKind.u64.wrap (64 - (IntKind.u64.wrap (t584)))))) - (IntKind.u64.wrap ((IntKind.u64.wrap (Int.tdiv (Go.bits .or .u64 (shl .u64 a0 (IntKind.u64.wrap (t584))) (shr .u64 a1 (IntKind.u64.wrap (64 - (IntKind.u64.wrap (t584)))))) ((shl .u64 a2 (IntKind.u64.wrap (t584))) / 4294967296))) * ((shl .u64 a2 (IntKind.u64.wrap (t584))) / 4294967296))))))) else (none)) else (none)))))
theorem bits_Div64.mono_l : ∀ k, (∀ y0 y1 y2 y3 y4 y5 y6 y7, LeO (bits_Div64.j2 k y0 y1 y2 y3 y4 y5 y6 y7) (bits_Div64.j2 (k + 1) y0 y1 y2 y3 y4 y5 y6 y7)) ∧ (∀ y0 y1 y2 y3 y4 y5 y6 y7 y8, LeO (bits_Div64.l1 k y0 y1 y2 y3 y4 y5 y6 y7 y8) (bits_Div64.l1 (k + 1) y0 y1 y2 y3 y4 y5 y6 y7 y8)) ∧ (∀ y0 y1 y2 y3 y4 y5 y6 y7 y8 y9, LeO (bits_Div64.j4 k y0 y1 y2 y3 y4 y5 y6 y7 y8 y9) (bits_Div64.j4 (k + 1) y0 y1 y2 y3 y4 y5 y6 y7 y8 y9)) ∧ (∀ y0 y1 y2 y3 y4 y5 y6 y7 y8, LeO (bits_Div64.l0 k y0 y1 y2 y3 y4 y5 y6 y7 y8) (bits_Div64.l0 (k + 1) y0 y1 y2 y3 y4 y5 y6 y7 y8)) ∧ (∀ y0 y1 y2 y3 y4 y5 y6 y7 y8 y9, LeO (bits_Div64.j1 k y0 y1 y2 y3 y4 y5 y6 y7 y8 y9) (bits_Div64.j1 (k + 1) y0 y1 y2 y3 y4 y5 y6 y7 y8 y9))
  | 0 => ⟨fun _ _ _ _ _ _ _ _ r h => by simp [bits_Div64.j2] at h, fun _ _ _ _ _ _ _ _ _ r h => by simp [bits_Div64.l1] at h, fun _ _ _ _ _ _ _ _ _ _ r h => by simp [bits_Div64.j4] at h, fun _ _ _ _ _ _ _ _ _ r h => by simp [bits_Div64.l0] at h, fun _ _ _ _ _ _ _ _ _ _ r h => by simp [bits_Div64.j1] at h⟩
  | k + 1 => by
    obtain ⟨ih0, ih1, ih2, ih3, ih4⟩ := bits_Div64.mono_l k
    refine ⟨?_, ?_, ?_, ?_, ?_⟩
    · intro y0 y1 y2 y3 y4 y5 y6 y7
      unfold bits_Div64.j2
      repeat' first
      | (with_reducible exact ih0 _ _ _ _ _ _ _ _)
      | (with_reducible exact ih1 _ _ _ _ _ _ _ _ _)
      | (with_reducible exact ih2 _ _ _ _ _ _ _ _ _ _)
      | (with_reducible exact ih3 _ _ _ _ _ _ _ _ _)
      | (with_reducible exact ih4 _ _ _ _ _ _ _ _ _ _)
      | (with_reducible exact LeO.refl _)
      | (with_reducible exact LeO.none _)
      | (with_reducible refine LeO.ite ?_ ?_)
      | (with_reducible refine LeO.bind ?_ (fun _ => ?_))
      | exact ih0 _ _ _ _ _ _ _ _
      | exact ih1 _ _ _ _ _ _ _ _ _
      | exact ih2 _ _ _ _ _ _ _ _ _ _
      | exact ih3 _ _ _ _ _ _ _ _ _
      | exact ih4 _ _ _ _ _ _ _ _ _ _
      | exact LeO.none _
      | refine LeO.ite ?_ ?_
      | refine LeO.bind ?_ (fun _ => ?_)
    · intro y0 y1 y2 y3 y4 y5 y6 y7 y8
      unfold bits_Div64.l1
      repeat' first
      | (with_reducible exact ih0 _ _ _ _ _ _ _ _)
      | (with_reducible exact ih1 _ _ _ _ _ _ _ _ _)
      | (with_reducible exact ih2 _ _ _ _ _ _ _ _ _ _)
      | (with_reducible exact ih3 _ _ _ _ _ _ _ _ _)
      | (with_reducible exact ih4 _ _ _ _ _ _ _ _ _ _)
      | (with_reducible exact LeO.refl _)
      | (with_reducible exact LeO.none _)
      | (with_reducible refine LeO.ite ?_ ?_)
      | (with_reducible refine LeO.bind ?_ (fun _ => ?_))
      | exact ih0 _ _ _ _ _ _ _ _
      | exact ih1 _ _ _ _ _ _ _ _ _
      | exact ih2 _ _ _ _ _ _ _ _ _ _
      | exact ih3 _ _ _ _ _ _ _ _ _
      | exact ih4 _ _ _ _ _ _ _ _ _ _
      | exact LeO.none _
      | refine LeO.ite ?_ ?_
      | refine LeO.bind ?_ (fun _ => ?_)
    · intro y0 y1 y2 y3 y4 y5 y6 y7 y8 y9
      unfold bits_Div64.j4
      repeat' first
      | (with_reducible exact ih0 _ _ _ _ _ _ _ _)
      | (with_reducible exact ih1 _ _ _ _ _ _ _ _ _)
      | (with_reducible exact ih2 _ _ _ _ _ _ _ _ _ _)
      | (with_reducible exact ih3 _ _ _ _ _ _ _ _ _)
      | (with_reducible exact ih4 _ _ _ _ _ _ _ _ _ _)
      | (with_reducible exact LeO.refl _)
      | (with_reducible exact LeO.none _)
      | (with_reducible refine LeO.ite ?_ ?_)
      | (with_reducible refine LeO.bind ?_ (fun _ => ?_))
      | exact ih0 _ _ _ _ _ _ _ _
      | exact ih1 _ _ _ _ _ _ _ _ _
      | exact ih2 _ _ _ _ _ _ _ _ _ _
      | exact ih3 _ _ _ _ _ _ _ _ _
      | exact ih4 _ _ _ _ _ _ _ _ _ _
      | exact LeO.none _
      | refine LeO.ite ?_ ?_
      | refine LeO.bind ?_ (fun _ => ?_)
    · intro y0 y1 y2 y3 y4 y5 y6 y7 y8
      unfold bits_Div64.l0
      repeat' first
      | (with_reducible exact ih0 _ _ _ _ _ _ _ _)
      | (with_reducible exact ih1 _ _ _ _ _ _ _ _ _)
      | (with_reducible exact ih2 _ _ _ _ _ _ _ _ _ _)
      | (with_reducible exact ih3 _ _ _ _ _ _ _ _ _)
      | (with_reducible exact ih4 _ _ _ _ _ _ _ _ _ _)
      | (with_reducible exact LeO.refl _)
      | (with_reducible exact LeO.none _)
      | (with_reducible refine LeO.ite ?_ ?_)
      | (with_reducible refine LeO.bind ?_ (fun _ => ?_))
      | exact ih0 _ _ _ _ _ _ _ _
      | exact ih1 _ _ _ _ _ _ _ _ _
      | exact ih2 _ _ _ _ _ _ _ _ _ _
      | exact ih3 _ _ _ _ _ _ _ _ _
      | exact ih4 _ _ _ _ _ _ _ _ _ _
      | exact LeO.none _
      | refine LeO.ite ?_ ?_
      | refine LeO.bind ?_ (fun _ => ?_)
    · intro y0 y1 y2 y3 y4 y5 y6 y7 y8 y9
      unfold bits_Div64.j1
      repeat' first
      | (with_reducible exact ih0 _ _ _ _ _ _ _ _)
      | (with_reducible exact ih1 _ _ _ _ _ _ _ _ _)
      | (with_reducible exact ih2 _ _ _ _ _ _ _ _ _ _)
      | (with_reducible exact ih3 _ _ _ _ _ _ _ _ _)
      | (with_reducible exact ih4 _ _ _ _ _ _ _ _ _ _)
      | (with_reducible exact LeO.refl _)
      | (with_reducible exact LeO.none _)
      | (with_reducible refine LeO.ite ?_ ?_)
      | (with_reducible refine LeO.bind ?_ (fun _ => ?_))
      | exact ih0 _ _ _ _ _ _ _ _
      | exact ih1 _ _ _ _ _ _ _ _ _
      | exact ih2 _ _ _ _ _ _ _ _ _ _
      | exact ih3 _ _ _ _ _ _ _ _ _
      | exact ih4 _ _ _ _ _ _ _ _ _ _
      | exact LeO.none _
      | refine LeO.ite ?_ ?_
      | refine LeO.bind ?_ (fun _ => ?_)
theorem bits_Div64.mono : ∀ a0 a1 a2 k, LeO (bits_Div64.f k a0 a1 a2) (bits_Div64.f (k + 1) a0 a1 a2) := by
  intro a0 a1 a2 k
  obtain ⟨ih0, ih1, ih2, ih3, ih4⟩ := bits_Div64.mono_l k
  unfold bits_Div64.f
  repeat' first
      | (with_reducible exact ih0 _ _ _ _ _ _ _ _)
      | (with_reducible exact ih1 _ _ _ _ _ _ _ _ _)
      | (with_reducible exact ih2 _ _ _ _ _ _ _ _ _ _)
      | (with_reducible exact ih3 _ _ _ _ _ _ _ _ _)
      | (with_reducible exact ih4 _ _ _ _ _ _ _ _ _ _)
      | (with_reducible exact LeO.refl _)
      | (with_reducible exact LeO.none _)
      | (with_reducible refine LeO.ite ?_ ?_)
      | (with_reducible refine LeO.bind ?_ (fun _ => ?_))
      | exact ih0 _ _ _ _ _ _ _ _
      | exact ih1 _ _ _ _ _ _ _ _ _
      | exact ih2 _ _ _ _ _ _ _ _ _ _
      | exact ih3 _ _ _ _ _ _ _ _ _
      | exact ih4 _ _ _ _ _ _ _ _ _ _
      | exact LeO.none _
      | refine LeO.ite ?_ ?_
      | refine LeO.bind ?_ (fun _ => ?_)
set_option maxHeartbeats 8000000 in
set_option maxRecDepth 100000 in
theorem bits_Div64.calls (k : Nat) (a0 : Int) (a1 : Int) (a2 : Int) (r1 : Int) (r2 : Int) (w : World) (h : bits_Div64.f k a0 a1 a2 = some (r1, r2)) :
    Calls Tryd.prog 63 #[.int .u64 a0, .int .u64 a1, .int .u64 a2] w fun e w' => e = .returned (.tuple #[.int .u64 r1, .int .u64 r2]) ∧ Drawn0 w w' := by
  have H : (if a2 = 0 then (none) else (if a2 ≤ a0 then (none) else (if a0 = 0 then (some (IntKind.u64.wrap (Int.tdiv a1 a2), Int.tmod a1 a2)) else ((bits_LeadingZeros64.f a2).bind fun t584 => (if 0 ≤ (IntKind.u64.wrap (t584)) then (if 0 ≤ (IntKind.u64.wrap (64 - (IntKind.u64.wrap (t584)))) then (if ((shl .u64 a2 (IntKind.u64.wrap (t584))) / 4294967296) = 0 then (none) else (bits_Div64.l0 k (shl .u64 a2 (IntKind.u64.wrap (t584))) (IntKind.u64.wrap (t584)) ((shl .u64 a2 (IntKind.u64.wrap (t584))) / 4294967296) (Go.bits .and .u64 (shl .u64 a2 (IntKind.u64.wrap (t584))) 4294967295) (Go.bits .or .u64 (shl .u64 a0 (IntKind.u64.wrap (t584))) (shr .u64 a1 (IntKind.u64.wrap (64 - (IntKind.u64.wrap (t584)))))) ((shl .u64 a1 (IntKind.u64.wrap (t584))) / 4294967296) (Go.bits .and .u64 (shl .u64 a1 (IntKind.u64.wrap (t584))) 4294967295) (IntKind.u64.wrap (Int.tdiv (Go.bits .or .u64 (shl .u64 a0 (IntKind.u64.wrap (t584))) (shr .u64 a1 (IntKind.u64.wrap (64 - (IntKind.u64.wrap (t584)))))) ((shl .u64 a2 (IntKind.u64.wrap (t584))) / 4294967296))) (IntKind.u64.wrap ((Go.bits .or .u64 (shl .u64 a0 (IntKind.u64.wrap (t584))) (shr .u64 a1 (IntKind.u64.wrap (64 - (IntKind.u64.wrap (t584)))))) - (IntKind.u64.wrap ((IntKind.u64.wrap (Int.tdiv (Go.bits .or .u64 (shl .u64 a0 (IntKind.u64.wrap (t584))) (shr .u64 a1 (IntKind.u64.wrap (64 - (IntKind.u64.wrap (t584)))))) ((shl .u64 a2 (IntKind.u64.wrap (t584))) / 4294967296))) * ((shl .u64 a2 (IntKind.u64.wrap (t584))) / 4294967296))))))) else (none)) else (none)))))) = some (r1, r2) := h
  clear h
  by_cases c4 : a2 = 0
  · rw [if_pos c4] at H
    exact absurd H (by simp)
  · rw [if_neg c4] at H
    have c4b0 : (a2 == 0) = false := beq_eq_false_iff_ne.mpr c4
    have c4b1 : (a2 != 0) = true := bne_iff_ne.mpr c4
    by_cases c5 : a2 ≤ a0
    · rw [if_pos c5] at H
      exact absurd H (by simp)
    · rw [if_neg c5] at H
      have c5b0 : decide (a2 ≤ a0) = false := decide_eq_false c5
      clear c5
      by_cases c6 : a0 = 0
      · rw [if_pos c6] at H
        have c6b0 : (a0 == 0) = true := beq_iff_eq.mpr c6
        have c6b1 : (a0 != 0) = false := bne_eq_false_iff_eq.mpr c6
        clear c6
        simp only [Option.some.injEq, Prod.mk.injEq] at H
        obtain ⟨rfl, rfl⟩ := H
        go_enter Tryd.func63, Tryd.ntmps63
        go_wp2
        repeat (go_quiet (fail); try go_wp2)
        go_ret2
        exact ⟨by first | rfl | (simp; done) | (simp [*]; done), by repeat (first | exact Drawn0.refl _ | apply Drawn0.step)⟩
      · rw [if_neg c6] at H
        have c6b0 : (a0 == 0) = false := beq_eq_false_iff_ne.mpr c6
        have c6b1 : (a0 != 0) = true := bne_iff_ne.mpr c6
        replace H := Option.bind_eq_some_iff.mp H
        obtain ⟨t584, A70, H⟩ := H
        replace H : (if 0 ≤ (IntKind.u64.wrap (t584)) then (if 0 ≤ (IntKind.u64.wrap (64 - (IntKind.u64.wrap (t584)))) then (if ((shl .u64 a2 (IntKind.u64.wrap (t584))) / 4294967296) = 0 then (none) else (bits_Div64.l0 k (shl .u64 a2 (IntKind.u64.wrap (t584))) (IntKind.u64.wrap (t584)) ((shl .u64 a2 (IntKind.u64.wrap (t584))) / 4294967296) (Go.bits .and .u64 (shl .u64 a2 (IntKind.u64.wrap (t584))) 4294967295) (Go.bits .or .u64 (shl .u64 a0 (IntKind.u64.wrap (t584))) (shr .u64 a1 (IntKind.u64.wrap (64 - (IntKind.u64.wrap (t584)))))) ((shl .u64 a1 (IntKind.u64.wrap (t584))) / 4294967296) (Go.bits .and .u64 (shl .u64 a1 (IntKind.u64.wrap (t584))) 4294967295) (IntKind.u64.wrap (Int.tdiv (Go.bits .or .u64 (shl .u64 a0 (IntKind.u64.wrap (t584))) (shr .u64 a1 (IntKind.u64.wrap (64 - (IntKind.u64.wrap (t584)))))) ((shl .u64 a2 (IntKind.u64.wrap (t584))) / 4294967296))) (IntKind.u64.wrap ((Go.bits .or .u64 (shl .u64 a0 (IntKind.u64.wrap (t584))) (shr .u64 a1 (IntKind.u64.wrap (64 - (IntKind.u64.wrap (t584)))))) - (IntKind.u64.wrap ((IntKind.u64.wrap (Int.tdiv (Go.bits .or .u64 (shl .u64 a0 (IntKind.u64.wrap (t584))) (shr .u64 a1 (IntKind.u64.wrap (64 - (IntKind.u64.wrap (t584)))))) ((shl .u64 a2 (IntKind.u64.wrap (t584))) / 4294967296))) * ((shl .u64 a2 (IntKind.u64.wrap (t584))) / 4294967296))))))) else (none)) else (none)) = some (r1, r2) := H
        have A7 := Aside0.mk A70
        clear A70
        obtain ⟨ji8, hji8⟩ : ∃ j_ : Int, (IntKind.u64.wrap (t584)) = j_ := ⟨_, rfl⟩
        replace H : (if 0 ≤ (ji8) then (if 0 ≤ (IntKind.u64.wrap (64 - (ji8))) then (if ((shl .u64 a2 (ji8)) / 4294967296) = 0 then (none) else (bits_Div64.l0 k (shl .u64 a2 (ji8)) ji8 ((shl .u64 a2 (ji8)) / 4294967296) (Go.bits .and .u64 (shl .u64 a2 (ji8)) 4294967295) (Go.bits .or .u64 (shl .u64 a0 (ji8)) (shr .u64 a1 (IntKind.u64.wrap (64 - (ji8))))) ((shl .u64 a1 (ji8)) / 4294967296) (Go.bits .and .u64 (shl .u64 a1 (ji8)) 4294967295) (IntKind.u64.wrap (Int.tdiv (Go.bits .or .u64 (shl .u64 a0 (ji8)) (shr .u64 a1 (IntKind.u64.wrap (64 - (ji8))))) ((shl .u64 a2 (ji8)) / 4294967296))) (IntKind.u64.wrap ((Go.bits .or .u64 (shl .u64 a0 (ji8)) (shr .u64 a1 (IntKind.u64.wrap (64 - (ji8))))) - (IntKind.u64.wrap ((IntKind.u64.wrap (Int.tdiv (Go.bits .or .u64 (shl .u64 a0 (ji8)) (shr .u64 a1 (IntKind.u64.wrap (64 - (ji8))))) ((shl .u64 a2 (ji8)) / 4294967296))) * ((shl .u64 a2 (ji8)) / 4294967296))))))) else (none)) else (none)) = some (r1, r2) := by first | (rw [hji8] at H; exact H) | (simp only [hji8] at H ⊢; exact H)
        (try rw [hji8] at A7)
        by_cases c9 : 0 ≤ (ji8)
        · rw [if_pos c9] at H
          have c9b0 := eq_true c9
          have c9b1 : decide (0 ≤ (ji8)) = true := decide_eq_true c9
          clear c9
          obtain ⟨ji10, hji10⟩ : ∃ j_ : Int, (shl .u64 a2 (ji8)) = j_ := ⟨_, rfl⟩
          replace H : (if 0 ≤ (IntKind.u64.wrap (64 - (ji8))) then (if ((ji10) / 4294967296) = 0 then (none) else (bits_Div64.l0 k ji10 ji8 ((ji10) / 4294967296) (Go.bits .and .u64 (ji10) 4294967295) (Go.bits .or .u64 (shl .u64 a0 (ji8)) (shr .u64 a1 (IntKind.u64.wrap (64 - (ji8))))) ((shl .u64 a1 (ji8)) / 4294967296) (Go.bits .and .u64 (shl .u64 a1 (ji8)) 4294967295) (IntKind.u64.wrap (Int.tdiv (Go.bits .or .u64 (shl .u64 a0 (ji8)) (shr .u64 a1 (IntKind.u64.wrap (64 - (ji8))))) ((ji10) / 4294967296))) (IntKind.u64.wrap ((Go.bits .or .u64 (shl .u64 a0 (ji8)) (shr .u64 a1 (IntKind.u64.wrap (64 - (ji8))))) - (IntKind.u64.wrap ((IntKind.u64.wrap (Int.tdiv (Go.bits .or .u64 (shl .u64 a0 (ji8)) (shr .u64 a1 (IntKind.u64.wrap (64 - (ji8))))) ((ji10) / 4294967296))) * ((ji10) / 4294967296))))))) else (none)) = some (r1, r2) := by first | (rw [hji10] at H; exact H) | (simp only [hji10] at H ⊢; exact H)
          (try rw [hji10] at A7)
          have hji10_ : (IntKind.u64.wrap (a2 * 2 ^ min (ji8).toNat 64)) = ji10 := hji10
          have hji10z : (ji8) ≤ 64 → (IntKind.u64.wrap (a2 * 2 ^ (ji8).toNat)) = ji10 := shl_small hji10
          have c11b0 := eq_true (of_decide_eq_true (by first | (with_reducible assumption) | assumption) : 0 ≤ (ji8))
          obtain ⟨ji12, hji12⟩ : ∃ j_ : Int, (shl .u64 a0 (ji8)) = j_ := ⟨_, rfl⟩
          replace H : (if 0 ≤ (IntKind.u64.wrap (64 - (ji8))) then (if ((ji10) / 4294967296) = 0 then (none) else (bits_Div64.l0 k ji10 ji8 ((ji10) / 4294967296) (Go.bits .and .u64 (ji10) 4294967295) (Go.bits .or .u64 (ji12) (shr .u64 a1 (IntKind.u64.wrap (64 - (ji8))))) ((shl .u64 a1 (ji8)) / 4294967296) (Go.bits .and .u64 (shl .u64 a1 (ji8)) 4294967295) (IntKind.u64.wrap (Int.tdiv (Go.bits .or .u64 (ji12) (shr .u64 a1 (IntKind.u64.wrap (64 - (ji8))))) ((ji10) / 4294967296))) (IntKind.u64.wrap ((Go.bits .or .u64 (ji12) (shr .u64 a1 (IntKind.u64.wrap (64 - (ji8))))) - (IntKind.u64.wrap ((IntKind.u64.wrap (Int.tdiv (Go.bits .or .u64 (ji12) (shr .u64 a1 (IntKind.u64.wrap (64 - (ji8))))) ((ji10) / 4294967296))) * ((ji10) / 4294967296))))))) else (none)) = some (r1, r2) := by first | (rw [hji12] at H; exact H) | (simp only [hji12] at H ⊢; exact H)
          (try rw [hji12] at A7)
          have hji12_ : (IntKind.u64.wrap (a0 * 2 ^ min (ji8).toNat 64)) = ji12 := hji12
          have hji12z : (ji8) ≤ 64 → (IntKind.u64.wrap (a0 * 2 ^ (ji8).toNat)) = ji12 := shl_small hji12
          obtain ⟨ji13, hji13⟩ : ∃ j_ : Int, (IntKind.u64.wrap (64 - (ji8))) = j_ := ⟨_, rfl⟩
          replace H : (if 0 ≤ (ji13) then (if ((ji10) / 4294967296) = 0 then (none) else (bits_Div64.l0 k ji10 ji8 ((ji10) / 4294967296) (Go.bits .and .u64 (ji10) 4294967295) (Go.bits .or .u64 (ji12) (shr .u64 a1 (ji13))) ((shl .u64 a1 (ji8)) / 4294967296) (Go.bits .and .u64 (shl .u64 a1 (ji8)) 4294967295) (IntKind.u64.wrap (Int.tdiv (Go.bits .or .u64 (ji12) (shr .u64 a1 (ji13))) ((ji10) / 4294967296))) (IntKind.u64.wrap ((Go.bits .or .u64 (ji12) (shr .u64 a1 (ji13))) - (IntKind.u64.wrap ((IntKind.u64.wrap (Int.tdiv (Go.bits .or .u64 (ji12) (shr .u64 a1 (ji13))) ((ji10) / 4294967296))) * ((ji10) / 4294967296))))))) else (none)) = some (r1, r2) := by first | (rw [hji13] at H; exact H) | (simp only [hji13] at H ⊢; exact H)
          (try rw [hji13] at A7)
          by_cases c14 : 0 ≤ (ji13)
          · rw [if_pos c14] at H
            have c14b0 := eq_true c14
            have c14b1 : decide (0 ≤ (ji13)) = true := decide_eq_true c14
            clear c14
            obtain ⟨ji15, hji15⟩ : ∃ j_ : Int, (shr .u64 a1 (ji13)) = j_ := ⟨_, rfl⟩
            replace H : (if ((ji10) / 4294967296) = 0 then (none) else (bits_Div64.l0 k ji10 ji8 ((ji10) / 4294967296) (Go.bits .and .u64 (ji10) 4294967295) (Go.bits .or .u64 (ji12) (ji15)) ((shl .u64 a1 (ji8)) / 4294967296) (Go.bits .and .u64 (shl .u64 a1 (ji8)) 4294967295) (IntKind.u64.wrap (Int.tdiv (Go.bits .or .u64 (ji12) (ji15)) ((ji10) / 4294967296))) (IntKind.u64.wrap ((Go.bits .or .u64 (ji12) (ji15)) - (IntKind.u64.wrap ((IntKind.u64.wrap (Int.tdiv (Go.bits .or .u64 (ji12) (ji15)) ((ji10) / 4294967296))) * ((ji10) / 4294967296))))))) = some (r1, r2) := by first | (rw [hji15] at H; exact H) | (simp only [hji15] at H ⊢; exact H)
            (try rw [hji15] at A7)
            have hji15_ : (a1 / 2 ^ min (ji13).toNat 64) = ji15 := hji15
            have hji15z : (ji13) ≤ 64 → (a1 / 2 ^ (ji13).toNat) = ji15 := shr_small hji15
            have c16b0 := eq_true (of_decide_eq_true (by first | (with_reducible assumption) | assumption) : 0 ≤ (ji8))
            obtain ⟨ji17, hji17⟩ : ∃ j_ : Int, (shl .u64 a1 (ji8)) = j_ := ⟨_, rfl⟩
            replace H : (if ((ji10) / 4294967296) = 0 then (none) else (bits_Div64.l0 k ji10 ji8 ((ji10) / 4294967296) (Go.bits .and .u64 (ji10) 4294967295) (Go.bits .or .u64 (ji12) (ji15)) ((ji17) / 4294967296) (Go.bits .and .u64 (ji17) 4294967295) (IntKind.u64.wrap (Int.tdiv (Go.bits .or .u64 (ji12) (ji15)) ((ji10) / 4294967296))) (IntKind.u64.wrap ((Go.bits .or .u64 (ji12) (ji15)) - (IntKind.u64.wrap ((IntKind.u64.wrap (Int.tdiv (Go.bits .or .u64 (ji12) (ji15)) ((ji10) / 4294967296))) * ((ji10) / 4294967296))))))) = some (r1, r2) := by first | (rw [hji17] at H; exact H) | (simp only [hji17] at H ⊢; exact H)
            (try rw [hji17] at A7)
            have hji17_ : (IntKind.u64.wrap (a1 * 2 ^ min (ji8).toNat 64)) = ji17 := hji17
            have hji17z : (ji8) ≤ 64 → (IntKind.u64.wrap (a1 * 2 ^ (ji8).toNat)) = ji17 := shl_small hji17
            by_cases c18 : ((ji10) / 4294967296) = 0
            · rw [if_pos c18] at H
              exact absurd H (by simp)
            · rw [if_neg c18] at H
              have c18b0 : (((ji10) / 4294967296) == 0) = false := beq_eq_false_iff_ne.mpr c18
              have c18b1 : (((ji10) / 4294967296) != 0) = true := bne_iff_ne.mpr c18
              have HC19 := Aside0.mk H
              clear H
              go_enter Tryd.func63, Tryd.ntmps63
              go_upto_block 0 with (first | (go_at_call 75; (with_reducible refine (bits_LeadingZeros64.calls a2 t584 _ A7.out).mono ?_); rintro e w' ⟨rfl, ⟨nd, rfl⟩⟩; (try first | exact ⟨rfl, _, World.drewN_drewN _ _ _⟩ | exact ⟨rfl, _, Eq.trans (World.drewN_drewN _ _ _) (congrArg (World.drewN _) (Nat.add_assoc _ _ _))⟩)))
              repeat (go_quiet (first | (go_at_call 75; (with_reducible refine (bits_LeadingZeros64.calls a2 t584 _ A7.out).mono ?_); rintro e w' ⟨rfl, ⟨nd, rfl⟩⟩; (try first | exact ⟨rfl, _, World.drewN_drewN _ _ _⟩ | exact ⟨rfl, _, Eq.trans (World.drewN_drewN _ _ _) (congrArg (World.drewN _) (Nat.add_assoc _ _ _))⟩))); go_upto_block 0 with (first | (go_at_call 75; (with_reducible refine (bits_LeadingZeros64.calls a2 t584 _ A7.out).mono ?_); rintro e w' ⟨rfl, ⟨nd, rfl⟩⟩; (try first | exact ⟨rfl, _, World.drewN_drewN _ _ _⟩ | exact ⟨rfl, _, Eq.trans (World.drewN_drewN _ _ _) (congrArg (World.drewN _) (Nat.add_assoc _ _ _))⟩))))
              (try simp only [Act.put, List.setIfInBounds_toArray, List.set_cons_zero, List.set_cons_succ])
              go_cut [15] (fun v15 wc => ∃ (kq : Nat) (x15_18 : Int), v15 = .int .u64 x15_18 ∧ Aside0 (bits_Div64.j2 kq ji10 ji8 ((ji10) / 4294967296) (Go.bits .and .u64 (ji10) 4294967295) (Go.bits .or .u64 (ji12) (ji15)) ((ji17) / 4294967296) (Go.bits .and .u64 (ji17) 4294967295) x15_18 = some (r1, r2)) ∧ Aside0 (kq ≤ k) ∧ Drawn0 w wc)
              case first =>
                have H := HC19.out
                clear HC19
                have H' := Aside0.mk H
                clear H
                go_wp2
                repeat (go_quiet (fail); try go_wp2)
                go_loopg [15, 16] k (fun kq v15 v16 w' => ∃ (x15_1 : Int) (x16_1 : Int), v15 = .int .u64 x15_1 ∧ v16 = .int .u64 x16_1 ∧ Aside0 (bits_Div64.l0 kq ji10 ji8 ((ji10) / 4294967296) (Go.bits .and .u64 (ji10) 4294967295) (Go.bits .or .u64 (ji12) (ji15)) ((ji17) / 4294967296) (Go.bits .and .u64 (ji17) 4294967295) x15_1 x16_1 = some (r1, r2)) ∧ Aside0 (kq ≤ k) ∧ Drawn0 w w')
                case atStart => exact ⟨(IntKind.u64.wrap (Int.tdiv (Go.bits .or .u64 (ji12) (ji15)) ((ji10) / 4294967296))), (IntKind.u64.wrap ((Go.bits .or .u64 (ji12) (ji15)) - (IntKind.u64.wrap ((IntKind.u64.wrap (Int.tdiv (Go.bits .or .u64 (ji12) (ji15)) ((ji10) / 4294967296))) * ((ji10) / 4294967296))))), (by first | rfl | (simp; done) | (simp only [← hji10, ← hji12, ← hji15] <;> (first | rfl | simp)) | (simp [*]; done)), (by first | rfl | (simp; done) | (simp only [← hji10, ← hji12, ← hji15] <;> (first | rfl | simp)) | (simp [*]; done)), H', ⟨Nat.le_refl _⟩, by repeat (first | exact Drawn0.refl _ | apply Drawn0.step)⟩
                case round =>
                  clear H'
                  try clear c1
                  try clear p2
                  try clear c4
                  try clear c4b0
                  try clear c4b1
                  try clear c5
                  try clear c5b0
                  try clear c6
                  try clear c6b0
                  try clear c6b1
                  try clear c9
                  try clear c9b0
                  try clear c9b1
                  try clear c11
                  try clear c11b0
                  try clear c14
                  try clear c14b0
                  try clear c14b1
                  try clear c16
                  try clear c16b0
                  try clear c18
                  try clear c18b0
                  try clear c18b1
                  obtain ⟨x15_1, x16_1, rfl, rfl, HA, HK1, ⟨m1, rfl⟩⟩ := hrel
                  cases gk with
                  | zero => exact absurd HA.out (by simp [bits_Div64.l0])
                  | succ k1 =>
                    have H := HA.out
                    clear HA
                    simp only [bits_Div64.l0] at H
                    have HC20 := Aside0.mk H
                    clear H
                    go_upto_region 17 with (fail)
                    repeat (go_quiet (fail); go_upto_region 17 with (fail))
                    go_cut [78] (fun v78 wc => ∃ (kq : Nat) (x78_19 : Bool), v78 = .bool x78_19 ∧ Aside0 (bits_Div64.j1 kq ji10 ji8 ((ji10) / 4294967296) (Go.bits .and .u64 (ji10) 4294967295) (Go.bits .or .u64 (ji12) (ji15)) ((ji17) / 4294967296) (Go.bits .and .u64 (ji17) 4294967295) x15_1 x16_1 x78_19 = some (r1, r2)) ∧ Aside0 (kq ≤ k1) ∧ Drawn0 w wc)
                    case first =>
                      have H := HC20.out
                      clear HC20
                      by_cases c21 : x15_1 ≥ 4294967296
                      · rw [if_pos c21] at H
                        have c21b0 : decide (4294967296 ≤ x15_1) = true := decide_eq_true c21
                        clear c21
                        (first | rw [c21b0] | (simp only [i64_w, i32_w]; rw [c21b0]) | skip)
                        have H' := Aside0.mk H
                        clear H
                        go_wp2
                        repeat (go_quiet (fail); try go_wp2)
                        go_meet
                        case rel => exact ⟨_, (true), (by first | rfl | (simp; done) | (simp [*]; done)), H', ⟨by have := HK1.out; first | omega | exact Nat.le_refl _⟩, by repeat (first | exact Drawn0.refl _ | apply Drawn0.step)⟩
                      · rw [if_neg c21] at H
                        have c21b0 : decide (4294967296 ≤ x15_1) = false := decide_eq_false c21
                        clear c21
                        (first | rw [c21b0] | (simp only [i64_w, i32_w]; rw [c21b0]) | skip)
                        have H' := Aside0.mk H
                        clear H
                        go_wp2
                        repeat (go_quiet (fail); try go_wp2)
                        go_meet
                        case rel => exact ⟨_, (decide ((IntKind.u64.wrap (x15_1 * (Go.bits .and .u64 (ji10) 4294967295))) > (IntKind.u64.wrap ((IntKind.u64.wrap (4294967296 * x16_1)) + ((ji17) / 4294967296))))), (by first | rfl | (simp; done) | (simp only [← hji10, ← hji17] <;> (first | rfl | simp)) | (simp [*]; done)), H', ⟨by have := HK1.out; first | omega | exact Nat.le_refl _⟩, by repeat (first | exact Drawn0.refl _ | apply Drawn0.step)⟩
                    case rest =>
                      clear HC20
                      try clear c1
                      try clear c2
                      try clear p2
                      try clear c4
                      try clear c4b0
                      try clear c4b1
                      try clear c5
                      try clear c5b0
                      try clear c6
                      try clear c6b0
                      try clear c6b1
                      try clear c9
                      try clear c9b0
                      try clear c9b1
                      try clear c11
                      try clear c11b0
                      try clear c14
                      try clear c14b0
                      try clear c14b1
                      try clear c16
                      try clear c16b0
                      try clear c18
                      try clear c18b0
                      try clear c18b1
                      try clear c21
                      try clear c21b0
                      try clear p2
                      obtain ⟨kq, x78_19, rfl, HA, HJ19, ⟨mc19, rfl⟩⟩ := hcut
                      cases kq with
                      | zero => exact absurd HA.out (by simp [bits_Div64.j1])
                      | succ kj19 =>
                        have H := HA.out
                        clear HA
                        simp only [bits_Div64.j1] at H
                        by_cases c22 : x78_19 = true
                        · subst c22
                          have H1 : (if (IntKind.u64.wrap (x16_1 + ((ji10) / 4294967296))) ≥ 4294967296 then (bits_Div64.j2 kj19 ji10 ji8 ((ji10) / 4294967296) (Go.bits .and .u64 (ji10) 4294967295) (Go.bits .or .u64 (ji12) (ji15)) ((ji17) / 4294967296) (Go.bits .and .u64 (ji17) 4294967295) (IntKind.u64.wrap (x15_1 - 1))) else (bits_Div64.l0 kj19 ji10 ji8 ((ji10) / 4294967296) (Go.bits .and .u64 (ji10) 4294967295) (Go.bits .or .u64 (ji12) (ji15)) ((ji17) / 4294967296) (Go.bits .and .u64 (ji17) 4294967295) (IntKind.u64.wrap (x15_1 - 1)) (IntKind.u64.wrap (x16_1 + ((ji10) / 4294967296))))) = some (r1, r2) := by rw [if_pos rfl] at H; exact H
                          clear H
                          have H := H1
                          clear H1
                          by_cases c23 : (IntKind.u64.wrap (x16_1 + ((ji10) / 4294967296))) ≥ 4294967296
                          · rw [if_pos c23] at H
                            have c23b0 : decide (4294967296 ≤ (IntKind.u64.wrap (x16_1 + ((ji10) / 4294967296)))) = true := decide_eq_true c23
                            clear c23
                            have H' := Aside0.mk H
                            clear H
                            go_wp2
                            repeat (go_quiet (fail); try go_wp2)
                            go_meet
                            case rel => exact ⟨_, (IntKind.u64.wrap (x15_1 - 1)), (by first | rfl | (simp; done) | (simp [*]; done)), H', ⟨by have := HK1.out; have := HJ19.out; first | omega | exact Nat.le_refl _⟩, by repeat (first | exact Drawn0.refl _ | apply Drawn0.step)⟩
                          · rw [if_neg c23] at H
                            have c23b0 : decide (4294967296 ≤ (IntKind.u64.wrap (x16_1 + ((ji10) / 4294967296)))) = false := decide_eq_false c23
                            clear c23
                            have H' := Aside0.mk H
                            clear H
                            go_wp2
                            repeat (go_quiet (fail); try go_wp2)
                            go_roundg kj19
                            case measure => have := HK1.out; have := HJ19.out; omega
                            case rel => exact ⟨(IntKind.u64.wrap (x15_1 - 1)), (IntKind.u64.wrap (x16_1 + ((ji10) / 4294967296))), (by first | rfl | (simp; done) | (simp [*]; done)), (by first | rfl | (simp; done) | (simp only [← hji10] <;> (first | rfl | simp)) | (simp [*]; done)), H', ⟨by have := HK1.out; have := HJ19.out; omega⟩, by repeat (first | exact Drawn0.refl _ | apply Drawn0.step)⟩
                        · replace c22 := Bool.eq_false_iff.mpr c22
                          subst c22
                          have H1 : (bits_Div64.j2 kj19 ji10 ji8 ((ji10) / 4294967296) (Go.bits .and .u64 (ji10) 4294967295) (Go.bits .or .u64 (ji12) (ji15)) ((ji17) / 4294967296) (Go.bits .and .u64 (ji17) 4294967295) x15_1) = some (r1, r2) := by rw [if_neg (show ¬ (false = true) by decide)] at H; exact H
                          clear H
                          have H := H1
                          clear H1
                          have H' := Aside0.mk H
                          clear H
                          go_wp2
                          repeat (go_quiet (fail); try go_wp2)
                          go_meet
                          case rel => exact ⟨_, (x15_1), (by first | rfl | (simp; done) | (simp [*]; done)), H', ⟨by have := HK1.out; have := HJ19.out; first | omega | exact Nat.le_refl _⟩, by repeat (first | exact Drawn0.refl _ | apply Drawn0.step)⟩
              case rest =>
                clear HC19
                try clear c1
                try clear c2
                try clear p2
                try clear c4
                try clear c4b0
                try clear c4b1
                try clear c5
                try clear c5b0
                try clear c6
                try clear c6b0
                try clear c6b1
                try clear c9
                try clear c9b0
                try clear c9b1
                try clear c11
                try clear c11b0
                try clear c14
                try clear c14b0
                try clear c14b1
                try clear c16
                try clear c16b0
                try clear c18
                try clear c18b0
                try clear c18b1
                try clear c19
                try clear c21
                try clear c21b0
                try clear c22
                try clear c23
                try clear c23b0
                try clear p2
                obtain ⟨kq, x15_18, rfl, HA, HJ18, ⟨mc18, rfl⟩⟩ := hcut
                cases kq with
                | zero => exact absurd HA.out (by simp [bits_Div64.j2])
                | succ kj18 =>
                  have H := HA.out
                  clear HA
                  simp only [bits_Div64.j2] at H
                  by_cases c24 : ((ji10) / 4294967296) = 0
                  · rw [if_pos c24] at H
                    exact absurd H (by simp)
                  · rw [if_neg c24] at H
                    have c24b0 : (((ji10) / 4294967296) == 0) = false := beq_eq_false_iff_ne.mpr c24
                    have c24b1 : (((ji10) / 4294967296) != 0) = true := bne_iff_ne.mpr c24
                    have H' := Aside0.mk H
                    clear H
                    go_wp2
                    repeat (go_quiet (fail); try go_wp2)
                    go_loopg [16, 18] kj18 (fun kq v16 v18 w' => ∃ (x16_2 : Int) (x18_2 : Int), v16 = .int .u64 x16_2 ∧ v18 = .int .u64 x18_2 ∧ Aside0 (bits_Div64.l1 kq ji10 ji8 ((ji10) / 4294967296) (Go.bits .and .u64 (ji10) 4294967295) (Go.bits .and .u64 (ji17) 4294967295) x15_18 x16_2 (IntKind.u64.wrap ((IntKind.u64.wrap ((IntKind.u64.wrap ((Go.bits .or .u64 (ji12) (ji15)) * 4294967296)) + ((ji17) / 4294967296))) - (IntKind.u64.wrap (x15_18 * ji10)))) x18_2 = some (r1, r2)) ∧ Aside0 (kq ≤ kj18) ∧ Drawn0 w w')
                    case atStart => exact ⟨(IntKind.u64.wrap ((IntKind.u64.wrap ((IntKind.u64.wrap ((IntKind.u64.wrap ((Go.bits .or .u64 (ji12) (ji15)) * 4294967296)) + ((ji17) / 4294967296))) - (IntKind.u64.wrap (x15_18 * ji10)))) - (IntKind.u64.wrap ((IntKind.u64.wrap (Int.tdiv (IntKind.u64.wrap ((IntKind.u64.wrap ((IntKind.u64.wrap ((Go.bits .or .u64 (ji12) (ji15)) * 4294967296)) + ((ji17) / 4294967296))) - (IntKind.u64.wrap (x15_18 * ji10)))) ((ji10) / 4294967296))) * ((ji10) / 4294967296))))), (IntKind.u64.wrap (Int.tdiv (IntKind.u64.wrap ((IntKind.u64.wrap ((IntKind.u64.wrap ((Go.bits .or .u64 (ji12) (ji15)) * 4294967296)) + ((ji17) / 4294967296))) - (IntKind.u64.wrap (x15_18 * ji10)))) ((ji10) / 4294967296))), (by first | rfl | (simp; done) | (simp only [← hji10, ← hji12, ← hji15, ← hji17] <;> (first | rfl | simp)) | (simp [*]; done)), (by first | rfl | (simp; done) | (simp only [← hji10, ← hji12, ← hji15, ← hji17] <;> (first | rfl | simp)) | (simp [*]; done)), H', ⟨Nat.le_refl _⟩, by repeat (first | exact Drawn0.refl _ | apply Drawn0.step)⟩
                    case round =>
                      clear H'
                      try clear c1
                      try clear c2
                      try clear p2
                      try clear c4
                      try clear c4b0
                      try clear c4b1
                      try clear c5
                      try clear c5b0
                      try clear c6
                      try clear c6b0
                      try clear c6b1
                      try clear c9
                      try clear c9b0
                      try clear c9b1
                      try clear c11
                      try clear c11b0
                      try clear c14
                      try clear c14b0
                      try clear c14b1
                      try clear c16
                      try clear c16b0
                      try clear c18
                      try clear c18b0
                      try clear c18b1
                      try clear c19
                      try clear c21
                      try clear c21b0
                      try clear c22
                      try clear c23
                      try clear c23b0
                      try clear c24
                      try clear c24b0
                      try clear c24b1
                      try clear p2
                      obtain ⟨x16_2, x18_2, rfl, rfl, HA, HK2, ⟨m2, rfl⟩⟩ := hrel
                      cases gk with
                      | zero => exact absurd HA.out (by simp [bits_Div64.l1])
                      | succ k2 =>
                        have H := HA.out
                        clear HA
                        simp only [bits_Div64.l1] at H
                        have HC25 := Aside0.mk H
                        clear H
                        go_upto_region 24 with (fail)
                        repeat (go_quiet (fail); go_upto_region 24 with (fail))
                        go_cut [113] (fun v113 wc => ∃ (kq : Nat) (x113_24 : Bool), v113 = .bool x113_24 ∧ Aside0 (bits_Div64.j4 kq ji10 ji8 ((ji10) / 4294967296) (Go.bits .and .u64 (ji10) 4294967295) (Go.bits .and .u64 (ji17) 4294967295) x15_18 x16_2 (IntKind.u64.wrap ((IntKind.u64.wrap ((IntKind.u64.wrap ((Go.bits .or .u64 (ji12) (ji15)) * 4294967296)) + ((ji17) / 4294967296))) - (IntKind.u64.wrap (x15_18 * ji10)))) x18_2 x113_24 = some (r1, r2)) ∧ Aside0 (kq ≤ k2) ∧ Drawn0 w wc)
                        case first =>
                          have H := HC25.out
                          clear HC25
                          by_cases c26 : x18_2 ≥ 4294967296
                          · rw [if_pos c26] at H
                            have c26b0 : decide (4294967296 ≤ x18_2) = true := decide_eq_true c26
                            clear c26
                            (first | rw [c26b0] | (simp only [i64_w, i32_w]; rw [c26b0]) | skip)
                            have H' := Aside0.mk H
                            clear H
                            go_wp2
                            repeat (go_quiet (fail); try go_wp2)
                            go_meet
                            case rel => exact ⟨_, (true), (by first | rfl | (simp; done) | (simp [*]; done)), H', ⟨by have := HJ18.out; have := HK2.out; first | omega | exact Nat.le_refl _⟩, by repeat (first | exact Drawn0.refl _ | apply Drawn0.step)⟩
                          · rw [if_neg c26] at H
                            have c26b0 : decide (4294967296 ≤ x18_2) = false := decide_eq_false c26
                            clear c26
                            (first | rw [c26b0] | (simp only [i64_w, i32_w]; rw [c26b0]) | skip)
                            have H' := Aside0.mk H
                            clear H
                            go_wp2
                            repeat (go_quiet (fail); try go_wp2)
                            go_meet
                            case rel => exact ⟨_, (decide ((IntKind.u64.wrap (x18_2 * (Go.bits .and .u64 (ji10) 4294967295))) > (IntKind.u64.wrap ((IntKind.u64.wrap (4294967296 * x16_2)) + (Go.bits .and .u64 (ji17) 4294967295))))), (by first | rfl | (simp; done) | (simp only [← hji10, ← hji17] <;> (first | rfl | simp)) | (simp [*]; done)), H', ⟨by have := HJ18.out; have := HK2.out; first | omega | exact Nat.le_refl _⟩, by repeat (first | exact Drawn0.refl _ | apply Drawn0.step)⟩
                        case rest =>
                          clear HC25
                          try clear c1
                          try clear c2
                          try clear p2
                          try clear c4
                          try clear c4b0
                          try clear c4b1
                          try clear c5
                          try clear c5b0
                          try clear c6
                          try clear c6b0
                          try clear c6b1
                          try clear c9
                          try clear c9b0
                          try clear c9b1
                          try clear c11
                          try clear c11b0
                          try clear c14
                          try clear c14b0
                          try clear c14b1
                          try clear c16
                          try clear c16b0
                          try clear c18
                          try clear c18b0
                          try clear c18b1
                          try clear c19
                          try clear c21
                          try clear c21b0
                          try clear c22
                          try clear c23
                          try clear c23b0
                          try clear c24
                          try clear c24b0
                          try clear c24b1
                          try clear c26
                          try clear c26b0
                          try clear p2
                          obtain ⟨kq, x113_24, rfl, HA, HJ24, ⟨mc24, rfl⟩⟩ := hcut
                          cases kq with
                          | zero => exact absurd HA.out (by simp [bits_Div64.j4])
                          | succ kj24 =>
                            have H := HA.out
                            clear HA
                            simp only [bits_Div64.j4] at H
                            by_cases c27 : x113_24 = true
                            · subst c27
                              have H1 : (if (IntKind.u64.wrap (x16_2 + ((ji10) / 4294967296))) ≥ 4294967296 then (if 0 ≤ ji8 then (some (IntKind.u64.wrap ((IntKind.u64.wrap (x15_18 * 4294967296)) + (IntKind.u64.wrap (x18_2 - 1))), shr .u64 (IntKind.u64.wrap ((IntKind.u64.wrap ((IntKind.u64.wrap ((IntKind.u64.wrap ((IntKind.u64.wrap ((IntKind.u64.wrap ((Go.bits .or .u64 (ji12) (ji15)) * 4294967296)) + ((ji17) / 4294967296))) - (IntKind.u64.wrap (x15_18 * ji10)))) * 4294967296)) + (Go.bits .and .u64 (ji17) 4294967295))) - (IntKind.u64.wrap ((IntKind.u64.wrap (x18_2 - 1)) * ji10)))) ji8)) else (none)) else (bits_Div64.l1 kj24 ji10 ji8 ((ji10) / 4294967296) (Go.bits .and .u64 (ji10) 4294967295) (Go.bits .and .u64 (ji17) 4294967295) x15_18 (IntKind.u64.wrap (x16_2 + ((ji10) / 4294967296))) (IntKind.u64.wrap ((IntKind.u64.wrap ((IntKind.u64.wrap ((Go.bits .or .u64 (ji12) (ji15)) * 4294967296)) + ((ji17) / 4294967296))) - (IntKind.u64.wrap (x15_18 * ji10)))) (IntKind.u64.wrap (x18_2 - 1)))) = some (r1, r2) := by rw [if_pos rfl] at H; exact H
                              clear H
                              have H := H1
                              clear H1
                              by_cases c28 : (IntKind.u64.wrap (x16_2 + ((ji10) / 4294967296))) ≥ 4294967296
                              · rw [if_pos c28] at H
                                have c28b0 : decide (4294967296 ≤ (IntKind.u64.wrap (x16_2 + ((ji10) / 4294967296)))) = true := decide_eq_true c28
                                clear c28
                                by_cases c29 : 0 ≤ ji8
                                · rw [if_pos c29] at H
                                  have c29b0 := eq_true c29
                                  have c29b1 : decide (0 ≤ ji8) = true := decide_eq_true c29
                                  clear c29
                                  obtain ⟨ji30, hji30⟩ : ∃ j_ : Int, (shr .u64 (IntKind.u64.wrap ((IntKind.u64.wrap ((IntKind.u64.wrap ((IntKind.u64.wrap ((IntKind.u64.wrap ((IntKind.u64.wrap ((Go.bits .or .u64 (ji12) (ji15)) * 4294967296)) + ((ji17) / 4294967296))) - (IntKind.u64.wrap (x15_18 * ji10)))) * 4294967296)) + (Go.bits .and .u64 (ji17) 4294967295))) - (IntKind.u64.wrap ((IntKind.u64.wrap (x18_2 - 1)) * ji10)))) ji8) = j_ := ⟨_, rfl⟩
                                  replace H : (some (IntKind.u64.wrap ((IntKind.u64.wrap (x15_18 * 4294967296)) + (IntKind.u64.wrap (x18_2 - 1))), ji30)) = some (r1, r2) := by first | (rw [hji30] at H; exact H) | (simp only [hji30] at H ⊢; exact H)
                                  have hji30_ : ((IntKind.u64.wrap ((IntKind.u64.wrap ((IntKind.u64.wrap ((IntKind.u64.wrap ((IntKind.u64.wrap ((IntKind.u64.wrap ((Go.bits .or .u64 (ji12) (ji15)) * 4294967296)) + ((ji17) / 4294967296))) - (IntKind.u64.wrap (x15_18 * ji10)))) * 4294967296)) + (Go.bits .and .u64 (ji17) 4294967295))) - (IntKind.u64.wrap ((IntKind.u64.wrap (x18_2 - 1)) * ji10)))) / 2 ^ min ji8.toNat 64) = ji30 := hji30
                                  have hji30z : ji8 ≤ 64 → ((IntKind.u64.wrap ((IntKind.u64.wrap ((IntKind.u64.wrap ((IntKind.u64.wrap ((IntKind.u64.wrap ((IntKind.u64.wrap ((Go.bits .or .u64 (ji12) (ji15)) * 4294967296)) + ((ji17) / 4294967296))) - (IntKind.u64.wrap (x15_18 * ji10)))) * 4294967296)) + (Go.bits .and .u64 (ji17) 4294967295))) - (IntKind.u64.wrap ((IntKind.u64.wrap (x18_2 - 1)) * ji10)))) / 2 ^ ji8.toNat) = ji30 := shr_small hji30
                                  simp only [Option.some.injEq, Prod.mk.injEq] at H
                                  obtain ⟨rfl, rfl⟩ := H
                                  go_wp2
                                  repeat (go_quiet (fail); try go_wp2)
                                  go_ret2
                                  exact ⟨by first | rfl | (simp; done) | (simp only [← hji8, ← hji10, ← hji12, ← hji13, ← hji15, ← hji17, ← hji30] <;> (first | rfl | simp)) | (simp [*]; done), by repeat (first | exact Drawn0.refl _ | apply Drawn0.step)⟩
                                · rw [if_neg c29] at H
                                  exact absurd H (by simp)
                              · rw [if_neg c28] at H
                                have c28b0 : decide (4294967296 ≤ (IntKind.u64.wrap (x16_2 + ((ji10) / 4294967296)))) = false := decide_eq_false c28
                                clear c28
                                have H' := Aside0.mk H
                                clear H
                                go_wp2
                                repeat (go_quiet (fail); try go_wp2)
                                go_roundg kj24
                                case measure => have := HJ18.out; have := HK2.out; have := HJ24.out; omega
                                case rel => exact ⟨(IntKind.u64.wrap (x16_2 + ((ji10) / 4294967296))), (IntKind.u64.wrap (x18_2 - 1)), (by first | rfl | (simp; done) | (simp only [← hji10] <;> (first | rfl | simp)) | (simp [*]; done)), (by first | rfl | (simp; done) | (simp [*]; done)), H', ⟨by have := HJ18.out; have := HK2.out; have := HJ24.out; omega⟩, by repeat (first | exact Drawn0.refl _ | apply Drawn0.step)⟩
                            · replace c27 := Bool.eq_false_iff.mpr c27
                              subst c27
                              have H1 : (if 0 ≤ ji8 then (some (IntKind.u64.wrap ((IntKind.u64.wrap (x15_18 * 4294967296)) + x18_2), shr .u64 (IntKind.u64.wrap ((IntKind.u64.wrap ((IntKind.u64.wrap ((IntKind.u64.wrap ((IntKind.u64.wrap ((IntKind.u64.wrap ((Go.bits .or .u64 (ji12) (ji15)) * 4294967296)) + ((ji17) / 4294967296))) - (IntKind.u64.wrap (x15_18 * ji10)))) * 4294967296)) + (Go.bits .and .u64 (ji17) 4294967295))) - (IntKind.u64.wrap (x18_2 * ji10)))) ji8)) else (none)) = some (r1, r2) := by rw [if_neg (show ¬ (false = true) by decide)] at H; exact H
                              clear H
                              have H := H1
                              clear H1
                              by_cases c31 : 0 ≤ ji8
                              · rw [if_pos c31] at H
                                have c31b0 := eq_true c31
                                have c31b1 : decide (0 ≤ ji8) = true := decide_eq_true c31
                                clear c31
                                obtain ⟨ji32, hji32⟩ : ∃ j_ : Int, (shr .u64 (IntKind.u64.wrap ((IntKind.u64.wrap ((IntKind.u64.wrap ((IntKind.u64.wrap ((IntKind.u64.wrap ((IntKind.u64.wrap ((Go.bits .or .u64 (ji12) (ji15)) * 4294967296)) + ((ji17) / 4294967296))) - (IntKind.u64.wrap (x15_18 * ji10)))) * 4294967296)) + (Go.bits .and .u64 (ji17) 4294967295))) - (IntKind.u64.wrap (x18_2 * ji10)))) ji8) = j_ := ⟨_, rfl⟩
                                replace H : (some (IntKind.u64.wrap ((IntKind.u64.wrap (x15_18 * 4294967296)) + x18_2), ji32)) = some (r1, r2) := by first | (rw [hji32] at H; exact H) | (simp only [hji32] at H ⊢; exact H)
                                have hji32_ : ((IntKind.u64.wrap ((IntKind.u64.wrap ((IntKind.u64.wrap ((IntKind.u64.wrap ((IntKind.u64.wrap ((IntKind.u64.wrap ((Go.bits .or .u64 (ji12) (ji15)) * 4294967296)) + ((ji17) / 4294967296))) - (IntKind.u64.wrap (x15_18 * ji10)))) * 4294967296)) + (Go.bits .and .u64 (ji17) 4294967295))) - (IntKind.u64.wrap (x18_2 * ji10)))) / 2 ^ min ji8.toNat 64) = ji32 := hji32
                                have hji32z : ji8 ≤ 64 → ((IntKind.u64.wrap ((IntKind.u64.wrap ((IntKind.u64.wrap ((IntKind.u64.wrap ((IntKind.u64.wrap ((IntKind.u64.wrap ((Go.bits .or .u64 (ji12) (ji15)) * 4294967296)) + ((ji17) / 4294967296))) - (IntKind.u64.wrap (x15_18 * ji10)))) * 4294967296)) + (Go.bits .and .u64 (ji17) 4294967295))) - (IntKind.u64.wrap (x18_2 * ji10)))) / 2 ^ ji8.toNat) = ji32 := shr_small hji32
                                simp only [Option.some.injEq, Prod.mk.injEq] at H
                                obtain ⟨rfl, rfl⟩ := H
                                go_wp2
                                repeat (go_quiet (fail); try go_wp2)
                                go_ret2
                                exact ⟨by first | rfl | (simp; done) | (simp only [← hji8, ← hji10, ← hji12, ← hji13, ← hji15, ← hji17, ← hji32] <;> (first | rfl | simp)) | (simp [*]; done), by repeat (first | exact Drawn0.refl _ | apply Drawn0.step)⟩
                              · rw [if_neg c31] at H
                                exact absurd H (by simp)
          · rw [if_neg c14] at H
            exact absurd H (by simp)
        · rw [if_neg c9] at H
          exact absurd H (by simp)

end Go.Proofs.YtfpkgdkcllobiaaDoor.F
end
section
namespace Go.Proofs.YtfpkgdkcllobiaaDoor.F
open Go.RowKit Go.Proofs.YtfpkgdkcllobiaaDoorW.PrintWords
def bits_Mul64.f (a0 a1 : Int) : Option (Int × Int) := if 0 ≤ a0 ∧ a0 < 18446744073709551616 ∧ 0 ≤ a1 ∧ a1 < 18446744073709551616 then some (a0 * a1 / 18446744073709551616, a0 * a1 % 18446744073709551616) else none
theorem bits_Mul64.calls (a0 a1 : Int) (r1 r2 : Int) (w : World) (h : bits_Mul64.f a0 a1 = some (r1, r2)) :
    Calls Tryd.prog 60 #[.int .u64 a0, .int .u64 a1] w fun e w' => e = .returned (.tuple #[.int .u64 r1, .int .u64 r2]) ∧ Drawn0 w w' := by
  unfold bits_Mul64.f at h
  split at h
  · rename_i hb
    obtain ⟨x, rfl⟩ := Int.eq_ofNat_of_zero_le hb.1
    obtain ⟨y, rfl⟩ := Int.eq_ofNat_of_zero_le hb.2.2.1
    obtain ⟨rfl, rfl⟩ := Prod.mk.inj (Option.some.inj h)
    refine (Tryd.bits_Mul64 x y (by omega) (by omega) w).mono ?_
    rintro e w' ⟨rfl, rfl⟩
    exact ⟨by simp, Drawn0.refl _⟩
  · cases h
end Go.Proofs.YtfpkgdkcllobiaaDoor.F
end
section
namespace Go.Proofs.YtfpkgdkcllobiaaDoor.F
open Go.RowKit Go.Proofs.YtfpkgdkcllobiaaDoorW.PrintWords Go.Proofs.YtfpkgdkcllobiaaDoorW.PrintLast Go.Proofs.YtfpkgdkcllobiaaDoorW.PrintMore
attribute [local go_sem] max2_int min2_int max_two min_two max_three min_three max_four min_four   -- for this text's walks alone
set_option linter.unusedVariables false
set_option linter.unusedSimpArgs false

/-! ### exact_order: function 62 -/
def exact_order.f (a0 : Int) (a1 : Int) : Option (Int) := if a0 < a1 then (some (-1)) else (if a0 > a1 then (some 1) else (some 0))
set_option maxHeartbeats 8000000 in
set_option maxRecDepth 100000 in
theorem exact_order.calls (a0 : Int) (a1 : Int) (r : Int) (w : World) (h : exact_order.f a0 a1 = some r) :
    Calls Tryd.prog 62 #[.int .u64 a0, .int .u64 a1] w fun e w' => e = .returned (.int .i64 r) ∧ Drawn0 w w' := by
  have H : (if a0 < a1 then (some (-1)) else (if a0 > a1 then (some 1) else (some 0))) = some r := h
  clear h
  by_cases c3 : a0 < a1
  · rw [if_pos c3] at H
    have c3b0 : decide (a0 < a1) = true := decide_eq_true c3
    clear c3
    obtain rfl := Option.some.inj H
    go_enter Tryd.func62, Tryd.ntmps62
    go_wp2
    go_ret
    exact ⟨by first | rfl | (simp; done) | (simp [*]; done), by repeat (first | exact Drawn0.refl _ | apply Drawn0.step)⟩
  · rw [if_neg c3] at H
    have c3b0 : decide (a0 < a1) = false := decide_eq_false c3
    clear c3
    by_cases c4 : a0 > a1
    · rw [if_pos c4] at H
      have c4b0 : decide (a1 < a0) = true := decide_eq_true c4
      clear c4
      obtain rfl := Option.some.inj H
      go_enter Tryd.func62, Tryd.ntmps62
      go_wp2
      go_ret
      exact ⟨by first | rfl | (simp; done) | (simp [*]; done), by repeat (first | exact Drawn0.refl _ | apply Drawn0.step)⟩
    · rw [if_neg c4] at H
      have c4b0 : decide (a1 < a0) = false := decide_eq_false c4
      clear c4
      obtain rfl := Option.some.inj H
      go_enter Tryd.func62, Tryd.ntmps62
      go_wp2
      go_ret
      exact ⟨by first | rfl | (simp; done) | (simp [*]; done), by repeat (first | exact Drawn0.refl _ | apply Drawn0.step)⟩

/-! ### exact_above: function 64 -/
def exact_above.f (a0 : Int) (a1 : Int) (a2 : Int) (a3 : Int) : Option (Bool) := (exact_order.f a1 (IntKind.u64.wrap (a2 - a1))).bind fun t585 => (if a3 = 1 then (some (decide (a1 > 0))) else (if a3 = 2 then (some (decide (t585 ≥ 0))) else (if a3 = 3 then (if t585 > 0 then (some true) else (if t585 = 0 then (some ((Int.tmod a0 2) == 1)) else (some false))) else (some false))))
set_option maxHeartbeats 8000000 in
set_option maxRecDepth 100000 in
theorem exact_above.calls (a0 : Int) (a1 : Int) (a2 : Int) (a3 : Int) (r : Bool) (w : World) (h : exact_above.f a0 a1 a2 a3 = some r) :
    Calls Tryd.prog 64 #[.int .u64 a0, .int .u64 a1, .int .u64 a2, .int .i64 a3] w fun e w' => e = .returned (.bool r) ∧ Drawn0 w w' := by
  have H : ((exact_order.f a1 (IntKind.u64.wrap (a2 - a1))).bind fun t585 => (if a3 = 1 then (some (decide (a1 > 0))) else (if a3 = 2 then (some (decide (t585 ≥ 0))) else (if a3 = 3 then (if t585 > 0 then (some true) else (if t585 = 0 then (some ((Int.tmod a0 2) == 1)) else (some false))) else (some false))))) = some r := h
  clear h
  replace H := Option.bind_eq_some_iff.mp H
  obtain ⟨t585, A50, H⟩ := H
  replace H : (if a3 = 1 then (some (decide (a1 > 0))) else (if a3 = 2 then (some (decide (t585 ≥ 0))) else (if a3 = 3 then (if t585 > 0 then (some true) else (if t585 = 0 then (some ((Int.tmod a0 2) == 1)) else (some false))) else (some false)))) = some r := H
  have A5 := Aside0.mk A50
  clear A50
  by_cases c6 : a3 = 1
  · rw [if_pos c6] at H
    have c6b0 : (a3 == 1) = true := beq_iff_eq.mpr c6
    have c6b1 : (a3 != 1) = false := bne_eq_false_iff_eq.mpr c6
    clear c6
    obtain rfl := Option.some.inj H
    go_enter Tryd.func64, Tryd.ntmps64
    go_wp2_with (first | ((with_reducible refine gate_callee (f := 62) rfl ?_); refine goesL_ (some 14) rfl rfl Tryd.func62 (by kernel_rfl) rfl #[.int .u64 a1, .int .u64 (IntKind.u64.wrap (a2 - a1))] rfl (by (try simp only [List.map_toArray, List.map_cons, List.map_nil]); first | done | rfl | (simp only [List.length_drop, List.length_take]; rfl)) ?_; (with_reducible refine (exact_order.calls a1 (IntKind.u64.wrap (a2 - a1)) t585 _ A5.out).mono ?_); rintro e w' ⟨rfl, ⟨nd, rfl⟩⟩; refine ⟨_, rfl, ?_⟩))
    go_ret
    exact ⟨by first | rfl | (simp; done) | (simp [*]; done), by repeat (first | exact Drawn0.refl _ | apply Drawn0.step)⟩
  · rw [if_neg c6] at H
    have c6b0 : (a3 == 1) = false := beq_eq_false_iff_ne.mpr c6
    have c6b1 : (a3 != 1) = true := bne_iff_ne.mpr c6
    by_cases c7 : a3 = 2
    · rw [if_pos c7] at H
      have c7b0 : (a3 == 2) = true := beq_iff_eq.mpr c7
      have c7b1 : (a3 != 2) = false := bne_eq_false_iff_eq.mpr c7
      clear c7
      obtain rfl := Option.some.inj H
      go_enter Tryd.func64, Tryd.ntmps64
      go_wp2_with (first | ((with_reducible refine gate_callee (f := 62) rfl ?_); refine goesL_ (some 14) rfl rfl Tryd.func62 (by kernel_rfl) rfl #[.int .u64 a1, .int .u64 (IntKind.u64.wrap (a2 - a1))] rfl (by (try simp only [List.map_toArray, List.map_cons, List.map_nil]); first | done | rfl | (simp only [List.length_drop, List.length_take]; rfl)) ?_; (with_reducible refine (exact_order.calls a1 (IntKind.u64.wrap (a2 - a1)) t585 _ A5.out).mono ?_); rintro e w' ⟨rfl, ⟨nd, rfl⟩⟩; refine ⟨_, rfl, ?_⟩))
      go_ret
      exact ⟨by first | rfl | (simp; done) | (simp [*]; done), by repeat (first | exact Drawn0.refl _ | apply Drawn0.step)⟩
    · rw [if_neg c7] at H
      have c7b0 : (a3 == 2) = false := beq_eq_false_iff_ne.mpr c7
      have c7b1 : (a3 != 2) = true := bne_iff_ne.mpr c7
      by_cases c8 : a3 = 3
      · rw [if_pos c8] at H
        have c8b0 : (a3 == 3) = true := beq_iff_eq.mpr c8
        have c8b1 : (a3 != 3) = false := bne_eq_false_iff_eq.mpr c8
        clear c8
        by_cases c9 : t585 > 0
        · rw [if_pos c9] at H
          have c9b0 : decide (0 < t585) = true := decide_eq_true c9
          clear c9
          obtain rfl := Option.some.inj H
          go_enter Tryd.func64, Tryd.ntmps64
          go_wp2_with (first | ((with_reducible refine gate_callee (f := 62) rfl ?_); refine goesL_ (some 14) rfl rfl Tryd.func62 (by kernel_rfl) rfl #[.int .u64 a1, .int .u64 (IntKind.u64.wrap (a2 - a1))] rfl (by (try simp only [List.map_toArray, List.map_cons, List.map_nil]); first | done | rfl | (simp only [List.length_drop, List.length_take]; rfl)) ?_; (with_reducible refine (exact_order.calls a1 (IntKind.u64.wrap (a2 - a1)) t585 _ A5.out).mono ?_); rintro e w' ⟨rfl, ⟨nd, rfl⟩⟩; refine ⟨_, rfl, ?_⟩))
          go_ret
          exact ⟨by first | rfl | (simp; done) | (simp [*]; done), by repeat (first | exact Drawn0.refl _ | apply Drawn0.step)⟩
        · rw [if_neg c9] at H
          have c9b0 : decide (0 < t585) = false := decide_eq_false c9
          clear c9
          by_cases c10 : t585 = 0
          · rw [if_pos c10] at H
            have c10b0 : (t585 == 0) = true := beq_iff_eq.mpr c10
            have c10b1 : (t585 != 0) = false := bne_eq_false_iff_eq.mpr c10
            clear c10
            obtain rfl := Option.some.inj H
            go_enter Tryd.func64, Tryd.ntmps64
            go_wp2_with (first | ((with_reducible refine gate_callee (f := 62) rfl ?_); refine goesL_ (some 14) rfl rfl Tryd.func62 (by kernel_rfl) rfl #[.int .u64 a1, .int .u64 (IntKind.u64.wrap (a2 - a1))] rfl (by (try simp only [List.map_toArray, List.map_cons, List.map_nil]); first | done | rfl | (simp only [List.length_drop, List.length_take]; rfl)) ?_; (with_reducible refine (exact_order.calls a1 (IntKind.u64.wrap (a2 - a1)) t585 _ A5.out).mono ?_); rintro e w' ⟨rfl, ⟨nd, rfl⟩⟩; refine ⟨_, rfl, ?_⟩))
            go_ret
            exact ⟨by first | rfl | (simp; done) | (simp [*]; done), by repeat (first | exact Drawn0.refl _ | apply Drawn0.step)⟩
          · rw [if_neg c10] at H
            have c10b0 : (t585 == 0) = false := beq_eq_false_iff_ne.mpr c10
            have c10b1 : (t585 != 0) = true := bne_iff_ne.mpr c10
            obtain rfl := Option.some.inj H
            go_enter Tryd.func64, Tryd.ntmps64
            go_wp2_with (first | ((with_reducible refine gate_callee (f := 62) rfl ?_); refine goesL_ (some 14) rfl rfl Tryd.func62 (by kernel_rfl) rfl #[.int .u64 a1, .int .u64 (IntKind.u64.wrap (a2 - a1))] rfl (by (try simp only [List.map_toArray, List.map_cons, List.map_nil]); first | done | rfl | (simp only [List.length_drop, List.length_take]; rfl)) ?_; (with_reducible refine (exact_order.calls a1 (IntKind.u64.wrap (a2 - a1)) t585 _ A5.out).mono ?_); rintro e w' ⟨rfl, ⟨nd, rfl⟩⟩; refine ⟨_, rfl, ?_⟩))
            go_ret
            exact ⟨by first | rfl | (simp; done) | (simp [*]; done), by repeat (first | exact Drawn0.refl _ | apply Drawn0.step)⟩
      · rw [if_neg c8] at H
        have c8b0 : (a3 == 3) = false := beq_eq_false_iff_ne.mpr c8
        have c8b1 : (a3 != 3) = true := bne_iff_ne.mpr c8
        obtain rfl := Option.some.inj H
        go_enter Tryd.func64, Tryd.ntmps64
        go_wp2_with (first | ((with_reducible refine gate_callee (f := 62) rfl ?_); refine goesL_ (some 14) rfl rfl Tryd.func62 (by kernel_rfl) rfl #[.int .u64 a1, .int .u64 (IntKind.u64.wrap (a2 - a1))] rfl (by (try simp only [List.map_toArray, List.map_cons, List.map_nil]); first | done | rfl | (simp only [List.length_drop, List.length_take]; rfl)) ?_; (with_reducible refine (exact_order.calls a1 (IntKind.u64.wrap (a2 - a1)) t585 _ A5.out).mono ?_); rintro e w' ⟨rfl, ⟨nd, rfl⟩⟩; refine ⟨_, rfl, ?_⟩))
        go_ret
        exact ⟨by first | rfl | (simp; done) | (simp [*]; done), by repeat (first | exact Drawn0.refl _ | apply Drawn0.step)⟩

/-! ### exact_Div: function 44 -/
def exact_Div.j0 : Nat → Int → Int → Bool → Int → Int → Option (Int × Int)
  | 0, _, _, _, _, _ => none
  | k + 1, x1, x2, x19, x587000, x587001 => if x19 = true then (some (0, 2)) else (if x587000 ≥ x1 then (some (0, 3)) else ((bits_Div64.f k x587000 x587001 x1).bind fun bt587 => ((exact_above.f bt587.1 bt587.2 x1 x2).bind fun t589 => (if t589 = true then (if (IntKind.u64.wrap (bt587.1 + 1)) = 0 then (some (0, 3)) else (some (IntKind.u64.wrap (bt587.1 + 1), 0))) else (some (bt587.1, 0))))))
def exact_Div.f (k : Nat) (a0_0 : Int) (a0_1 : Int) (a1 : Int) (a2 : Int) : Option (Int × Int) := if a1 = 0 then (exact_Div.j0 k a1 a2 true a0_0 a0_1) else (if a2 < 0 then (exact_Div.j0 k a1 a2 true a0_0 a0_1) else (exact_Div.j0 k a1 a2 (decide (a2 > 3)) a0_0 a0_1))
theorem exact_Div.mono_l : ∀ k, (∀ y0 y1 y2 y3 y4, LeO (exact_Div.j0 k y0 y1 y2 y3 y4) (exact_Div.j0 (k + 1) y0 y1 y2 y3 y4))
  | 0 => fun _ _ _ _ _ r h => by simp [exact_Div.j0] at h
  | k + 1 => by
    have ih0 := exact_Div.mono_l k
    · intro y0 y1 y2 y3 y4
      unfold exact_Div.j0
      repeat' first
      | (with_reducible exact ih0 _ _ _ _ _)
      | (with_reducible exact bits_Div64.mono _ _ _ _)
      | (with_reducible exact LeO.refl _)
      | (with_reducible exact LeO.none _)
      | (with_reducible refine LeO.ite ?_ ?_)
      | (with_reducible refine LeO.bind ?_ (fun _ => ?_))
      | exact ih0 _ _ _ _ _
      | exact bits_Div64.mono _ _ _ _
      | exact LeO.none _
      | refine LeO.ite ?_ ?_
      | refine LeO.bind ?_ (fun _ => ?_)
theorem exact_Div.mono : ∀ a0 a1 a2 a3 k, LeO (exact_Div.f k a0 a1 a2 a3) (exact_Div.f (k + 1) a0 a1 a2 a3) := by
  intro a0 a1 a2 a3 k
  have ih0 := exact_Div.mono_l k
  unfold exact_Div.f
  repeat' first
      | (with_reducible exact ih0 _ _ _ _ _)
      | (with_reducible exact bits_Div64.mono _ _ _ _)
      | (with_reducible exact LeO.refl _)
      | (with_reducible exact LeO.none _)
      | (with_reducible refine LeO.ite ?_ ?_)
      | (with_reducible refine LeO.bind ?_ (fun _ => ?_))
      | exact ih0 _ _ _ _ _
      | exact bits_Div64.mono _ _ _ _
      | exact LeO.none _
      | refine LeO.ite ?_ ?_
      | refine LeO.bind ?_ (fun _ => ?_)
set_option maxHeartbeats 8000000 in
set_option maxRecDepth 100000 in
theorem exact_Div.calls (k : Nat) (a0_0 : Int) (a0_1 : Int) (a1 : Int) (a2 : Int) (r1 : Int) (r2 : Int) (w : World) (h : exact_Div.f k a0_0 a0_1 a1 a2 = some (r1, r2)) :
    Calls Tryd.prog 44 #[.agg #[.int .u64 a0_0, .int .u64 a0_1], .int .u64 a1, .int .i64 a2] w fun e w' => e = .returned (.tuple #[.int .u64 r1, .int .i64 r2]) ∧ Below w.heap.size w w' := by
  have hu63 := Tryd.underlying63
  have HB := Aside0.mk (Below.refl w.heap.size w)
  have H : (if a1 = 0 then (exact_Div.j0 k a1 a2 true a0_0 a0_1) else (if a2 < 0 then (exact_Div.j0 k a1 a2 true a0_0 a0_1) else (exact_Div.j0 k a1 a2 (decide (a2 > 3)) a0_0 a0_1))) = some (r1, r2) := h
  clear h
  have HC4 := Aside0.mk H
  clear H
  go_enter Tryd.func44, Tryd.ntmps44
  go_upto_region 1 with (first | ((with_reducible refine gate_dst (N := 3) rfl ?_); refine box_event ?hg (N := 3) ?hd (cs := #[.int .u64 a0_0, .int .u64 a0_1]) (t := 63) ?hr ?_; (case hd => rfl); (case hg => rfl); (case hr => first | (go_simp; done) | (go_simp; rfl)); intro gb586 hg w5 hbox hb; have n0_ := Aside0.mk (below_step (by repeat (first | (with_reducible first | exact HB.out | apply below_alloc | apply pw_below_drewN | apply below_drew1) | exact HB.out)) hb); have n1_ := Aside0.mk (hbox); have n2_ := Aside0.mk ((by rw [hg]; exact (below_size (by repeat (first | (with_reducible first | exact HB.out | apply below_alloc | apply pw_below_drewN | apply below_drew1) | exact HB.out))) : w.heap.size ≤ gb586)); have n3_ := Aside0.mk ((by rw [hg]; exact (below_size (by repeat (first | (with_reducible first | exact HB.out | apply below_alloc | apply pw_below_drewN | apply below_drew1) | exact HB.out))) : w.heap.size ≤ gb586)); clear HB; have HB := n0_; have BK586 := n1_; have GW586 := n2_; have GE586 := n3_; clear n0_ n1_ n2_ n3_; clear hb hbox hg))
  (try simp only [Act.put, List.setIfInBounds_toArray, List.set_cons_zero, List.set_cons_succ])
  go_cut [19] (fun v19 wc => ∃ (kq : Nat) (x19_3 : Bool), v19 = .bool x19_3 ∧ Aside0 (exact_Div.j0 kq a1 a2 x19_3 a0_0 a0_1 = some (r1, r2)) ∧ Aside0 (kq ≤ k) ∧ Aside0 (wc.heap[gb586]? = some (.cells #[.int .u64 a0_0, .int .u64 a0_1] 63 (0, 0))) ∧ Aside0 (Below w.heap.size w wc))
  case first =>
    have H := HC4.out
    clear HC4
    by_cases c6 : a1 = 0
    · rw [if_pos c6] at H
      have c6b0 : (a1 == 0) = true := beq_iff_eq.mpr c6
      have c6b1 : (a1 != 0) = false := bne_eq_false_iff_eq.mpr c6
      clear c6
      (first | rw [c6b0] | (simp only [i64_w, i32_w]; rw [c6b0]) | skip)
      have H' := Aside0.mk H
      clear H
      go_wp2
      go_meet
      case rel => exact ⟨_, (true), (by first | rfl | (simp; done) | (simp [*]; done)), H', ⟨by first | omega | exact Nat.le_refl _⟩, ⟨by (with_reducible repeat (first | refine blk_drewN ?_ _ | refine blk_drew ?_ | refine blk_alloc ?_ _)); exact BK586.out⟩, ⟨by repeat (first | (with_reducible first | exact HB.out | apply below_alloc | apply pw_below_drewN | apply below_drew1 | refine below_set ?_ GE586.out) | exact HB.out)⟩⟩
    · rw [if_neg c6] at H
      have c6b0 : (a1 == 0) = false := beq_eq_false_iff_ne.mpr c6
      have c6b1 : (a1 != 0) = true := bne_iff_ne.mpr c6
      (first | rw [c6b0] | (simp only [i64_w, i32_w]; rw [c6b0]) | skip)
      by_cases c7 : a2 < 0
      · rw [if_pos c7] at H
        have c7b0 : decide (a2 < 0) = true := decide_eq_true c7
        clear c7
        have H' := Aside0.mk H
        clear H
        go_wp2
        go_meet
        case rel => exact ⟨_, (true), (by first | rfl | (simp; done) | (simp [*]; done)), H', ⟨by first | omega | exact Nat.le_refl _⟩, ⟨by (with_reducible repeat (first | refine blk_drewN ?_ _ | refine blk_drew ?_ | refine blk_alloc ?_ _)); exact BK586.out⟩, ⟨by repeat (first | (with_reducible first | exact HB.out | apply below_alloc | apply pw_below_drewN | apply below_drew1 | refine below_set ?_ GE586.out) | exact HB.out)⟩⟩
      · rw [if_neg c7] at H
        have c7b0 : decide (a2 < 0) = false := decide_eq_false c7
        clear c7
        have H' := Aside0.mk H
        clear H
        go_wp2
        go_meet
        case rel => exact ⟨_, (decide (a2 > 3)), (by first | rfl | (simp; done) | (simp [*]; done)), H', ⟨by first | omega | exact Nat.le_refl _⟩, ⟨by (with_reducible repeat (first | refine blk_drewN ?_ _ | refine blk_drew ?_ | refine blk_alloc ?_ _)); exact BK586.out⟩, ⟨by repeat (first | (with_reducible first | exact HB.out | apply below_alloc | apply pw_below_drewN | apply below_drew1 | refine below_set ?_ GE586.out) | exact HB.out)⟩⟩
  case rest =>
    clear HC4
    try clear p2
    try clear c4
    try clear c6
    try clear c6b0
    try clear c6b1
    try clear c7
    try clear c7b0
    obtain ⟨kq, x19_3, rfl, HA, HJ3, BK586, HB⟩ := hcut
    cases kq with
    | zero => exact absurd HA.out (by simp [exact_Div.j0])
    | succ kj3 =>
      have H := HA.out
      clear HA
      simp only [exact_Div.j0] at H
      by_cases c8 : x19_3 = true
      · subst c8
        have H1 : (some (0, 2)) = some (r1, r2) := by rw [if_pos rfl] at H; exact H
        clear H
        have H := H1
        clear H1
        simp only [Option.some.injEq, Prod.mk.injEq] at H
        obtain ⟨rfl, rfl⟩ := H
        go_wp2
        go_ret2
        exact ⟨by first | rfl | (simp [errW_none, errW_some] <;> rfl) | (simp [*, errW_none, errW_some] <;> rfl), by repeat (first | (with_reducible first | exact HB.out | apply below_alloc | apply pw_below_drewN | apply below_drew1 | refine below_set ?_ GE586.out) | exact HB.out)⟩
      · replace c8 := Bool.eq_false_iff.mpr c8
        subst c8
        have H1 : (if a0_0 ≥ a1 then (some (0, 3)) else ((bits_Div64.f kj3 a0_0 a0_1 a1).bind fun bt587 => ((exact_above.f bt587.1 bt587.2 a1 a2).bind fun t589 => (if t589 = true then (if (IntKind.u64.wrap (bt587.1 + 1)) = 0 then (some (0, 3)) else (some (IntKind.u64.wrap (bt587.1 + 1), 0))) else (some (bt587.1, 0)))))) = some (r1, r2) := by rw [if_neg (show ¬ (false = true) by decide)] at H; exact H
        clear H
        have H := H1
        clear H1
        by_cases c9 : a0_0 ≥ a1
        · rw [if_pos c9] at H
          have c9b0 : decide (a1 ≤ a0_0) = true := decide_eq_true c9
          clear c9
          simp only [Option.some.injEq, Prod.mk.injEq] at H
          obtain ⟨rfl, rfl⟩ := H
          have hcz10_0 : wc.cell? ⟨gb586, 0, none⟩ = some (.int .u64 a0_0) := (blk_cell BK586.out 0).trans rfl
          have hcz10_1 : wc.cell? ⟨gb586, 1, none⟩ = some (.int .u64 a0_1) := (blk_cell BK586.out 1).trans rfl
          have hfz10_0 := blk_frozen BK586.out 0
          have hfz10_1 := blk_frozen BK586.out 1
          go_wp2
          go_ret2
          exact ⟨by first | rfl | (simp [errW_none, errW_some] <;> rfl) | (simp [*, errW_none, errW_some] <;> rfl), by repeat (first | (with_reducible first | exact HB.out | apply below_alloc | apply pw_below_drewN | apply below_drew1 | refine below_set ?_ GE586.out) | exact HB.out)⟩
        · rw [if_neg c9] at H
          have c9b0 : decide (a1 ≤ a0_0) = false := decide_eq_false c9
          clear c9
          replace H := Option.bind_eq_some_iff.mp H
          obtain ⟨⟨t587, t588⟩, A110, H⟩ := H
          replace H : ((exact_above.f t587 t588 a1 a2).bind fun t589 => (if t589 = true then (if (IntKind.u64.wrap (t587 + 1)) = 0 then (some (0, 3)) else (some (IntKind.u64.wrap (t587 + 1), 0))) else (some (t587, 0)))) = some (r1, r2) := H
          have A11 := Aside0.mk A110
          clear A110
          replace H := Option.bind_eq_some_iff.mp H
          obtain ⟨t589, A120, H⟩ := H
          replace H : (if t589 = true then (if (IntKind.u64.wrap (t587 + 1)) = 0 then (some (0, 3)) else (some (IntKind.u64.wrap (t587 + 1), 0))) else (some (t587, 0))) = some (r1, r2) := H
          have A12 := Aside0.mk A120
          clear A120
          by_cases c13 : t589 = true
          · subst c13
            have H1 : (if (IntKind.u64.wrap (t587 + 1)) = 0 then (some (0, 3)) else (some (IntKind.u64.wrap (t587 + 1), 0))) = some (r1, r2) := by rw [if_pos rfl] at H; exact H
            clear H
            have H := H1
            clear H1
            by_cases c14 : (IntKind.u64.wrap (t587 + 1)) = 0
            · rw [if_pos c14] at H
              have c14b0 : ((IntKind.u64.wrap (t587 + 1)) == 0) = true := beq_iff_eq.mpr c14
              have c14b1 : ((IntKind.u64.wrap (t587 + 1)) != 0) = false := bne_eq_false_iff_eq.mpr c14
              clear c14
              simp only [Option.some.injEq, Prod.mk.injEq] at H
              obtain ⟨rfl, rfl⟩ := H
              have hcz15_0 : wc.cell? ⟨gb586, 0, none⟩ = some (.int .u64 a0_0) := (blk_cell BK586.out 0).trans rfl
              have hcz15_1 : wc.cell? ⟨gb586, 1, none⟩ = some (.int .u64 a0_1) := (blk_cell BK586.out 1).trans rfl
              have hfz15_0 := blk_frozen BK586.out 0
              have hfz15_1 := blk_frozen BK586.out 1
              go_wp2_with (first | ((with_reducible refine gate_callee (f := 63) rfl ?_); refine goesL_ (some 30) rfl rfl Tryd.func63 (by kernel_rfl) rfl #[.int .u64 a0_0, .int .u64 a0_1, .int .u64 a1] rfl (by (try simp only [List.map_toArray, List.map_cons, List.map_nil]); first | done | rfl | (simp only [List.length_drop, List.length_take]; rfl)) ?_; (with_reducible refine (bits_Div64.calls kj3 a0_0 a0_1 a1 t587 t588 _ A11.out).mono ?_); rintro e w' ⟨rfl, ⟨nd, rfl⟩⟩; refine ⟨_, rfl, ?_⟩) | ((with_reducible refine gate_callee (f := 64) rfl ?_); refine goesL_ (some 37) rfl rfl Tryd.func64 (by kernel_rfl) rfl #[.int .u64 t587, .int .u64 t588, .int .u64 a1, .int .i64 a2] rfl (by (try simp only [List.map_toArray, List.map_cons, List.map_nil]); first | done | rfl | (simp only [List.length_drop, List.length_take]; rfl)) ?_; (with_reducible refine (exact_above.calls t587 t588 a1 a2 true _ A12.out).mono ?_); rintro e w' ⟨rfl, ⟨nd, rfl⟩⟩; refine ⟨_, rfl, ?_⟩))
              go_ret2
              exact ⟨by first | rfl | (simp [errW_none, errW_some] <;> rfl) | (simp [*, errW_none, errW_some] <;> rfl), by repeat (first | (with_reducible first | exact HB.out | apply below_alloc | apply pw_below_drewN | apply below_drew1 | refine below_set ?_ GE586.out) | exact HB.out)⟩
            · rw [if_neg c14] at H
              have c14b0 : ((IntKind.u64.wrap (t587 + 1)) == 0) = false := beq_eq_false_iff_ne.mpr c14
              have c14b1 : ((IntKind.u64.wrap (t587 + 1)) != 0) = true := bne_iff_ne.mpr c14
              simp only [Option.some.injEq, Prod.mk.injEq] at H
              obtain ⟨rfl, rfl⟩ := H
              have hcz16_0 : wc.cell? ⟨gb586, 0, none⟩ = some (.int .u64 a0_0) := (blk_cell BK586.out 0).trans rfl
              have hcz16_1 : wc.cell? ⟨gb586, 1, none⟩ = some (.int .u64 a0_1) := (blk_cell BK586.out 1).trans rfl
              have hfz16_0 := blk_frozen BK586.out 0
              have hfz16_1 := blk_frozen BK586.out 1
              go_wp2_with (first | ((with_reducible refine gate_callee (f := 63) rfl ?_); refine goesL_ (some 30) rfl rfl Tryd.func63 (by kernel_rfl) rfl #[.int .u64 a0_0, .int .u64 a0_1, .int .u64 a1] rfl (by (try simp only [List.map_toArray, List.map_cons, List.map_nil]); first | done | rfl | (simp only [List.length_drop, List.length_take]; rfl)) ?_; (with_reducible refine (bits_Div64.calls kj3 a0_0 a0_1 a1 t587 t588 _ A11.out).mono ?_); rintro e w' ⟨rfl, ⟨nd, rfl⟩⟩; refine ⟨_, rfl, ?_⟩) | ((with_reducible refine gate_callee (f := 64) rfl ?_); refine goesL_ (some 37) rfl rfl Tryd.func64 (by kernel_rfl) rfl #[.int .u64 t587, .int .u64 t588, .int .u64 a1, .int .i64 a2] rfl (by (try simp only [List.map_toArray, List.map_cons, List.map_nil]); first | done | rfl | (simp only [List.length_drop, List.length_take]; rfl)) ?_; (with_reducible refine (exact_above.calls t587 t588 a1 a2 true _ A12.out).mono ?_); rintro e w' ⟨rfl, ⟨nd, rfl⟩⟩; refine ⟨_, rfl, ?_⟩))
              go_ret2
              exact ⟨by first | rfl | (simp [errW_none, errW_some] <;> rfl) | (simp [*, errW_none, errW_some] <;> rfl), by repeat (first | (with_reducible first | exact HB.out | apply below_alloc | apply pw_below_drewN | apply below_drew1 | refine below_set ?_ GE586.out) | exact HB.out)⟩
          · replace c13 := Bool.eq_false_iff.mpr c13
            subst c13
            have H1 : (some (t587, 0)) = some (r1, r2) := by rw [if_neg (show ¬ (false = true) by decide)] at H; exact H
            clear H
            have H := H1
            clear H1
            simp only [Option.some.injEq, Prod.mk.injEq] at H
            obtain ⟨rfl, rfl⟩ := H
            have hcz17_0 : wc.cell? ⟨gb586, 0, none⟩ = some (.int .u64 a0_0) := (blk_cell BK586.out 0).trans rfl
            have hcz17_1 : wc.cell? ⟨gb586, 1, none⟩ = some (.int .u64 a0_1) := (blk_cell BK586.out 1).trans rfl
            have hfz17_0 := blk_frozen BK586.out 0
            have hfz17_1 := blk_frozen BK586.out 1
            go_wp2_with (first | ((with_reducible refine gate_callee (f := 63) rfl ?_); refine goesL_ (some 30) rfl rfl Tryd.func63 (by kernel_rfl) rfl #[.int .u64 a0_0, .int .u64 a0_1, .int .u64 a1] rfl (by (try simp only [List.map_toArray, List.map_cons, List.map_nil]); first | done | rfl | (simp only [List.length_drop, List.length_take]; rfl)) ?_; (with_reducible refine (bits_Div64.calls kj3 a0_0 a0_1 a1 t587 t588 _ A11.out).mono ?_); rintro e w' ⟨rfl, ⟨nd, rfl⟩⟩; refine ⟨_, rfl, ?_⟩) | ((with_reducible refine gate_callee (f := 64) rfl ?_); refine goesL_ (some 37) rfl rfl Tryd.func64 (by kernel_rfl) rfl #[.int .u64 t587, .int .u64 t588, .int .u64 a1, .int .i64 a2] rfl (by (try simp only [List.map_toArray, List.map_cons, List.map_nil]); first | done | rfl | (simp only [List.length_drop, List.length_take]; rfl)) ?_; (with_reducible refine (exact_above.calls t587 t588 a1 a2 false _ A12.out).mono ?_); rintro e w' ⟨rfl, ⟨nd, rfl⟩⟩; refine ⟨_, rfl, ?_⟩))
            go_ret2
            exact ⟨by first | rfl | (simp [errW_none, errW_some] <;> rfl) | (simp [*, errW_none, errW_some] <;> rfl), by repeat (first | (with_reducible first | exact HB.out | apply below_alloc | apply pw_below_drewN | apply below_drew1 | refine below_set ?_ GE586.out) | exact HB.out)⟩

-- EXTERNAL: function 42 (exact_Add)

-- EXTERNAL: function 60 (bits_Mul64)

/-! ### exact_Mul: function 41 -/
def exact_Mul.f (a0 : Int) (a1 : Int) : Option (Int × Int) := (bits_Mul64.f a0 a1).bind fun bt591 => (some (bt591.1, bt591.2))
set_option maxHeartbeats 8000000 in
set_option maxRecDepth 100000 in
theorem exact_Mul.calls (a0 : Int) (a1 : Int) (r1 : Int) (r2 : Int) (w : World) (h : exact_Mul.f a0 a1 = some (r1, r2)) :
    Calls Tryd.prog 41 #[.int .u64 a0, .int .u64 a1] w fun e w' => e = .returned (.agg #[.int .u64 r1, .int .u64 r2]) ∧ Below w.heap.size w w' := by
  have hu63 := Tryd.underlying63
  have HB := Aside0.mk (Below.refl w.heap.size w)
  have H : ((bits_Mul64.f a0 a1).bind fun bt591 => (some (bt591.1, bt591.2))) = some (r1, r2) := h
  clear h
  replace H := Option.bind_eq_some_iff.mp H
  obtain ⟨⟨t591, t592⟩, A30, H⟩ := H
  replace H : (some (t591, t592)) = some (r1, r2) := H
  have A3 := Aside0.mk A30
  clear A30
  simp only [Option.some.injEq, Prod.mk.injEq] at H
  obtain ⟨rfl, rfl⟩ := H
  go_enter Tryd.func41, Tryd.ntmps41
  go_wp2_with (first | ((with_reducible refine gate_dst (N := 4) rfl ?_); refine box_event ?hg (N := 4) ?hd (cs := #[.int .u64 0, .int .u64 0]) (t := 63) ?hr ?_; (case hd => rfl); (case hg => rfl); (case hr => first | (go_simp; done) | (go_simp; rfl)); intro gb590 hg w4 hbox hb; have n0_ := Aside0.mk (below_step (by repeat (first | (with_reducible first | exact HB.out | apply below_alloc | apply pw_below_drewN | apply below_drew1) | exact HB.out)) hb); have n1_ := Aside0.mk (hbox); have n2_ := Aside0.mk ((by rw [hg]; exact (below_size (by repeat (first | (with_reducible first | exact HB.out | apply below_alloc | apply pw_below_drewN | apply below_drew1) | exact HB.out))) : w.heap.size ≤ gb590)); have n3_ := Aside0.mk ((by rw [hg]; exact (below_size (by repeat (first | (with_reducible first | exact HB.out | apply below_alloc | apply pw_below_drewN | apply below_drew1) | exact HB.out))) : w.heap.size ≤ gb590)); clear HB; have HB := n0_; have BK590 := n1_; have GW590 := n2_; have GE590 := n3_; clear n0_ n1_ n2_ n3_; clear hb hbox hg) | ((with_reducible refine gate_callee (f := 60) rfl ?_); refine goesL_ (some 10) rfl rfl Tryd.func60 (by kernel_rfl) rfl #[.int .u64 a0, .int .u64 a1] rfl (by (try simp only [List.map_toArray, List.map_cons, List.map_nil]); first | done | rfl | (simp only [List.length_drop, List.length_take]; rfl)) ?_; (with_reducible refine (bits_Mul64.calls a0 a1 t591 t592 _ A3.out).mono ?_); rintro e w' ⟨rfl, ⟨nd, rfl⟩⟩; refine ⟨_, rfl, ?_⟩; (try (rw [drewN_self w4]; generalize hq_ : World.drewN w4 _ = w4; have n0_ : Aside0 (w4.heap[gb590]? = some (.cells #[.int .u64 0, .int .u64 0] 63 (0, 0))) := ⟨by rw [← hq_]; exact (by (with_reducible repeat (first | refine blk_drewN ?_ _ | refine blk_drew ?_ | refine blk_alloc ?_ _)); exact BK590.out)⟩; have n1_ : Aside0 (Below w.heap.size w w4) := ⟨by rw [← hq_]; exact (by repeat (first | (with_reducible first | exact HB.out | apply below_alloc | apply pw_below_drewN | apply below_drew1 | refine below_set ?_ GE590.out) | exact HB.out))⟩; clear BK590 HB hq_; have BK590 := n0_; have HB := n1_; clear n0_ n1_)); have hcz5_0 : w4.cell? ⟨gb590, 0, none⟩ = some (.int .u64 0) := (blk_cell BK590.out 0).trans rfl; have hcz5_1 : w4.cell? ⟨gb590, 1, none⟩ = some (.int .u64 0) := (blk_cell BK590.out 1).trans rfl; have hfz5_0 := blk_frozen BK590.out 0; have hfz5_1 := blk_frozen BK590.out 1))
  refine bodyPost_ret (results_cell_row rfl _ _ gb590 63 #[.int .u64 t591, .int .u64 t592] (0, 0) _ rfl (by (with_reducible repeat (first | refine blk_drewN ?_ _ | refine blk_drew ?_ | refine blk_alloc ?_ _)); refine blk_put (cs := #[.int .u64 t591, .int .u64 0]) ?_ 1 _ rfl; (with_reducible repeat (first | refine blk_drewN ?_ _ | refine blk_drew ?_ | refine blk_alloc ?_ _)); refine blk_put (cs := #[.int .u64 0, .int .u64 0]) ?_ 0 _ rfl; (with_reducible repeat (first | refine blk_drewN ?_ _ | refine blk_drew ?_ | refine blk_alloc ?_ _)); exact BK590.out) Tryd.underlying63 rfl (by kernel_rfl)) rfl ?_
  exact ⟨by first | rfl | (simp [errW_none, errW_some] <;> rfl) | (simp [*, errW_none, errW_some] <;> rfl), by repeat (first | (with_reducible first | exact HB.out | apply below_alloc | apply pw_below_drewN | apply below_drew1 | refine below_set ?_ GE590.out) | exact HB.out)⟩

/-! ### exact_CompareWide: function 43 -/
def exact_CompareWide.f (a0_0 : Int) (a0_1 : Int) (a1_0 : Int) (a1_1 : Int) : Option (Int) := (exact_order.f a0_0 a1_0).bind fun t595 => (if t595 = 0 then ((exact_order.f a0_1 a1_1).bind fun t596 => (some t596)) else (some t595))
set_option maxHeartbeats 8000000 in
set_option maxRecDepth 100000 in
theorem exact_CompareWide.calls (a0_0 : Int) (a0_1 : Int) (a1_0 : Int) (a1_1 : Int) (r : Int) (w : World) (h : exact_CompareWide.f a0_0 a0_1 a1_0 a1_1 = some r) :
    Calls Tryd.prog 43 #[.agg #[.int .u64 a0_0, .int .u64 a0_1], .agg #[.int .u64 a1_0, .int .u64 a1_1]] w fun e w' => e = .returned (.int .i64 r) ∧ Below w.heap.size w w' := by
  have hu63 := Tryd.underlying63
  have HB := Aside0.mk (Below.refl w.heap.size w)
  have H : ((exact_order.f a0_0 a1_0).bind fun t595 => (if t595 = 0 then ((exact_order.f a0_1 a1_1).bind fun t596 => (some t596)) else (some t595))) = some r := h
  clear h
  replace H := Option.bind_eq_some_iff.mp H
  obtain ⟨t595, A30, H⟩ := H
  replace H : (if t595 = 0 then ((exact_order.f a0_1 a1_1).bind fun t596 => (some t596)) else (some t595)) = some r := H
  have A3 := Aside0.mk A30
  clear A30
  by_cases c4 : t595 = 0
  · rw [if_pos c4] at H
    have c4b0 : (t595 == 0) = true := beq_iff_eq.mpr c4
    have c4b1 : (t595 != 0) = false := bne_eq_false_iff_eq.mpr c4
    clear c4
    replace H := Option.bind_eq_some_iff.mp H
    obtain ⟨t596, A50, H⟩ := H
    replace H : (some t596) = some r := H
    have A5 := Aside0.mk A50
    clear A50
    obtain rfl := Option.some.inj H
    go_enter Tryd.func43, Tryd.ntmps43
    go_wp2_with (first | ((with_reducible refine gate_dst (N := 2) rfl ?_); refine box_event ?hg (N := 2) ?hd (cs := #[.int .u64 a0_0, .int .u64 a0_1]) (t := 63) ?hr ?_; (case hd => rfl); (case hg => rfl); (case hr => first | (go_simp; done) | (go_simp; rfl)); intro gb593 hg w6 hbox hb; have n0_ := Aside0.mk (below_step (by repeat (first | (with_reducible first | exact HB.out | apply below_alloc | apply pw_below_drewN | apply below_drew1) | exact HB.out)) hb); have n1_ := Aside0.mk (hbox); have n2_ := Aside0.mk ((by rw [hg]; exact (below_size (by repeat (first | (with_reducible first | exact HB.out | apply below_alloc | apply pw_below_drewN | apply below_drew1) | exact HB.out))) : w.heap.size ≤ gb593)); have n3_ := Aside0.mk ((by rw [hg]; exact (below_size (by repeat (first | (with_reducible first | exact HB.out | apply below_alloc | apply pw_below_drewN | apply below_drew1) | exact HB.out))) : w.heap.size ≤ gb593)); clear HB; have HB := n0_; have BK593 := n1_; have GW593 := n2_; have GE593 := n3_; clear n0_ n1_ n2_ n3_; clear hb hbox hg) | ((with_reducible refine gate_dst (N := 3) rfl ?_); refine box_event ?hg (N := 3) ?hd (cs := #[.int .u64 a1_0, .int .u64 a1_1]) (t := 63) ?hr ?_; (case hd => rfl); (case hg => rfl); (case hr => first | (go_simp; done) | (go_simp; rfl)); intro gb594 hg w7 hbox hb; have n0_ := Aside0.mk (blk_below (g := gb593) (o := .cells #[.int .u64 a0_0, .int .u64 a0_1] 63 (0, 0)) (by (with_reducible repeat (first | refine blk_drewN ?_ _ | refine blk_drew ?_ | refine blk_alloc ?_ _)); exact BK593.out) hb); have n1_ := Aside0.mk (below_step (by repeat (first | (with_reducible first | exact HB.out | apply below_alloc | apply pw_below_drewN | apply below_drew1 | refine below_set ?_ GE593.out) | exact HB.out)) hb); have n2_ := Aside0.mk (hbox); have n3_ := Aside0.mk ((by rw [hg]; exact (below_size (by repeat (first | (with_reducible first | exact HB.out | apply below_alloc | apply pw_below_drewN | apply below_drew1 | refine below_set ?_ GE593.out) | exact HB.out))) : w.heap.size ≤ gb594)); have n4_ := Aside0.mk ((by rw [hg]; exact (below_size (by repeat (first | (with_reducible first | exact HB.out | apply below_alloc | apply pw_below_drewN | apply below_drew1 | refine below_set ?_ GE593.out) | exact HB.out))) : w.heap.size ≤ gb594)); have n5_ := Aside0.mk ((by rw [hg]; exact Nat.ne_of_lt (blk_lt (g := gb593) (o := .cells #[.int .u64 a0_0, .int .u64 a0_1] 63 (0, 0)) (by (with_reducible repeat (first | refine blk_drewN ?_ _ | refine blk_drew ?_ | refine blk_alloc ?_ _)); exact BK593.out)) : gb593 ≠ gb594)); have n6_ := Aside0.mk ((by rw [hg]; exact Nat.ne_of_gt (blk_lt (g := gb593) (o := .cells #[.int .u64 a0_0, .int .u64 a0_1] 63 (0, 0)) (by (with_reducible repeat (first | refine blk_drewN ?_ _ | refine blk_drew ?_ | refine blk_alloc ?_ _)); exact BK593.out)) : gb594 ≠ gb593)); clear BK593; clear HB; have BK593 := n0_; have HB := n1_; have BK594 := n2_; have GW594 := n3_; have GE594 := n4_; have NB593_594 := n5_; have NB594_593 := n6_; clear n0_ n1_ n2_ n3_ n4_ n5_ n6_; clear hb hbox hg; have hnb8 := NB593_594.out; have hnc8 := NB594_593.out; have hcz9_0 : w7.cell? ⟨gb593, 0, none⟩ = some (.int .u64 a0_0) := (blk_cell BK593.out 0).trans rfl; have hcz9_1 : w7.cell? ⟨gb593, 1, none⟩ = some (.int .u64 a0_1) := (blk_cell BK593.out 1).trans rfl; have hfz9_0 := blk_frozen BK593.out 0; have hfz9_1 := blk_frozen BK593.out 1; have hcz10_0 : w7.cell? ⟨gb594, 0, none⟩ = some (.int .u64 a1_0) := (blk_cell BK594.out 0).trans rfl; have hcz10_1 : w7.cell? ⟨gb594, 1, none⟩ = some (.int .u64 a1_1) := (blk_cell BK594.out 1).trans rfl; have hfz10_0 := blk_frozen BK594.out 0; have hfz10_1 := blk_frozen BK594.out 1) | ((with_reducible refine gate_callee (f := 62) rfl ?_); refine goesL_ (some 10) rfl rfl Tryd.func62 (by kernel_rfl) rfl #[.int .u64 a0_0, .int .u64 a1_0] rfl (by (try simp only [List.map_toArray, List.map_cons, List.map_nil]); first | done | rfl | (simp only [List.length_drop, List.length_take]; rfl)) ?_; (with_reducible refine (exact_order.calls a0_0 a1_0 t595 _ A3.out).mono ?_); rintro e w' ⟨rfl, ⟨nd, rfl⟩⟩; refine ⟨_, rfl, ?_⟩) | ((with_reducible refine gate_callee (f := 62) rfl ?_); refine goesL_ (some 18) rfl rfl Tryd.func62 (by kernel_rfl) rfl #[.int .u64 a0_1, .int .u64 a1_1] rfl (by (try simp only [List.map_toArray, List.map_cons, List.map_nil]); first | done | rfl | (simp only [List.length_drop, List.length_take]; rfl)) ?_; (with_reducible refine (exact_order.calls a0_1 a1_1 t596 _ A5.out).mono ?_); rintro e w' ⟨rfl, ⟨nd, rfl⟩⟩; refine ⟨_, rfl, ?_⟩))
    go_ret
    exact ⟨by first | rfl | (simp [errW_none, errW_some] <;> rfl) | (simp [*, errW_none, errW_some] <;> rfl), by repeat (first | (with_reducible first | exact HB.out | apply below_alloc | apply pw_below_drewN | apply below_drew1 | refine below_set ?_ GE593.out | refine below_set ?_ GE594.out) | exact HB.out)⟩
  · rw [if_neg c4] at H
    have c4b0 : (t595 == 0) = false := beq_eq_false_iff_ne.mpr c4
    have c4b1 : (t595 != 0) = true := bne_iff_ne.mpr c4
    obtain rfl := Option.some.inj H
    go_enter Tryd.func43, Tryd.ntmps43
    go_wp2_with (first | ((with_reducible refine gate_dst (N := 2) rfl ?_); refine box_event ?hg (N := 2) ?hd (cs := #[.int .u64 a0_0, .int .u64 a0_1]) (t := 63) ?hr ?_; (case hd => rfl); (case hg => rfl); (case hr => first | (go_simp; done) | (go_simp; rfl)); intro gb593 hg w11 hbox hb; have n0_ := Aside0.mk (below_step (by repeat (first | (with_reducible first | exact HB.out | apply below_alloc | apply pw_below_drewN | apply below_drew1) | exact HB.out)) hb); have n1_ := Aside0.mk (hbox); have n2_ := Aside0.mk ((by rw [hg]; exact (below_size (by repeat (first | (with_reducible first | exact HB.out | apply below_alloc | apply pw_below_drewN | apply below_drew1) | exact HB.out))) : w.heap.size ≤ gb593)); have n3_ := Aside0.mk ((by rw [hg]; exact (below_size (by repeat (first | (with_reducible first | exact HB.out | apply below_alloc | apply pw_below_drewN | apply below_drew1) | exact HB.out))) : w.heap.size ≤ gb593)); clear HB; have HB := n0_; have BK593 := n1_; have GW593 := n2_; have GE593 := n3_; clear n0_ n1_ n2_ n3_; clear hb hbox hg) | ((with_reducible refine gate_dst (N := 3) rfl ?_); refine box_event ?hg (N := 3) ?hd (cs := #[.int .u64 a1_0, .int .u64 a1_1]) (t := 63) ?hr ?_; (case hd => rfl); (case hg => rfl); (case hr => first | (go_simp; done) | (go_simp; rfl)); intro gb594 hg w12 hbox hb; have n0_ := Aside0.mk (blk_below (g := gb593) (o := .cells #[.int .u64 a0_0, .int .u64 a0_1] 63 (0, 0)) (by (with_reducible repeat (first | refine blk_drewN ?_ _ | refine blk_drew ?_ | refine blk_alloc ?_ _)); exact BK593.out) hb); have n1_ := Aside0.mk (below_step (by repeat (first | (with_reducible first | exact HB.out | apply below_alloc | apply pw_below_drewN | apply below_drew1 | refine below_set ?_ GE593.out) | exact HB.out)) hb); have n2_ := Aside0.mk (hbox); have n3_ := Aside0.mk ((by rw [hg]; exact (below_size (by repeat (first | (with_reducible first | exact HB.out | apply below_alloc | apply pw_below_drewN | apply below_drew1 | refine below_set ?_ GE593.out) | exact HB.out))) : w.heap.size ≤ gb594)); have n4_ := Aside0.mk ((by rw [hg]; exact (below_size (by repeat (first | (with_reducible first | exact HB.out | apply below_alloc | apply pw_below_drewN | apply below_drew1 | refine below_set ?_ GE593.out) | exact HB.out))) : w.heap.size ≤ gb594)); have n5_ := Aside0.mk ((by rw [hg]; exact Nat.ne_of_lt (blk_lt (g := gb593) (o := .cells #[.int .u64 a0_0, .int .u64 a0_1] 63 (0, 0)) (by (with_reducible repeat (first | refine blk_drewN ?_ _ | refine blk_drew ?_ | refine blk_alloc ?_ _)); exact BK593.out)) : gb593 ≠ gb594)); have n6_ := Aside0.mk ((by rw [hg]; exact Nat.ne_of_gt (blk_lt (g := gb593) (o := .cells #[.int .u64 a0_0, .int .u64 a0_1] 63 (0, 0)) (by (with_reducible repeat (first | refine blk_drewN ?_ _ | refine blk_drew ?_ | refine blk_alloc ?_ _)); exact BK593.out)) : gb594 ≠ gb593)); clear BK593; clear HB; have BK593 := n0_; have HB := n1_; have BK594 := n2_; have GW594 := n3_; have GE594 := n4_; have NB593_594 := n5_; have NB594_593 := n6_; clear n0_ n1_ n2_ n3_ n4_ n5_ n6_; clear hb hbox hg; have hnb13 := NB593_594.out; have hnc13 := NB594_593.out; have hcz14_0 : w12.cell? ⟨gb593, 0, none⟩ = some (.int .u64 a0_0) := (blk_cell BK593.out 0).trans rfl; have hcz14_1 : w12.cell? ⟨gb593, 1, none⟩ = some (.int .u64 a0_1) := (blk_cell BK593.out 1).trans rfl; have hfz14_0 := blk_frozen BK593.out 0; have hfz14_1 := blk_frozen BK593.out 1; have hcz15_0 : w12.cell? ⟨gb594, 0, none⟩ = some (.int .u64 a1_0) := (blk_cell BK594.out 0).trans rfl; have hcz15_1 : w12.cell? ⟨gb594, 1, none⟩ = some (.int .u64 a1_1) := (blk_cell BK594.out 1).trans rfl; have hfz15_0 := blk_frozen BK594.out 0; have hfz15_1 := blk_frozen BK594.out 1) | ((with_reducible refine gate_callee (f := 62) rfl ?_); refine goesL_ (some 10) rfl rfl Tryd.func62 (by kernel_rfl) rfl #[.int .u64 a0_0, .int .u64 a1_0] rfl (by (try simp only [List.map_toArray, List.map_cons, List.map_nil]); first | done | rfl | (simp only [List.length_drop, List.length_take]; rfl)) ?_; (with_reducible refine (exact_order.calls a0_0 a1_0 t595 _ A3.out).mono ?_); rintro e w' ⟨rfl, ⟨nd, rfl⟩⟩; refine ⟨_, rfl, ?_⟩))
    go_ret
    exact ⟨by first | rfl | (simp [errW_none, errW_some] <;> rfl) | (simp [*, errW_none, errW_some] <;> rfl), by repeat (first | (with_reducible first | exact HB.out | apply below_alloc | apply pw_below_drewN | apply below_drew1 | refine below_set ?_ GE593.out | refine below_set ?_ GE594.out) | exact HB.out)⟩

end Go.Proofs.YtfpkgdkcllobiaaDoor.F
end
section
namespace Go.Proofs.YtfpkgdkcllobiaaDoor.F
open Go.RowKit Go.Proofs.YtfpkgdkcllobiaaDoorW.PrintWords Go.Proofs.YtfpkgdkcllobiaaDoorW.PrintLast Go.Proofs.YtfpkgdkcllobiaaDoorW.PrintMore
set_option maxHeartbeats 8000000 in
set_option maxRecDepth 100000 in
theorem duty_share.calls (rate value per : Int) (g4 g9 : Nat) (r1 r2 : Int) (w : World) (h4 : w.heap[g4]? = some (.cells #[.int .i64 value] 3 (0, 0))) (h9 : w.heap[g9]? = some (.cells #[.int .u64 per] 61 (0, 0)))
    (h : exact_Mul.f (IntKind.u64.wrap (IntKind.u64.wrap rate * IntKind.u64.wrap value)) per = some (r1, r2)) :
    Calls Tryd.prog 40 #[.int .i64 rate, .pointer (some ⟨g4, 0, none⟩), .pointer (some ⟨g9, 0, none⟩)] w fun e w' => e = .returned (.agg #[.int .u64 r1, .int .u64 r2]) ∧ Below w.heap.size w w' := by
  have hu := Tryd.underlying63
  have HB := Aside0.mk (Below.refl w.heap.size w)
  have A3 := Aside0.mk h
  clear h
  have q4 := blk_cell h4 0
  have q9 := blk_cell h9 0
  go_enter Tryd.func40, Tryd.ntmps40
  go_wp2_with (first | ((with_reducible refine gate_dst (N := 4) rfl ?_); refine box_event ?hg (N := 4) ?hd (cs := #[.int .u64 0, .int .u64 0]) (t := 63) ?hr ?_; (case hd => rfl); (case hg => rfl); (case hr => first | (go_simp; done) | (go_simp; rfl)); intro gb hg w4 hbox hb; have HB := Aside0.mk (below_step HB.out hb); have BK := Aside0.mk hbox; have GE := Aside0.mk (show w.heap.size ≤ gb by rw [hg]; exact Nat.le_refl _); have h4' : w4.heap[g4]? = some (.cells #[.int .i64 value] 3 (0, 0)) := (hb.block g4 (blk_lt h4)).trans h4; have h9' : w4.heap[g9]? = some (.cells #[.int .u64 per] 61 (0, 0)) := (hb.block g9 (blk_lt h9)).trans h9; have hc4 : w4.cell? ⟨g4, 0, none⟩ = some (.int .i64 value) := (blk_cell h4' 0).trans rfl; have hc9 : w4.cell? ⟨g9, 0, none⟩ = some (.int .u64 per) := (blk_cell h9' 0).trans rfl; clear hg hb hbox h4' h9') | (go_at_call 41; (with_reducible refine (exact_Mul.calls _ _ r1 r2 _ A3.out).mono ?_); rintro e w8 ⟨rfl, hb8⟩; have HB8 := Aside0.mk (below_step HB.out hb8); have BK8 := Aside0.mk ((hb8.block gb (blk_lt BK.out)).trans BK.out); clear hb8; have hcz0 := blk_cell BK8.out 0; have hcz1 := blk_cell BK8.out 1; have hfz0 := blk_frozen BK8.out 0; have hfz1 := blk_frozen BK8.out 1))
  refine bodyPost_ret (results_cell_row rfl _ _ gb 63 #[.int .u64 r1, .int .u64 r2] (0, 0) _ rfl (by refine blk_put (cs := #[.int .u64 r1, .int .u64 0]) ?_ 1 _ rfl; refine blk_put (cs := #[.int .u64 0, .int .u64 0]) ?_ 0 _ rfl; exact BK8.out) Tryd.underlying63 rfl (by kernel_rfl)) rfl ?_
  exact ⟨rfl, by repeat (first | exact HB8.out | refine below_set ?_ GE.out)⟩
end Go.Proofs.YtfpkgdkcllobiaaDoor.F
end
section
namespace Go.Proofs.YtfpkgdkcllobiaaDoor.F
open Go.RowKit Go.Proofs.YtfpkgdkcllobiaaDoorW.PrintWords Go.Proofs.YtfpkgdkcllobiaaDoorW.PrintLast Go.Proofs.YtfpkgdkcllobiaaDoorW.PrintMore
structure Fr (w0 : World) (g3 g4 g9 : Nat) (cs : Array Value) (v P : Int) (w : World) : Prop where
  hb : Below w0.heap.size w0 w
  b3 : w.heap[g3]? = some (.cells cs 23 (0, 0))
  b4 : w.heap[g4]? = some (.cells #[.int .i64 v] 3 (0, 0))
  b9 : w.heap[g9]? = some (.cells #[.int .u64 P] 61 (0, 0))
theorem Fr.step {w0 w w' : World} {g3 g4 g9 : Nat} {cs : Array Value} {v P : Int} (h : Fr w0 g3 g4 g9 cs v P w) (hb : Below w.heap.size w w') : Fr w0 g3 g4 g9 cs v P w' :=
  ⟨below_step h.hb hb, blk_below h.b3 hb, blk_below h.b4 hb, blk_below h.b9 hb⟩
theorem Fr.drew {w0 w : World} {g3 g4 g9 : Nat} {cs : Array Value} {v P : Int} (h : Fr w0 g3 g4 g9 cs v P w) : Fr w0 g3 g4 g9 cs v P w.drew :=
  ⟨below_drew1 h.hb, h.b3, h.b4, h.b9⟩
structure Fs (w0 : World) (g3 g4 g9 g11 : Nat) (cs : Array Value) (v P hi lo : Int) (w : World) : Prop where
  fr : Fr w0 g3 g4 g9 cs v P w
  b11 : w.heap[g11]? = some (.cells #[.int .u64 hi, .int .u64 lo] 63 (0, 0))
  ge : w0.heap.size ≤ g11
theorem Fs.step {w0 w w' : World} {g3 g4 g9 g11 : Nat} {cs : Array Value} {v P hi lo : Int} (h : Fs w0 g3 g4 g9 g11 cs v P hi lo w) (hb : Below w.heap.size w w') : Fs w0 g3 g4 g9 g11 cs v P hi lo w' :=
  ⟨h.fr.step hb, blk_below h.b11 hb, h.ge⟩
theorem Fs.drew {w0 w : World} {g3 g4 g9 g11 : Nat} {cs : Array Value} {v P hi lo : Int} (h : Fs w0 g3 g4 g9 g11 cs v P hi lo w) : Fs w0 g3 g4 g9 g11 cs v P hi lo w.drew :=
  ⟨h.fr.drew, h.b11, h.ge⟩
theorem Fs.put {w0 w : World} {g3 g4 g9 g11 : Nat} {cs : Array Value} {v P hi lo : Int} (h : Fs w0 g3 g4 g9 g11 cs v P hi lo w) (hi' lo' : Int) :
    Fs w0 g3 g4 g9 g11 cs v P hi' lo' ((w.setCell ⟨g11, 0, none⟩ (.int .u64 hi')).setCell ⟨g11, 1, none⟩ (.int .u64 lo')) := by
  have n3 : g3 ≠ g11 := blk_ne h.fr.b3 h.b11 (by decide)
  have n4 : g4 ≠ g11 := blk_ne h.fr.b4 h.b11 (by decide)
  have n9 : g9 ≠ g11 := blk_ne h.fr.b9 h.b11 (by decide)
  refine ⟨⟨below_set (below_set h.fr.hb h.ge) h.ge, blk_far (blk_far h.fr.b3 n3 _) n3 _, blk_far (blk_far h.fr.b4 n4 _) n4 _, blk_far (blk_far h.fr.b9 n9 _) n9 _⟩, ?_, h.ge⟩
  exact blk_put (blk_put h.b11 0 _ rfl) 1 _ rfl
section
variable {P : Program} {ops : Array Oper} {Q : Exit → Act → World → Prop}
theorem goesV_ {oi : Oper} {N : Option Tmp} {a : Act} {w : World} {K : Act → World → Prop} {f : FuncId} {fn : Func} {xs : Array Operand} {ts : Array TypeId} {c : Operand} {cap : Array Value} (hf : P.funcs[f]? = some fn) (hname : (fn.name == "runtime.NumGoroutine") = false) (hb : fn.body.isSome = true) (args : Array Value)
    (hw : Region.wanted oi (yielded ops a.tmps) = true) (hN : oi.dst = N) (hop : oi.op = .call { callee := .value c, args := xs, argTypes := ts }) (hc : a.eval c = .func (.func f) #[] cap) (hargs : xs.map a.eval = args)
    (h : Calls P f (args ++ cap) w fun e w' => ∃ v, e = .returned v ∧ K (a.put N v) w') : if Region.wanted oi (yielded ops a.tmps) = true then Oper.wp P oi a w K Q else K (a.put N undef) w := by
  refine call_ f (args ++ cap) hw hN ?_ h
  have he := enters_ hf hname hb (args ++ cap) w
  unfold execOp
  simp [hop, resolve, hc, Deferred.ofValue, invoke, hargs, he]
end
end Go.Proofs.YtfpkgdkcllobiaaDoor.F
end
