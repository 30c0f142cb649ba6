/- Part 4 of the proof of the law DutySplit (its walk through the code, and the plain laws over numbers and texts). Conditions: none. -/
import Derived.Test.YtfpkgdkcllobiaaDoorZDutySplit3
import Derived.Test.YtfpkgdkcllobiaaDoorProg
import Derived.Lib.LaidTab
import Derived.Lib.SmallJoins
import Derived.Shelf.Strconv.Itoa1
section
namespace Go.Proofs.YtfpkgdkcllobiaaDoor.F
open Go.RowKit Go.Lib
structure Gl (w : World) : Prop where
  tab : Lib.TabIs Tryd.prog w "internal/strconv.uint64pow10" .u64 Lib.pow10Tab
  e2 : ∃ te pe, w.cell? ⟨4, 0, none⟩ = some (.iface te pe)
  e3 : ∃ te pe, w.cell? ⟨5, 0, none⟩ = some (.iface te pe)
  m2 : ∃ m, w.cell? ⟨2, 0, none⟩ = some (.int .i64 m)
  size : 6 ≤ w.heap.size
theorem Gl.below {w w' : World} (h : Gl w) (hb : Below w.heap.size w w') : Gl w' := by
  obtain ⟨h1, ⟨t2, p2, h2⟩, ⟨t3, p3, h3⟩, ⟨m, hm⟩, h4⟩ := h
  refine ⟨Joins.tab_stays (g := 3) (by kernel_rfl) h1 hb (Nat.le_refl _), ⟨t2, p2, ?_⟩, ⟨t3, p3, ?_⟩, ⟨m, ?_⟩, Nat.le_trans h4 hb.size⟩
  · rw [hb.cell (p := ⟨4, 0, none⟩) (by show 4 < _; omega)]; exact h2
  · rw [hb.cell (p := ⟨5, 0, none⟩) (by show 5 < _; omega)]; exact h3
  · rw [hb.cell (p := ⟨2, 0, none⟩) (by show 2 < _; omega)]; exact hm
theorem Gl.drewN {w : World} (h : Gl w) (n : Nat) : Gl (w.drewN n) := h.below ⟨rfl, rfl, rfl, Nat.le_refl _, fun _ _ => rfl⟩
theorem Gl.drew {w : World} (h : Gl w) : Gl w.drew := h.below ⟨rfl, rfl, rfl, Nat.le_refl _, fun _ _ => rfl⟩
theorem Gl.alloc {w : World} (h : Gl w) (o : Obj) : Gl (w.alloc o) := h.below ((Below.refl _ _).alloc (Nat.le_refl _) o)
end Go.Proofs.YtfpkgdkcllobiaaDoor.F
end
section
namespace Go.Proofs.YtfpkgdkcllobiaaDoor.F
open Go.RowKit Go.Proofs.YtfpkgdkcllobiaaDoorW.PrintWords Go.Proofs.YtfpkgdkcllobiaaDoorW.PrintLast
theorem cut_C {w : World} {A : Option Addr} {l : List Int} (m : Nat) (h : Kd.C (Kd.int .i64) w A l.length l) : Kd.C (Kd.int .i64) w A (l.take m).length (l.take m) := by
  have h1 : ReadsOf (Value.int .i64) 0 w A l.length l := Kd.reads_of_C h
  refine Kd.C_of_reads (h1 := fun _ => rfl) (d := 0) ?_
  by_cases hm : m ≤ l.length
  · have h2 := h1.take_ m hm
    rwa [show (l.take m).length = m by rw [List.length_take]; omega]
  · rwa [List.take_of_length_le (by omega)]
theorem cut_cap {c : Nat} {l : List Int} (m : Nat) (h : l.length ≤ c) : (l.take m).length ≤ c := by
  rw [List.length_take]
  omega
theorem customsmade_Cut.cut (A : Option Addr) (c : Nat) (l : List Int) (k : Int) (m : Nat) (hk : k = m) (w : World) (hc : l.length ≤ c) :
    Calls Tryd.prog 22 #[.slice A l.length c, .int .i64 k] w fun e w' => e = .returned (.slice A (l.take m).length c) ∧ ∃ nd, w' = w.drewN nd := by
  have hinfo : (Tryd.prog.info? 3).map (fun i => (i.zero, i.size, i.bytes)) = some (some (.int .i64 0), 1, 8) := by kernel_rfl
  by_cases hgt : (l.length : Int) > k
  · obtain ⟨i0, hi0, _, hsz, _⟩ := info_parts hinfo
    obtain ⟨hcut, _, _⟩ := print_take_of (P := Tryd.prog) (Value.int .i64) 0 24 3 .i64 Tryd.underlying24 hi0 hsz A c l k (by omega) (by omega) hc
    have e1 : k.toNat = m := by omega
    rw [e1] at hcut
    have hb : decide ((l.length : Int) > k) = true := decide_eq_true hgt
    clear hk e1 hgt hinfo hi0 hsz hc
    go_enter Tryd.func22, Tryd.ntmps22
    go_wp2
    go_ret
    exact ⟨by rw [List.length_take]; rfl, 0, rfl⟩
  · have hb : decide ((l.length : Int) > k) = false := decide_eq_false hgt
    rw [List.take_of_length_le (by omega)]
    clear hk hgt hinfo hc
    go_enter Tryd.func22, Tryd.ntmps22
    go_wp2
    go_ret
    exact ⟨rfl, 0, rfl⟩
end Go.Proofs.YtfpkgdkcllobiaaDoor.F
end
section
namespace Go.Proofs.YtfpkgdkcllobiaaDoor.F
open Go.RowKit Go.Proofs.YtfpkgdkcllobiaaDoorW.PrintWords Go.Proofs.YtfpkgdkcllobiaaDoorW.PrintLast Go.Proofs.YtfpkgdkcllobiaaDoorW.PrintMore
attribute [local go_sem] max2_int min2_int max_two min_two max_three min_three max_four min_four
set_option linter.unusedVariables false
set_option linter.unusedSimpArgs false
def errW : Option Int → Value
  | none => .nilIface
  | some c => .iface 120 (.pointer (some ⟨c.toNat, 0, none⟩))
theorem errW_none : errW none = .nilIface := rfl
theorem errW_some (c : Int) : errW (some c) = .iface 120 (.pointer (some ⟨c.toNat, 0, none⟩)) := rfl
end Go.Proofs.YtfpkgdkcllobiaaDoor.F
end
section
namespace Go.Proofs.YtfpkgdkcllobiaaDoor.F
open Go.RowKit Go.Proofs.YtfpkgdkcllobiaaDoorW.PrintWords Go.Proofs.YtfpkgdkcllobiaaDoorW.PrintLast Go.Proofs.YtfpkgdkcllobiaaDoorW.PrintMore
attribute [local go_sem] max2_int min2_int max_two min_two max_three min_three max_four min_four   -- for this text's walks alone
set_option linter.unusedVariables false
set_option linter.unusedSimpArgs false

-- EXTERNAL: function 22 (customsmade_Cut)

/-! ### customsmade_Within: function 13 -/
def customsmade_Within.f (a0 : Int) (a1 : Int) : Option (Int) := if a1 = 0 then (none) else (some (Int.tmod (wrap64 ((Int.tmod a0 a1) + a1)) a1))
set_option maxHeartbeats 8000000 in
set_option maxRecDepth 100000 in
theorem customsmade_Within.calls (a0 : Int) (a1 : Int) (r : Int) (w : World) (h : customsmade_Within.f a0 a1 = some r) :
    Calls Tryd.prog 13 #[.int .i64 a0, .int .i64 a1] w fun e w' => e = .returned (.int .i64 r) ∧ Drawn0 w w' := by
  have H : (if a1 = 0 then (none) else (some (Int.tmod (wrap64 ((Int.tmod a0 a1) + a1)) a1))) = some r := h
  clear h
  by_cases c3 : a1 = 0
  · rw [if_pos c3] at H
    exact absurd H (by simp)
  · rw [if_neg c3] at H
    have c3b0 : (a1 == 0) = false := beq_eq_false_iff_ne.mpr c3
    have c3b1 : (a1 != 0) = true := bne_iff_ne.mpr c3
    obtain rfl := Option.some.inj H
    go_enter Tryd.func13, Tryd.ntmps13
    go_wp2
    go_ret
    exact ⟨by first | rfl | (simp; done) | (simp [*]; done), by repeat (first | exact Drawn0.refl _ | apply Drawn0.step)⟩

/-- A state of type 48 at block g of W; what its slices lead to came in by w0. -/
def IsS48 (w0 W : World) (g : Nat) (f0 : List Int) (f1 : Int) : Prop := ∃ A0 c0, W.heap[g]? = some (.cells #[.slice A0 f0.length c0, .int .i64 f1] 48 (0, 0)) ∧ w0.heap.size ≤ g ∧ Kd.C (Kd.int .i64) w0 A0 f0.length f0
theorem IsS48.grown {w0 W : World} {g : Nat} {f0 : List Int} {f1 : Int} {W1 : World} {row : Option Nat} (h : IsS48 w0 W g f0 f1) (hw : W.grownBy W1 row) (hne : some g ≠ row) : IsS48 w0 W1 g f0 f1 := by
  obtain ⟨A0, c0, hb, hg, hr0⟩ := h
  exact ⟨A0, c0, blk_grown hb hw hne, hg, hr0⟩
theorem IsS48.own_neN {w0 W : World} {g : Nat} {f0 : List Int} {f1 : Int} {α : Type} {d : Kd α} {e : Nat} {base : Nat} {ok : Nat → Prop} {v : Value} {xs : List α} (h : IsS48 w0 W g f0 f1) (ho : Kd.N d e W base ok v xs) (ht : e ≠ 48) : some g ≠ v.ownBlock := by
  obtain ⟨A0, c0, hb, hg, hr0⟩ := h
  exact Kd.N_ne ho hb ht
theorem IsS48.fresh {w0 W : World} {g : Nat} {f0 : List Int} {f1 : Int} (h : IsS48 w0 W g f0 f1) : ∀ k, W.heap.size ≤ k → k ≠ g := by
  obtain ⟨A0, c0, hb, hg, hr0⟩ := h
  exact Kd.freshB hb
theorem IsS48.kept {w0 W : World} {g : Nat} {f0 : List Int} {f1 : Int} {W1 : World} {S : Nat → Prop} (h : IsS48 w0 W g f0 f1) (hk : Kept W W1 S) (hne : ¬ S g) : IsS48 w0 W1 g f0 f1 := by
  obtain ⟨A0, c0, hb, hg, hr0⟩ := h
  exact ⟨A0, c0, blk_kept hb hk hne, hg, hr0⟩
theorem IsS48.below {w0 W : World} {g : Nat} {f0 : List Int} {f1 : Int} {W1 : World} (h : IsS48 w0 W g f0 f1) (hw : Below W.heap.size W W1) : IsS48 w0 W1 g f0 f1 := h.grown (grown_of_below hw none) (by simp)
theorem IsS48.alloc {w0 W : World} {g : Nat} {f0 : List Int} {f1 : Int} (h : IsS48 w0 W g f0 f1) (o : Obj) : IsS48 w0 (W.alloc o) g f0 f1 := h.below (below_alloc (Below.refl _ _) o)
theorem IsS48.drewN {w0 W : World} {g : Nat} {f0 : List Int} {f1 : Int} (h : IsS48 w0 W g f0 f1) (m : Nat) : IsS48 w0 (W.drewN m) g f0 f1 := h
theorem IsS48.drew {w0 W : World} {g : Nat} {f0 : List Int} {f1 : Int} (h : IsS48 w0 W g f0 f1) : IsS48 w0 W.drew g f0 f1 := h
theorem IsS48.at_ {w0 W : World} {g : Nat} {f0 : List Int} {f1 : Int} {w' : World} {m : Nat} (hq : W.drewN m = w') (h : IsS48 w0 W g f0 f1) : IsS48 w0 w' g f0 f1 := by subst hq; exact IsS48.drewN h m
theorem IsS48.apart {w0 W : World} {g : Nat} {f0 : List Int} {f1 : Int} {α : Type} {d : Kd α} {e : Nat} {base : Nat} {ok : Nat → Prop} {v : Value} {xs : List α} (h : IsS48 w0 W g f0 f1) (ho : d.R e W base ok v xs) (ht : ∀ q, q ∈ e :: d.E → q ≠ 48) : d.R e W base (fun k => ok k ∧ k ≠ g) v xs := by
  obtain ⟨A0, c0, hb, hg, hr0⟩ := h
  exact Kd.R_types ho hb ht
theorem IsS48.own_ne {w0 W : World} {g : Nat} {f0 : List Int} {f1 : Int} {α : Type} {d : Kd α} {e : Nat} {base : Nat} {ok : Nat → Prop} {v : Value} {xs : List α} (h : IsS48 w0 W g f0 f1) (ho : d.R e W base ok v xs) (ht : e ≠ 48) : some g ≠ v.ownBlock := by
  obtain ⟨A0, c0, hb, hg, hr0⟩ := h
  exact Kd.R_ne ho hb ht
theorem IsS48.apartQ {w0 W : World} {g : Nat} {f0 : List Int} {f1 : Int} {α : Type} {d : Kd α} {e : Nat} {base : Nat} {ok : Nat → Prop} {v : Value} {xs : List α} (h : IsS48 w0 W g f0 f1) (ho : d.Q e W base ok v xs) (ht : ∀ q, q ∈ e :: d.E → q ≠ 48) : d.Q e W base (fun k => ok k ∧ k ≠ g) v xs := by
  obtain ⟨A0, c0, hb, hg, hr0⟩ := h
  exact Kd.Q_types ho hb ht
theorem IsS48.own_neQ {w0 W : World} {g : Nat} {f0 : List Int} {f1 : Int} {α : Type} {d : Kd α} {e : Nat} {base : Nat} {ok : Nat → Prop} {v : Value} {xs : List α} (h : IsS48 w0 W g f0 f1) (ho : d.Q e W base ok v xs) (ht : e ≠ 48) : some g ≠ v.ownBlock := by
  obtain ⟨A0, c0, hb, hg, hr0⟩ := h
  exact Kd.Q_ne ho hb ht
theorem IsS48.apartS {w0 W : World} {g : Nat} {f0 : List Int} {f1 : Int} {α : Type} {d : Kd α} {e : Nat} {base : Nat} {ok : Nat → Prop} {v : Value} {xs : List α} (h : IsS48 w0 W g f0 f1) (ho : d.S e W base ok v xs) (ht : ∀ q, q ∈ e :: d.E → q ≠ 48) : d.S e W base (fun k => ok k ∧ k ≠ g) v xs := by
  obtain ⟨A0, c0, hb, hg, hr0⟩ := h
  exact Kd.S_types ho hb ht
theorem IsS48.own_neS {w0 W : World} {g : Nat} {f0 : List Int} {f1 : Int} {α : Type} {d : Kd α} {e : Nat} {base : Nat} {ok : Nat → Prop} {v : Value} {xs : List α} (h : IsS48 w0 W g f0 f1) (ho : d.S e W base ok v xs) (ht : e ≠ 48) : some g ≠ v.ownBlock := by
  obtain ⟨A0, c0, hb, hg, hr0⟩ := h
  exact Kd.S_ne ho hb ht
theorem IsS48.lt {w0 W : World} {g : Nat} {f0 : List Int} {f1 : Int} (h : IsS48 w0 W g f0 f1) : g < W.heap.size := by
  obtain ⟨A0, c0, hb, hg, hr0⟩ := h
  exact blk_lt hb
theorem IsS48.ge {w0 W : World} {g : Nat} {f0 : List Int} {f1 : Int} (h : IsS48 w0 W g f0 f1) : w0.heap.size ≤ g := by
  obtain ⟨A0, c0, hb, hg, hr0⟩ := h
  exact hg
theorem IsS48.ne_blk {w0 W : World} {g : Nat} {f0 : List Int} {f1 : Int} {a : Nat} {cs : Array Value} {t : TypeId} {fr : Nat × Nat} (h : IsS48 w0 W g f0 f1) (hb2 : W.heap[a]? = some (.cells cs t fr)) (ht : t ≠ 48) : g ≠ a := by
  obtain ⟨A0, c0, hb, hg, hr0⟩ := h
  rintro rfl
  rw [hb] at hb2
  injection hb2 with hb2
  injection hb2 with _ ht2
  exact ht ht2.symm
theorem IsS48.far {w0 W : World} {g : Nat} {f0 : List Int} {f1 : Int} {p : Addr} (h : IsS48 w0 W g f0 f1) (hne : g ≠ p.block) (u : Value) : IsS48 w0 (W.setCell p u) g f0 f1 := by
  obtain ⟨A0, c0, hb, hg, hr0⟩ := h
  exact ⟨A0, c0, blk_far hb hne u, hg, hr0⟩
theorem cellS48_0 {W : World} {g : Nat} {A0 : Option Addr} {c0 : Nat} {f0 : List Int} {f1 : Int} (h : W.heap[g]? = some (.cells #[.slice A0 f0.length c0, .int .i64 f1] 48 (0, 0))) : W.cell? ⟨g, 0, none⟩ = some (.slice A0 f0.length c0) := (blk_cell h 0).trans rfl
theorem cellS48_1 {W : World} {g : Nat} {A0 : Option Addr} {c0 : Nat} {f0 : List Int} {f1 : Int} (h : W.heap[g]? = some (.cells #[.slice A0 f0.length c0, .int .i64 f1] 48 (0, 0))) : W.cell? ⟨g, 1, none⟩ = some (.int .i64 f1) := (blk_cell h 1).trans rfl
theorem IsS48.set_1 {w0 W : World} {g : Nat} {f0 : List Int} {f1 : Int} (h : IsS48 w0 W g f0 f1) (x : Int) : IsS48 w0 (W.setCell ⟨g, 1, none⟩ (.int .i64 x)) g f0 x := by
  obtain ⟨A0, c0, hb, hg, hr0⟩ := h
  exact ⟨A0, c0, by simpa using blk_set hb 1 (.int .i64 x), hg, hr0⟩
theorem IsS48.new (w0 W : World) (A0 : Option Addr) (c0 : Nat) (f0 : List Int) (f1 : Int) (hB : Below w0.heap.size w0 W) (hr0 : Kd.C (Kd.int .i64) w0 A0 f0.length f0) : IsS48 w0 (W.alloc (.cells #[.slice A0 f0.length c0, .int .i64 f1] 48)) W.heap.size f0 f1 := ⟨A0, c0, by simpa using heap_alloc_new W _, hB.size, hr0⟩

/-! ### customsmade_Source_Next: function 50 -/
def customsmade_Source_Next.f (s0_0 : List Int) (s0_1 : Int) (a1 : Int) : Option (Int × Int) := if s0_1 ≥ (s0_0.length : Int) then (some (0, s0_1)) else (if 0 ≤ (wrap64 ((wrap64 (s0_1 + 1)) - 1)) then (if (wrap64 ((wrap64 (s0_1 + 1)) - 1)) < (s0_0.length : Int) then ((customsmade_Within.f (rd s0_0 (wrap64 ((wrap64 (s0_1 + 1)) - 1))) a1).bind fun t102 => (some (t102, wrap64 (s0_1 + 1)))) else (none)) else (none))
set_option maxHeartbeats 8000000 in
set_option maxRecDepth 100000 in
theorem customsmade_Source_Next.calls (g : Nat) (s0_0 : List Int) (s0_1 : Int) (a1 : Int) (r1 : Int) (r2 : Int) (w0 w : World) (hI : IsS48 w0 w g s0_0 s0_1) (hB : Below w0.heap.size w0 w) (h : customsmade_Source_Next.f s0_0 s0_1 a1 = some (r1, r2)) :
    Calls Tryd.prog 50 #[.pointer (some ⟨g, 0, none⟩), .int .i64 a1] w fun e w' => e = .returned (.int .i64 r1) ∧ IsS48 w0 w' g s0_0 r2 ∧ Below w0.heap.size w0 w' ∧ KeepBut w w' g none := by
  have HI0 := Aside0.mk hI
  have HK := Aside0.mk (KeepBut.refl w g none)
  have HL := Aside0.mk hB.size
  clear hI
  have HW0 := Aside0.mk hB.size
  have HB := Aside0.mk hB
  clear hB
  have H : (if s0_1 ≥ (s0_0.length : Int) then (some (0, s0_1)) else (if 0 ≤ (wrap64 ((wrap64 (s0_1 + 1)) - 1)) then (if (wrap64 ((wrap64 (s0_1 + 1)) - 1)) < (s0_0.length : Int) then ((customsmade_Within.f (rd s0_0 (wrap64 ((wrap64 (s0_1 + 1)) - 1))) a1).bind fun t102 => (some (t102, wrap64 (s0_1 + 1)))) else (none)) else (none))) = some (r1, r2) := h
  clear h
  by_cases c3 : s0_1 ≥ (s0_0.length : Int)
  · rw [if_pos c3] at H
    have c3b0 : decide ((s0_0.length : Int) ≤ s0_1) = true := decide_eq_true c3
    clear c3
    simp only [Option.some.injEq, Prod.mk.injEq] at H
    obtain ⟨rfl, rfl⟩ := H
    obtain ⟨ASz4_0, cSz4_0, HGz4, hgz4, HSz4_0⟩ := HI0.out
    have hcz4_0 := cellS48_0 HGz4
    have hcz4_1 := cellS48_1 HGz4
    have hfz4_1 := blk_frozen HGz4 1
    clear HGz4 hgz4
    go_enter Tryd.func50, Tryd.ntmps50
    go_wp2
    repeat (go_quiet (fail); try go_wp2)
    go_ret
    exact ⟨by first | rfl | (simp [errW_none, errW_some] <;> rfl) | (simp [*, errW_none, errW_some] <;> rfl), by repeat (first | (with_reducible first | exact HI0.out | apply IsS48.alloc | apply IsS48.drewN | apply IsS48.drew | apply IsS48.set_1) | exact HI0.out), by repeat (first | (with_reducible first | exact HB.out | apply below_alloc | apply pw_below_drewN | apply below_drew1 | refine below_set ?_ (IsS48.ge HI0.out)) | exact HB.out), by repeat (first | (with_reducible first | exact HK.out | apply KeepBut.set_ | apply keep_drewN | apply keep_drew | apply keep_alloc) | exact HK.out)⟩
  · rw [if_neg c3] at H
    have c3b0 : decide ((s0_0.length : Int) ≤ s0_1) = false := decide_eq_false c3
    clear c3
    obtain ⟨ji5, hji5⟩ : ∃ j_ : Int, (wrap64 ((wrap64 (s0_1 + 1)) - 1)) = j_ := ⟨_, rfl⟩
    replace H : (if 0 ≤ (ji5) then (if (ji5) < (s0_0.length : Int) then ((customsmade_Within.f (rd s0_0 (ji5)) a1).bind fun t102 => (some (t102, wrap64 (s0_1 + 1)))) else (none)) else (none)) = some (r1, r2) := by first | (rw [hji5] at H; exact H) | (simp only [hji5] at H ⊢; exact H)
    have hji5w : (IntKind.i64.wrap ((wrap64 (s0_1 + 1)) - 1)) = ji5 := (i64_w _).trans hji5
    by_cases c6 : 0 ≤ (ji5)
    · rw [if_pos c6] at H
      have c6b0 : decide (0 ≤ (ji5)) = true := decide_eq_true c6
      clear c6
      by_cases c7 : (ji5) < (s0_0.length : Int)
      · rw [if_pos c7] at H
        have c7b0 : decide ((ji5) < (s0_0.length : Int)) = true := decide_eq_true c7
        clear c7
        replace H := Option.bind_eq_some_iff.mp H
        obtain ⟨t102, A80, H⟩ := H
        replace H : (some (t102, wrap64 (s0_1 + 1))) = some (r1, r2) := H
        have A8 := Aside0.mk A80
        clear A80
        simp only [Option.some.injEq, Prod.mk.injEq] at H
        obtain ⟨rfl, rfl⟩ := H
        obtain ⟨ASz9_0, cSz9_0, HGz9, hgz9, HSz9_0⟩ := HI0.out
        have hcz9_0 := cellS48_0 HGz9
        have hcz9_1 := cellS48_1 HGz9
        have hfz9_1 := blk_frozen HGz9 1
        clear HGz9 hgz9
        have p101 : 0 ≤ ((ji5) : Int) := of_decide_eq_true (by first | (with_reducible assumption) | assumption)
        have q101 : (ji5) < (s0_0.length : Int) := of_decide_eq_true (by first | (with_reducible assumption) | assumption)
        obtain ⟨ad101, e101, hx101_0⟩ := Kd.at_int HSz9_0 (ji5) p101 q101
        cases e101
        have hn101_0 : ad101.block ≠ g := Nat.ne_of_lt (Nat.lt_of_lt_of_le (by have := World.block_lt_of_cell? _ _ hx101_0; first | rwa [add_block] at this | exact this) (IsS48.ge HI0.out))
        replace hx101_0 := pw_cell_below HB.out hx101_0
        replace hx101_0 := (cell_far (p := ⟨g, 1, none⟩) (by first | (rw [add_block]; exact hn101_0) | (show (Addr.add _ _).block ≠ _; rw [add_block]; exact hn101_0) | exact hn101_0) (.int .i64 (wrap64 (s0_1 + 1)))).trans hx101_0
        (try have hy101_0 := fun (n_ : Nat) => (show (((w.drewN n_).setCell ⟨g, 1, none⟩ (.int .i64 (wrap64 (s0_1 + 1))))).cell? _ = some _ from hx101_0))
        clear hn101_0
        replace p101 := eq_true p101
        replace q101 := eq_true q101
        go_enter Tryd.func50, Tryd.ntmps50
        go_wp2_with (first | (go_at_call 13; (with_reducible refine (customsmade_Within.calls (rd s0_0 (ji5)) a1 t102 _ A8.out).mono ?_); rintro e w' ⟨rfl, ⟨nd, rfl⟩⟩; (try first | exact ⟨rfl, _, World.drewN_drewN _ _ _⟩ | exact ⟨rfl, _, Eq.trans (World.drewN_drewN _ _ _) (congrArg (World.drewN _) (Nat.add_assoc _ _ _))⟩)))
        repeat (go_quiet (first | (go_at_call 13; (with_reducible refine (customsmade_Within.calls (rd s0_0 (ji5)) a1 t102 _ A8.out).mono ?_); rintro e w' ⟨rfl, ⟨nd, rfl⟩⟩; (try first | exact ⟨rfl, _, World.drewN_drewN _ _ _⟩ | exact ⟨rfl, _, Eq.trans (World.drewN_drewN _ _ _) (congrArg (World.drewN _) (Nat.add_assoc _ _ _))⟩))); try go_wp2_with (first | (go_at_call 13; (with_reducible refine (customsmade_Within.calls (rd s0_0 (ji5)) a1 t102 _ A8.out).mono ?_); rintro e w' ⟨rfl, ⟨nd, rfl⟩⟩; (try first | exact ⟨rfl, _, World.drewN_drewN _ _ _⟩ | exact ⟨rfl, _, Eq.trans (World.drewN_drewN _ _ _) (congrArg (World.drewN _) (Nat.add_assoc _ _ _))⟩))))
        go_ret
        exact ⟨by first | rfl | (simp [errW_none, errW_some] <;> rfl) | (simp only [← hji5]; first | rfl | (simp [errW_none, errW_some] <;> rfl)) | (simp [*, errW_none, errW_some] <;> rfl), by repeat (first | (with_reducible first | exact HI0.out | apply IsS48.alloc | apply IsS48.drewN | apply IsS48.drew | apply IsS48.set_1) | exact HI0.out), by repeat (first | (with_reducible first | exact HB.out | apply below_alloc | apply pw_below_drewN | apply below_drew1 | refine below_set ?_ (IsS48.ge HI0.out)) | exact HB.out), by repeat (first | (with_reducible first | exact HK.out | apply KeepBut.set_ | apply keep_drewN | apply keep_drew | apply keep_alloc) | exact HK.out)⟩
      · rw [if_neg c7] at H
        exact absurd H (by simp)
    · rw [if_neg c6] at H
      exact absurd H (by simp)

/-! ### customsmade_Source_rate: function 51 -/
def customsmade_Source_rate.f (s0_0 : List Int) (s0_1 : Int) : Option (Int × Int) := (customsmade_Source_Next.f s0_0 s0_1 4).bind fun bt103 => (if bt103.1 > 0 then ((customsmade_Source_Next.f s0_0 bt103.2 101).bind fun bt105 => (some (wrap64 (10000 * bt105.1), bt105.2))) else ((customsmade_Source_Next.f s0_0 bt103.2 1000001).bind fun bt107 => (some (bt107.1, bt107.2))))
set_option maxHeartbeats 8000000 in
set_option maxRecDepth 100000 in
theorem customsmade_Source_rate.calls (g : Nat) (s0_0 : List Int) (s0_1 : Int) (r1 : Int) (r2 : Int) (w0 w : World) (hI : IsS48 w0 w g s0_0 s0_1) (hB : Below w0.heap.size w0 w) (h : customsmade_Source_rate.f s0_0 s0_1 = some (r1, r2)) :
    Calls Tryd.prog 51 #[.pointer (some ⟨g, 0, none⟩)] w fun e w' => e = .returned (.int .i64 r1) ∧ IsS48 w0 w' g s0_0 r2 ∧ Below w0.heap.size w0 w' ∧ KeepBut w w' g none := by
  have HI0 := Aside0.mk hI
  have HK := Aside0.mk (KeepBut.refl w g none)
  have HL := Aside0.mk hB.size
  clear hI
  have HW0 := Aside0.mk hB.size
  have HB := Aside0.mk hB
  clear hB
  have H : ((customsmade_Source_Next.f s0_0 s0_1 4).bind fun bt103 => (if bt103.1 > 0 then ((customsmade_Source_Next.f s0_0 bt103.2 101).bind fun bt105 => (some (wrap64 (10000 * bt105.1), bt105.2))) else ((customsmade_Source_Next.f s0_0 bt103.2 1000001).bind fun bt107 => (some (bt107.1, bt107.2))))) = some (r1, r2) := h
  clear h
  replace H := Option.bind_eq_some_iff.mp H
  obtain ⟨⟨t103, t104⟩, A20, H⟩ := H
  replace H : (if t103 > 0 then ((customsmade_Source_Next.f s0_0 t104 101).bind fun bt105 => (some (wrap64 (10000 * bt105.1), bt105.2))) else ((customsmade_Source_Next.f s0_0 t104 1000001).bind fun bt107 => (some (bt107.1, bt107.2)))) = some (r1, r2) := H
  have A2 := Aside0.mk A20
  clear A20
  by_cases c3 : t103 > 0
  · rw [if_pos c3] at H
    have c3b0 : decide (0 < t103) = true := decide_eq_true c3
    clear c3
    replace H := Option.bind_eq_some_iff.mp H
    obtain ⟨⟨t105, t106⟩, A40, H⟩ := H
    replace H : (some (wrap64 (10000 * t105), t106)) = some (r1, r2) := H
    have A4 := Aside0.mk A40
    clear A40
    simp only [Option.some.injEq, Prod.mk.injEq] at H
    obtain ⟨rfl, rfl⟩ := H
    go_enter Tryd.func51, Tryd.ntmps51
    go_wp2_with (first | ((with_reducible refine gate_callee (f := 50) rfl ?_); refine goesL_ (some 4) rfl rfl Tryd.func50 (by kernel_rfl) rfl #[.pointer (some ⟨g, 0, none⟩), .int .i64 4] rfl (by (try simp only [List.map_toArray, List.map_cons, List.map_nil]); first | done | rfl | (simp only [List.length_drop, List.length_take]; rfl)) ?_; (with_reducible refine (customsmade_Source_Next.calls g s0_0 s0_1 4 t103 t104 w0 _ ?side1 ?side2 A2.out).mono ?_); (case side1 => repeat (first | (with_reducible first | exact HI0.out | apply IsS48.alloc | apply IsS48.drewN | apply IsS48.drew | apply IsS48.set_1) | exact HI0.out)); (case side2 => repeat (first | (with_reducible first | exact HB.out | apply below_alloc | apply pw_below_drewN | apply below_drew1 | refine below_set ?_ (IsS48.ge HI0.out)) | exact HB.out)); rintro e w5 ⟨rfl, hi, hb, hk⟩; refine ⟨_, rfl, ?_⟩; have n0_ := Aside0.mk (KeepBut.trans (by repeat (first | (with_reducible first | exact HK.out | apply KeepBut.set_ | apply keep_drewN | apply keep_drew | apply keep_alloc) | exact HK.out)) hk (.inl rfl)); have n1_ := Aside0.mk (hb); have n2_ := Aside0.mk (hi); clear HK; clear HB; clear HI0; have HK := n0_; have HB := n1_; have HI0 := n2_; clear n0_ n1_ n2_; (try clear hb); (try clear hb2); (try clear hk); (try clear hi)) | ((with_reducible refine gate_callee (f := 50) rfl ?_); refine goesL_ (some 7) rfl rfl Tryd.func50 (by kernel_rfl) rfl #[.pointer (some ⟨g, 0, none⟩), .int .i64 101] rfl (by (try simp only [List.map_toArray, List.map_cons, List.map_nil]); first | done | rfl | (simp only [List.length_drop, List.length_take]; rfl)) ?_; (with_reducible refine (customsmade_Source_Next.calls g s0_0 t104 101 t105 t106 w0 _ ?side1 ?side2 A4.out).mono ?_); (case side1 => repeat (first | (with_reducible first | exact HI0.out | apply IsS48.alloc | apply IsS48.drewN | apply IsS48.drew | apply IsS48.set_1) | exact HI0.out)); (case side2 => repeat (first | (with_reducible first | exact HB.out | apply below_alloc | apply pw_below_drewN | apply below_drew1 | refine below_set ?_ (IsS48.ge HI0.out)) | exact HB.out)); rintro e w6 ⟨rfl, hi, hb, hk⟩; refine ⟨_, rfl, ?_⟩; have n0_ := Aside0.mk (KeepBut.trans (by repeat (first | (with_reducible first | exact HK.out | apply KeepBut.set_ | apply keep_drewN | apply keep_drew | apply keep_alloc) | exact HK.out)) hk (.inl rfl)); have n1_ := Aside0.mk (hb); have n2_ := Aside0.mk (hi); clear HK; clear HB; clear HI0; have HK := n0_; have HB := n1_; have HI0 := n2_; clear n0_ n1_ n2_; (try clear hb); (try clear hb2); (try clear hk); (try clear hi)))
    go_ret
    exact ⟨by first | rfl | (simp [errW_none, errW_some] <;> rfl) | (simp [*, errW_none, errW_some] <;> rfl), by repeat (first | (with_reducible first | exact HI0.out | apply IsS48.alloc | apply IsS48.drewN | apply IsS48.drew | apply IsS48.set_1) | exact HI0.out), by repeat (first | (with_reducible first | exact HB.out | apply below_alloc | apply pw_below_drewN | apply below_drew1 | refine below_set ?_ (IsS48.ge HI0.out)) | exact HB.out), by repeat (first | (with_reducible first | exact HK.out | apply KeepBut.set_ | apply keep_drewN | apply keep_drew | apply keep_alloc) | exact HK.out)⟩
  · rw [if_neg c3] at H
    have c3b0 : decide (0 < t103) = false := decide_eq_false c3
    clear c3
    replace H := Option.bind_eq_some_iff.mp H
    obtain ⟨⟨t107, t108⟩, A70, H⟩ := H
    replace H : (some (t107, t108)) = some (r1, r2) := H
    have A7 := Aside0.mk A70
    clear A70
    simp only [Option.some.injEq, Prod.mk.injEq] at H
    obtain ⟨rfl, rfl⟩ := H
    go_enter Tryd.func51, Tryd.ntmps51
    go_wp2_with (first | ((with_reducible refine gate_callee (f := 50) rfl ?_); refine goesL_ (some 4) rfl rfl Tryd.func50 (by kernel_rfl) rfl #[.pointer (some ⟨g, 0, none⟩), .int .i64 4] rfl (by (try simp only [List.map_toArray, List.map_cons, List.map_nil]); first | done | rfl | (simp only [List.length_drop, List.length_take]; rfl)) ?_; (with_reducible refine (customsmade_Source_Next.calls g s0_0 s0_1 4 t103 t104 w0 _ ?side1 ?side2 A2.out).mono ?_); (case side1 => repeat (first | (with_reducible first | exact HI0.out | apply IsS48.alloc | apply IsS48.drewN | apply IsS48.drew | apply IsS48.set_1) | exact HI0.out)); (case side2 => repeat (first | (with_reducible first | exact HB.out | apply below_alloc | apply pw_below_drewN | apply below_drew1 | refine below_set ?_ (IsS48.ge HI0.out)) | exact HB.out)); rintro e w8 ⟨rfl, hi, hb, hk⟩; refine ⟨_, rfl, ?_⟩; have n0_ := Aside0.mk (KeepBut.trans (by repeat (first | (with_reducible first | exact HK.out | apply KeepBut.set_ | apply keep_drewN | apply keep_drew | apply keep_alloc) | exact HK.out)) hk (.inl rfl)); have n1_ := Aside0.mk (hb); have n2_ := Aside0.mk (hi); clear HK; clear HB; clear HI0; have HK := n0_; have HB := n1_; have HI0 := n2_; clear n0_ n1_ n2_; (try clear hb); (try clear hb2); (try clear hk); (try clear hi)) | ((with_reducible refine gate_callee (f := 50) rfl ?_); refine goesL_ (some 10) rfl rfl Tryd.func50 (by kernel_rfl) rfl #[.pointer (some ⟨g, 0, none⟩), .int .i64 1000001] rfl (by (try simp only [List.map_toArray, List.map_cons, List.map_nil]); first | done | rfl | (simp only [List.length_drop, List.length_take]; rfl)) ?_; (with_reducible refine (customsmade_Source_Next.calls g s0_0 t104 1000001 t107 t108 w0 _ ?side1 ?side2 A7.out).mono ?_); (case side1 => repeat (first | (with_reducible first | exact HI0.out | apply IsS48.alloc | apply IsS48.drewN | apply IsS48.drew | apply IsS48.set_1) | exact HI0.out)); (case side2 => repeat (first | (with_reducible first | exact HB.out | apply below_alloc | apply pw_below_drewN | apply below_drew1 | refine below_set ?_ (IsS48.ge HI0.out)) | exact HB.out)); rintro e w9 ⟨rfl, hi, hb, hk⟩; refine ⟨_, rfl, ?_⟩; have n0_ := Aside0.mk (KeepBut.trans (by repeat (first | (with_reducible first | exact HK.out | apply KeepBut.set_ | apply keep_drewN | apply keep_drew | apply keep_alloc) | exact HK.out)) hk (.inl rfl)); have n1_ := Aside0.mk (hb); have n2_ := Aside0.mk (hi); clear HK; clear HB; clear HI0; have HK := n0_; have HB := n1_; have HI0 := n2_; clear n0_ n1_ n2_; (try clear hb); (try clear hb2); (try clear hk); (try clear hi)))
    go_ret
    exact ⟨by first | rfl | (simp [errW_none, errW_some] <;> rfl) | (simp [*, errW_none, errW_some] <;> rfl), by repeat (first | (with_reducible first | exact HI0.out | apply IsS48.alloc | apply IsS48.drewN | apply IsS48.drew | apply IsS48.set_1) | exact HI0.out), by repeat (first | (with_reducible first | exact HB.out | apply below_alloc | apply pw_below_drewN | apply below_drew1 | refine below_set ?_ (IsS48.ge HI0.out)) | exact HB.out), by repeat (first | (with_reducible first | exact HK.out | apply KeepBut.set_ | apply keep_drewN | apply keep_drew | apply keep_alloc) | exact HK.out)⟩

end Go.Proofs.YtfpkgdkcllobiaaDoor.F
end
section
namespace Go.Proofs.YtfpkgdkcllobiaaDoor.F
open Go.RowKit Go.Proofs.YtfpkgdkcllobiaaDoorW.PrintWords Go.Proofs.YtfpkgdkcllobiaaDoorW.PrintLast Go.Proofs.YtfpkgdkcllobiaaDoorW.PrintMore
attribute [local go_sem] max2_int min2_int max_two min_two max_three min_three max_four min_four   -- for this text's walks alone
set_option linter.unusedVariables false
set_option linter.unusedSimpArgs false

/-! ### customsmade_Source_duty: function 23 -/
mutual
def customsmade_Source_duty.j0 : Nat → List Int → Int → Int → Int → Int → Bool → Int → Bool → Int → Option (Int × Int × Int × Bool × Int × Bool × Int × Int)
  | 0, _, _, _, _, _, _, _, _, _ => none
  | k + 1, x1000, x1001, x111000, x111001, x111002, x111003, x111004, x111005, x111006 => (customsmade_Source_Next.f x1000 x1001 3).bind fun bt115 => (if bt115.1 = 1 then ((customsmade_Source_Next.f x1000 bt115.2 500).bind fun bt117 => ((some (([1, 100, 1000, 1000000, 7] : List Int) : List Int)).bind fun y119 => ((customsmade_Source_Next.f x1000 bt117.2 5).bind fun bt122 => (if 0 ≤ bt122.1 then (if bt122.1 < (y119.length : Int) then (customsmade_Source_duty.j1 k x1000 bt122.2 x111000 (wrap64 (1 + bt117.1)) (rd y119 bt122.1) x111003 x111004 x111005 x111006) else (none)) else (none))))) else (customsmade_Source_duty.j1 k x1000 bt115.2 x111000 x111001 x111002 x111003 x111004 x111005 x111006))
def customsmade_Source_duty.j1 : Nat → List Int → Int → Int → Int → Int → Bool → Int → Bool → Int → Option (Int × Int × Int × Bool × Int × Bool × Int × Int)
  | 0, _, _, _, _, _, _, _, _, _ => none
  | k + 1, x1000, x1001, x111000, x111001, x111002, x111003, x111004, x111005, x111006 => (customsmade_Source_Next.f x1000 x1001 4).bind fun bt125 => (if bt125.1 = 1 then ((customsmade_Source_rate.f x1000 bt125.2).bind fun bt127 => (customsmade_Source_duty.j2 k x1000 bt127.2 x111000 x111001 x111002 true bt127.1 x111005 x111006)) else (customsmade_Source_duty.j2 k x1000 bt125.2 x111000 x111001 x111002 x111003 x111004 x111005 x111006))
def customsmade_Source_duty.j2 : Nat → List Int → Int → Int → Int → Int → Bool → Int → Bool → Int → Option (Int × Int × Int × Bool × Int × Bool × Int × Int)
  | 0, _, _, _, _, _, _, _, _, _ => none
  | k + 1, x1000, x1001, x111000, x111001, x111002, x111003, x111004, x111005, x111006 => (customsmade_Source_Next.f x1000 x1001 4).bind fun bt129 => (if bt129.1 = 1 then ((customsmade_Source_rate.f x1000 bt129.2).bind fun bt131 => (if x111003 = true then (some (x111000, x111001, x111002, x111003, x111004, true, mn (wrap64 (Int.tdiv bt131.1 8)) x111004, bt131.2)) else (some (x111000, x111001, x111002, x111003, x111004, true, wrap64 (Int.tdiv bt131.1 8), bt131.2)))) else (some (x111000, x111001, x111002, x111003, x111004, x111005, x111006, bt129.2)))
end
def customsmade_Source_duty.f (k : Nat) (s0_0 : List Int) (s0_1 : Int) : Option (Int × Int × Int × Bool × Int × Bool × Int × Int) := (customsmade_Source_Next.f s0_0 s0_1 3).bind fun bt111 => (if bt111.1 > 0 then ((customsmade_Source_rate.f s0_0 bt111.2).bind fun bt113 => (customsmade_Source_duty.j0 k s0_0 bt113.2 (wrap64 (Int.tdiv bt113.1 4)) 0 0 false 0 false 0)) else (customsmade_Source_duty.j0 k s0_0 bt111.2 0 0 0 false 0 false 0))
theorem customsmade_Source_duty.mono_l : ∀ k, (∀ y0 y1 y2 y3 y4 y5 y6 y7 y8, LeO (customsmade_Source_duty.j0 k y0 y1 y2 y3 y4 y5 y6 y7 y8) (customsmade_Source_duty.j0 (k + 1) y0 y1 y2 y3 y4 y5 y6 y7 y8)) ∧ (∀ y0 y1 y2 y3 y4 y5 y6 y7 y8, LeO (customsmade_Source_duty.j1 k y0 y1 y2 y3 y4 y5 y6 y7 y8) (customsmade_Source_duty.j1 (k + 1) y0 y1 y2 y3 y4 y5 y6 y7 y8)) ∧ (∀ y0 y1 y2 y3 y4 y5 y6 y7 y8, LeO (customsmade_Source_duty.j2 k y0 y1 y2 y3 y4 y5 y6 y7 y8) (customsmade_Source_duty.j2 (k + 1) y0 y1 y2 y3 y4 y5 y6 y7 y8))
  | 0 => ⟨fun _ _ _ _ _ _ _ _ _ r h => by simp [customsmade_Source_duty.j0] at h, fun _ _ _ _ _ _ _ _ _ r h => by simp [customsmade_Source_duty.j1] at h, fun _ _ _ _ _ _ _ _ _ r h => by simp [customsmade_Source_duty.j2] at h⟩
  | k + 1 => by
    obtain ⟨ih0, ih1, ih2⟩ := customsmade_Source_duty.mono_l k
    refine ⟨?_, ?_, ?_⟩
    · intro y0 y1 y2 y3 y4 y5 y6 y7 y8
      unfold customsmade_Source_duty.j0
      repeat' first
      | (with_reducible exact ih0 _ _ _ _ _ _ _ _ _)
      | (with_reducible exact ih1 _ _ _ _ _ _ _ _ _)
      | (with_reducible exact ih2 _ _ _ _ _ _ _ _ _)
      | (with_reducible exact LeO.refl _)
      | (with_reducible exact LeO.none _)
      | (with_reducible refine LeO.ite ?_ ?_)
      | (with_reducible refine LeO.bind ?_ (fun _ => ?_))
      | exact ih0 _ _ _ _ _ _ _ _ _
      | exact ih1 _ _ _ _ _ _ _ _ _
      | exact ih2 _ _ _ _ _ _ _ _ _
      | exact LeO.none _
      | refine LeO.ite ?_ ?_
      | refine LeO.bind ?_ (fun _ => ?_)
    · intro y0 y1 y2 y3 y4 y5 y6 y7 y8
      unfold customsmade_Source_duty.j1
      repeat' first
      | (with_reducible exact ih0 _ _ _ _ _ _ _ _ _)
      | (with_reducible exact ih1 _ _ _ _ _ _ _ _ _)
      | (with_reducible exact ih2 _ _ _ _ _ _ _ _ _)
      | (with_reducible exact LeO.refl _)
      | (with_reducible exact LeO.none _)
      | (with_reducible refine LeO.ite ?_ ?_)
      | (with_reducible refine LeO.bind ?_ (fun _ => ?_))
      | exact ih0 _ _ _ _ _ _ _ _ _
      | exact ih1 _ _ _ _ _ _ _ _ _
      | exact ih2 _ _ _ _ _ _ _ _ _
      | exact LeO.none _
      | refine LeO.ite ?_ ?_
      | refine LeO.bind ?_ (fun _ => ?_)
    · intro y0 y1 y2 y3 y4 y5 y6 y7 y8
      unfold customsmade_Source_duty.j2
      repeat' first
      | (with_reducible exact ih0 _ _ _ _ _ _ _ _ _)
      | (with_reducible exact ih1 _ _ _ _ _ _ _ _ _)
      | (with_reducible exact ih2 _ _ _ _ _ _ _ _ _)
      | (with_reducible exact LeO.refl _)
      | (with_reducible exact LeO.none _)
      | (with_reducible refine LeO.ite ?_ ?_)
      | (with_reducible refine LeO.bind ?_ (fun _ => ?_))
      | exact ih0 _ _ _ _ _ _ _ _ _
      | exact ih1 _ _ _ _ _ _ _ _ _
      | exact ih2 _ _ _ _ _ _ _ _ _
      | exact LeO.none _
      | refine LeO.ite ?_ ?_
      | refine LeO.bind ?_ (fun _ => ?_)
theorem customsmade_Source_duty.mono : ∀ a0 a1 k, LeO (customsmade_Source_duty.f k a0 a1) (customsmade_Source_duty.f (k + 1) a0 a1) := by
  intro a0 a1 k
  obtain ⟨ih0, ih1, ih2⟩ := customsmade_Source_duty.mono_l k
  unfold customsmade_Source_duty.f
  repeat' first
      | (with_reducible exact ih0 _ _ _ _ _ _ _ _ _)
      | (with_reducible exact ih1 _ _ _ _ _ _ _ _ _)
      | (with_reducible exact ih2 _ _ _ _ _ _ _ _ _)
      | (with_reducible exact LeO.refl _)
      | (with_reducible exact LeO.none _)
      | (with_reducible refine LeO.ite ?_ ?_)
      | (with_reducible refine LeO.bind ?_ (fun _ => ?_))
      | exact ih0 _ _ _ _ _ _ _ _ _
      | exact ih1 _ _ _ _ _ _ _ _ _
      | exact ih2 _ _ _ _ _ _ _ _ _
      | exact LeO.none _
      | refine LeO.ite ?_ ?_
      | refine LeO.bind ?_ (fun _ => ?_)
def customsmade_Source_duty.T5 : Bool × List (List Nat × List Nat) := (true, [([], []), ([0], [0]), ([1], [1]), ([], []), ([], []), ([4, 1], [4]), ([3, 5], [3, 5]), ([6], [6]), ([0, 1, 2], []), ([8, 2, 5, 0, 1, 2], [2, 8]), ([0, 1, 2, 3, 4, 5, 6, 7, 8, 9], []), ([10, 7, 9, 0, 1, 2, 3, 4, 5, 6, 7, 8, 9], [7, 10])])
def customsmade_Source_duty.B5 : List Nat := [0, 1, 3, 0, 0, 19, 59, 123, 7, 311, 1023, 2047]
theorem customsmade_Source_duty.tab5 : rtab .any (opsOf Tryd.f23 5) = customsmade_Source_duty.T5 := by kernel_rfl
theorem customsmade_Source_duty.bits5 : waitsOk customsmade_Source_duty.T5.2 customsmade_Source_duty.B5 = true := by kernel_rfl
set_option maxHeartbeats 8000000 in
set_option maxRecDepth 100000 in
theorem customsmade_Source_duty.calls (k : Nat) (g : Nat) (s0_0 : List Int) (s0_1 : Int) (r1 : Int) (r2 : Int) (r3 : Int) (r4 : Bool) (r5 : Int) (r6 : Bool) (r7 : Int) (r8 : Int) (w0 w : World) (hI : IsS48 w0 w g s0_0 s0_1) (hB : Below w0.heap.size w0 w) (h : customsmade_Source_duty.f k s0_0 s0_1 = some (r1, r2, r3, r4, r5, r6, r7, r8)) :
    Calls Tryd.prog 23 #[.pointer (some ⟨g, 0, none⟩)] w fun e w' => e = .returned (.agg #[.int .i64 r1, .int .i64 r2, .int .i64 r3, .bool r4, .int .i64 r5, .bool r6, .int .i64 r7]) ∧ IsS48 w0 w' g s0_0 r8 ∧ Below w0.heap.size w0 w' ∧ KeepBut w w' g none := by
  have hu23 := Tryd.underlying23
  have HI0 := Aside0.mk hI
  have HK := Aside0.mk (KeepBut.refl w g none)
  have HL := Aside0.mk hB.size
  clear hI
  have HW0 := Aside0.mk hB.size
  have HB := Aside0.mk hB
  clear hB
  have H : ((customsmade_Source_Next.f s0_0 s0_1 3).bind fun bt111 => (if bt111.1 > 0 then ((customsmade_Source_rate.f s0_0 bt111.2).bind fun bt113 => (customsmade_Source_duty.j0 k s0_0 bt113.2 (wrap64 (Int.tdiv bt113.1 4)) 0 0 false 0 false 0)) else (customsmade_Source_duty.j0 k s0_0 bt111.2 0 0 0 false 0 false 0))) = some (r1, r2, r3, r4, r5, r6, r7, r8) := h
  clear h
  replace H := Option.bind_eq_some_iff.mp H
  obtain ⟨⟨t111, t112⟩, A20, H⟩ := H
  replace H : (if t111 > 0 then ((customsmade_Source_rate.f s0_0 t112).bind fun bt113 => (customsmade_Source_duty.j0 k s0_0 bt113.2 (wrap64 (Int.tdiv bt113.1 4)) 0 0 false 0 false 0)) else (customsmade_Source_duty.j0 k s0_0 t112 0 0 0 false 0 false 0)) = some (r1, r2, r3, r4, r5, r6, r7, r8) := H
  have A2 := Aside0.mk A20
  clear A20
  have HC3 := Aside0.mk H
  clear H
  go_enter Tryd.func23, Tryd.ntmps23
  go_upto_if 7 with (first | ((with_reducible refine gate_dst (N := 2) rfl ?_); refine box_event ?hg (N := 2) ?hd (cs := #[.int .i64 0, .int .i64 0, .int .i64 0, .bool false, .int .i64 0, .bool false, .int .i64 0]) (t := 23) ?hr ?_; (case hd => rfl); (case hg => rfl); (case hr => first | (go_simp; done) | (go_simp; rfl)); intro gb109 hg w4 hbox hb; have n0_ := Aside0.mk (IsS48.below (by repeat (first | (with_reducible first | exact HI0.out | apply IsS48.alloc | apply IsS48.drewN | apply IsS48.drew | apply IsS48.set_1) | exact HI0.out)) hb); have n1_ := Aside0.mk (KeepBut.trans (by repeat (first | (with_reducible first | exact HK.out | apply KeepBut.set_ | apply keep_drewN | apply keep_drew | apply keep_alloc) | exact HK.out)) (KeepBut.of_below hb g none) (.inl rfl)); have n2_ := Aside0.mk (below_step (by repeat (first | (with_reducible first | exact HB.out | apply below_alloc | apply pw_below_drewN | apply below_drew1 | refine below_set ?_ (IsS48.ge HI0.out)) | exact HB.out)) hb); have n3_ := Aside0.mk (hbox); have n4_ := Aside0.mk ((by rw [hg]; exact (keep_size (w := w) (g := g) (row := none) (by repeat (first | (with_reducible first | exact HK.out | apply KeepBut.set_ | apply keep_drewN | apply keep_drew | apply keep_alloc) | exact HK.out))) : w.heap.size ≤ gb109)); have n5_ := Aside0.mk ((Nat.le_trans HW0.out (by rw [hg]; exact (keep_size (w := w) (g := g) (row := none) (by repeat (first | (with_reducible first | exact HK.out | apply KeepBut.set_ | apply keep_drewN | apply keep_drew | apply keep_alloc) | exact HK.out))) : w.heap.size ≤ gb109) : w0.heap.size ≤ gb109)); have n6_ := Aside0.mk ((by rw [hg]; exact Nat.ne_of_lt (IsS48.lt (show IsS48 w0 _ g s0_0 s0_1 from by repeat (first | (with_reducible first | exact HI0.out | apply IsS48.alloc | apply IsS48.drewN | apply IsS48.drew | apply IsS48.set_1) | exact HI0.out))) : g ≠ gb109)); have n7_ := Aside0.mk ((by rw [hg]; exact Nat.ne_of_gt (IsS48.lt (show IsS48 w0 _ g s0_0 s0_1 from by repeat (first | (with_reducible first | exact HI0.out | apply IsS48.alloc | apply IsS48.drewN | apply IsS48.drew | apply IsS48.set_1) | exact HI0.out))) : gb109 ≠ g)); clear HI0; clear HK; clear HB; have HI0 := n0_; have HK := n1_; have HB := n2_; have BK109 := n3_; have GW109 := n4_; have GE109 := n5_; have NB0_109 := n6_; have NB109_0 := n7_; clear n0_ n1_ n2_ n3_ n4_ n5_ n6_ n7_; clear hb hbox hg) | ((with_reducible refine gate_dst (N := 3) rfl ?_); refine box_event ?hg (N := 3) ?hd (cs := #[.int .i64 0, .int .i64 0, .int .i64 0, .bool false, .int .i64 0, .bool false, .int .i64 0]) (t := 23) ?hr ?_; (case hd => rfl); (case hg => rfl); (case hr => first | (go_simp; done) | (go_simp; rfl)); intro gb110 hg w5 hbox hb; have n0_ := Aside0.mk (IsS48.below (by repeat (first | (with_reducible first | exact HI0.out | apply IsS48.alloc | apply IsS48.drewN | apply IsS48.drew | apply IsS48.set_1 | refine IsS48.far ?_ NB0_109.out _) | exact HI0.out)) hb); have n1_ := Aside0.mk (blk_below (g := gb109) (o := .cells #[.int .i64 0, .int .i64 0, .int .i64 0, .bool false, .int .i64 0, .bool false, .int .i64 0] 23 (0, 0)) (by (with_reducible repeat (first | refine blk_drewN ?_ _ | refine blk_drew ?_ | refine blk_alloc ?_ _)); exact BK109.out) hb); have n2_ := Aside0.mk (KeepBut.trans (by repeat (first | (with_reducible first | exact HK.out | apply KeepBut.set_ | apply keep_drewN | apply keep_drew | apply keep_alloc | refine keep_far ?_ GW109.out _) | exact HK.out)) (KeepBut.of_below hb g none) (.inl rfl)); have n3_ := Aside0.mk (below_step (by repeat (first | (with_reducible first | exact HB.out | apply below_alloc | apply pw_below_drewN | apply below_drew1 | refine below_set ?_ (IsS48.ge HI0.out) | refine below_set ?_ GE109.out) | exact HB.out)) hb); have n4_ := Aside0.mk (hbox); have n5_ := Aside0.mk ((by rw [hg]; exact (keep_size (w := w) (g := g) (row := none) (by repeat (first | (with_reducible first | exact HK.out | apply KeepBut.set_ | apply keep_drewN | apply keep_drew | apply keep_alloc | refine keep_far ?_ GW109.out _) | exact HK.out))) : w.heap.size ≤ gb110)); have n6_ := Aside0.mk ((Nat.le_trans HW0.out (by rw [hg]; exact (keep_size (w := w) (g := g) (row := none) (by repeat (first | (with_reducible first | exact HK.out | apply KeepBut.set_ | apply keep_drewN | apply keep_drew | apply keep_alloc | refine keep_far ?_ GW109.out _) | exact HK.out))) : w.heap.size ≤ gb110) : w0.heap.size ≤ gb110)); have n7_ := Aside0.mk ((by rw [hg]; exact Nat.ne_of_lt (blk_lt (g := gb109) (o := .cells #[.int .i64 0, .int .i64 0, .int .i64 0, .bool false, .int .i64 0, .bool false, .int .i64 0] 23 (0, 0)) (by (with_reducible repeat (first | refine blk_drewN ?_ _ | refine blk_drew ?_ | refine blk_alloc ?_ _)); exact BK109.out)) : gb109 ≠ gb110)); have n8_ := Aside0.mk ((by rw [hg]; exact Nat.ne_of_gt (blk_lt (g := gb109) (o := .cells #[.int .i64 0, .int .i64 0, .int .i64 0, .bool false, .int .i64 0, .bool false, .int .i64 0] 23 (0, 0)) (by (with_reducible repeat (first | refine blk_drewN ?_ _ | refine blk_drew ?_ | refine blk_alloc ?_ _)); exact BK109.out)) : gb110 ≠ gb109)); have n9_ := Aside0.mk ((by rw [hg]; exact Nat.ne_of_lt (IsS48.lt (show IsS48 w0 _ g s0_0 s0_1 from by repeat (first | (with_reducible first | exact HI0.out | apply IsS48.alloc | apply IsS48.drewN | apply IsS48.drew | apply IsS48.set_1 | refine IsS48.far ?_ NB0_109.out _) | exact HI0.out))) : g ≠ gb110)); have n10_ := Aside0.mk ((by rw [hg]; exact Nat.ne_of_gt (IsS48.lt (show IsS48 w0 _ g s0_0 s0_1 from by repeat (first | (with_reducible first | exact HI0.out | apply IsS48.alloc | apply IsS48.drewN | apply IsS48.drew | apply IsS48.set_1 | refine IsS48.far ?_ NB0_109.out _) | exact HI0.out))) : gb110 ≠ g)); clear HI0; clear BK109; clear HK; clear HB; have HI0 := n0_; have BK109 := n1_; have HK := n2_; have HB := n3_; have BK110 := n4_; have GW110 := n5_; have GE110 := n6_; have NB109_110 := n7_; have NB110_109 := n8_; have NB0_110 := n9_; have NB110_0 := n10_; clear n0_ n1_ n2_ n3_ n4_ n5_ n6_ n7_ n8_ n9_ n10_; clear hb hbox hg; have hnb6 := NB110_109.out; have hnc6 := NB109_110.out; have hnb7 := NB110_0.out; have hnc7 := NB0_110.out; have hcz8_0 : w5.cell? ⟨gb110, 0, none⟩ = some (.int .i64 0) := (blk_cell BK110.out 0).trans rfl; have hcz8_1 : w5.cell? ⟨gb110, 1, none⟩ = some (.int .i64 0) := (blk_cell BK110.out 1).trans rfl; have hcz8_2 : w5.cell? ⟨gb110, 2, none⟩ = some (.int .i64 0) := (blk_cell BK110.out 2).trans rfl; have hcz8_3 : w5.cell? ⟨gb110, 3, none⟩ = some (.bool false) := (blk_cell BK110.out 3).trans rfl; have hcz8_4 : w5.cell? ⟨gb110, 4, none⟩ = some (.int .i64 0) := (blk_cell BK110.out 4).trans rfl; have hcz8_5 : w5.cell? ⟨gb110, 5, none⟩ = some (.bool false) := (blk_cell BK110.out 5).trans rfl; have hcz8_6 : w5.cell? ⟨gb110, 6, none⟩ = some (.int .i64 0) := (blk_cell BK110.out 6).trans rfl; have hfz8_0 := blk_frozen BK110.out 0; have hfz8_1 := blk_frozen BK110.out 1; have hfz8_2 := blk_frozen BK110.out 2; have hfz8_3 := blk_frozen BK110.out 3; have hfz8_4 := blk_frozen BK110.out 4; have hfz8_5 := blk_frozen BK110.out 5; have hfz8_6 := blk_frozen BK110.out 6) | ((with_reducible refine gate_callee (f := 50) rfl ?_); refine goesL_ (some 6) rfl rfl Tryd.func50 (by kernel_rfl) rfl #[.pointer (some ⟨g, 0, none⟩), .int .i64 3] rfl (by (try simp only [List.map_toArray, List.map_cons, List.map_nil]); first | done | rfl | (simp only [List.length_drop, List.length_take]; rfl)) ?_; (with_reducible refine (customsmade_Source_Next.calls g s0_0 s0_1 3 t111 t112 w0 _ ?side1 ?side2 A2.out).mono ?_); (case side1 => repeat (first | (with_reducible first | exact HI0.out | apply IsS48.alloc | apply IsS48.drewN | apply IsS48.drew | apply IsS48.set_1 | refine IsS48.far ?_ NB0_109.out _ | refine IsS48.far ?_ NB0_110.out _) | exact HI0.out)); (case side2 => repeat (first | (with_reducible first | exact HB.out | apply below_alloc | apply pw_below_drewN | apply below_drew1 | refine below_set ?_ (IsS48.ge HI0.out) | refine below_set ?_ GE109.out | refine below_set ?_ GE110.out) | exact HB.out)); rintro e w9 ⟨rfl, hi, hb, hk⟩; refine ⟨_, rfl, ?_⟩; have n0_ := Aside0.mk (KeepBut.blk hk (g' := gb109) (o := .cells #[.int .i64 0, .int .i64 0, .int .i64 0, .bool false, .int .i64 0, .bool false, .int .i64 0] 23 (0, 0)) (by (with_reducible repeat (first | refine blk_drewN ?_ _ | refine blk_drew ?_ | refine blk_alloc ?_ _)); refine blk_far ?_ NB109_110.out _; (with_reducible repeat (first | refine blk_drewN ?_ _ | refine blk_drew ?_ | refine blk_alloc ?_ _)); refine blk_far ?_ NB109_110.out _; (with_reducible repeat (first | refine blk_drewN ?_ _ | refine blk_drew ?_ | refine blk_alloc ?_ _)); refine blk_far ?_ NB109_110.out _; (with_reducible repeat (first | refine blk_drewN ?_ _ | refine blk_drew ?_ | refine blk_alloc ?_ _)); refine blk_far ?_ NB109_110.out _; (with_reducible repeat (first | refine blk_drewN ?_ _ | refine blk_drew ?_ | refine blk_alloc ?_ _)); refine blk_far ?_ NB109_110.out _; (with_reducible repeat (first | refine blk_drewN ?_ _ | refine blk_drew ?_ | refine blk_alloc ?_ _)); refine blk_far ?_ NB109_110.out _; (with_reducible repeat (first | refine blk_drewN ?_ _ | refine blk_drew ?_ | refine blk_alloc ?_ _)); refine blk_far ?_ NB109_110.out _; (with_reducible repeat (first | refine blk_drewN ?_ _ | refine blk_drew ?_ | refine blk_alloc ?_ _)); exact BK109.out) NB109_0.out (by simp)); have n1_ := Aside0.mk (KeepBut.blk hk (g' := gb110) (o := .cells #[.int .i64 0, .int .i64 0, .int .i64 0, .bool false, .int .i64 0, .bool false, .int .i64 0] 23 (0, 0)) (by (with_reducible repeat (first | refine blk_drewN ?_ _ | refine blk_drew ?_ | refine blk_alloc ?_ _)); refine blk_put (cs := #[.int .i64 0, .int .i64 0, .int .i64 0, .bool false, .int .i64 0, .bool false, .int .i64 0]) ?_ 6 _ rfl; (with_reducible repeat (first | refine blk_drewN ?_ _ | refine blk_drew ?_ | refine blk_alloc ?_ _)); refine blk_put (cs := #[.int .i64 0, .int .i64 0, .int .i64 0, .bool false, .int .i64 0, .bool false, .int .i64 0]) ?_ 5 _ rfl; (with_reducible repeat (first | refine blk_drewN ?_ _ | refine blk_drew ?_ | refine blk_alloc ?_ _)); refine blk_put (cs := #[.int .i64 0, .int .i64 0, .int .i64 0, .bool false, .int .i64 0, .bool false, .int .i64 0]) ?_ 4 _ rfl; (with_reducible repeat (first | refine blk_drewN ?_ _ | refine blk_drew ?_ | refine blk_alloc ?_ _)); refine blk_put (cs := #[.int .i64 0, .int .i64 0, .int .i64 0, .bool false, .int .i64 0, .bool false, .int .i64 0]) ?_ 3 _ rfl; (with_reducible repeat (first | refine blk_drewN ?_ _ | refine blk_drew ?_ | refine blk_alloc ?_ _)); refine blk_put (cs := #[.int .i64 0, .int .i64 0, .int .i64 0, .bool false, .int .i64 0, .bool false, .int .i64 0]) ?_ 2 _ rfl; (with_reducible repeat (first | refine blk_drewN ?_ _ | refine blk_drew ?_ | refine blk_alloc ?_ _)); refine blk_put (cs := #[.int .i64 0, .int .i64 0, .int .i64 0, .bool false, .int .i64 0, .bool false, .int .i64 0]) ?_ 1 _ rfl; (with_reducible repeat (first | refine blk_drewN ?_ _ | refine blk_drew ?_ | refine blk_alloc ?_ _)); refine blk_put (cs := #[.int .i64 0, .int .i64 0, .int .i64 0, .bool false, .int .i64 0, .bool false, .int .i64 0]) ?_ 0 _ rfl; (with_reducible repeat (first | refine blk_drewN ?_ _ | refine blk_drew ?_ | refine blk_alloc ?_ _)); exact BK110.out) NB110_0.out (by simp)); have n2_ := Aside0.mk (KeepBut.trans (by repeat (first | (with_reducible first | exact HK.out | apply KeepBut.set_ | apply keep_drewN | apply keep_drew | apply keep_alloc | refine keep_far ?_ GW109.out _ | refine keep_far ?_ GW110.out _) | exact HK.out)) hk (.inl rfl)); have n3_ := Aside0.mk (hb); have n4_ := Aside0.mk (hi); clear BK109; clear BK110; clear HK; clear HB; clear HI0; have BK109 := n0_; have BK110 := n1_; have HK := n2_; have HB := n3_; have HI0 := n4_; clear n0_ n1_ n2_ n3_ n4_; (try clear hb); (try clear hb2); (try clear hk); (try clear hi)))
  (try simp only [Act.put, List.setIfInBounds_toArray, List.set_cons_zero, List.set_cons_succ])
  go_cut [] (fun wc => ∃ (kq : Nat) (x1001_2 : Int) (x111000_2 : Int), Aside0 (customsmade_Source_duty.j0 kq s0_0 x1001_2 x111000_2 0 0 false 0 false 0 = some (r1, r2, r3, r4, r5, r6, r7, r8)) ∧ Aside0 (kq ≤ k) ∧ Aside0 (wc.heap[gb109]? = some (.cells #[.int .i64 0, .int .i64 0, .int .i64 0, .bool false, .int .i64 0, .bool false, .int .i64 0] 23 (0, 0))) ∧ Aside0 (wc.heap[gb110]? = some (.cells #[.int .i64 x111000_2, .int .i64 0, .int .i64 0, .bool false, .int .i64 0, .bool false, .int .i64 0] 23 (0, 0))) ∧ Aside0 (IsS48 w0 wc g s0_0 x1001_2) ∧ Aside0 (KeepBut w wc g none) ∧ Aside0 (Below w0.heap.size w0 wc))
  case first =>
    have H := HC3.out
    clear HC3
    by_cases c10 : t111 > 0
    · rw [if_pos c10] at H
      have c10b0 : decide (0 < t111) = true := decide_eq_true c10
      clear c10
      (first | rw [c10b0] | (simp only [i64_w, i32_w]; rw [c10b0]) | skip)
      replace H := Option.bind_eq_some_iff.mp H
      obtain ⟨⟨t113, t114⟩, A110, H⟩ := H
      replace H : (customsmade_Source_duty.j0 k s0_0 t114 (wrap64 (Int.tdiv t113 4)) 0 0 false 0 false 0) = some (r1, r2, r3, r4, r5, r6, r7, r8) := H
      have A11 := Aside0.mk A110
      clear A110
      have H' := Aside0.mk H
      clear H
      go_wp2_with (first | ((with_reducible refine gate_callee (f := 51) rfl ?_); refine goesL_ (some 9) rfl rfl Tryd.func51 (by kernel_rfl) rfl #[.pointer (some ⟨g, 0, none⟩)] rfl (by (try simp only [List.map_toArray, List.map_cons, List.map_nil]); first | done | rfl | (simp only [List.length_drop, List.length_take]; rfl)) ?_; (with_reducible refine (customsmade_Source_rate.calls g s0_0 t112 t113 t114 w0 _ ?side1 ?side2 A11.out).mono ?_); (case side1 => repeat (first | (with_reducible first | exact HI0.out | apply IsS48.alloc | apply IsS48.drewN | apply IsS48.drew | apply IsS48.set_1 | refine IsS48.far ?_ NB0_109.out _ | refine IsS48.far ?_ NB0_110.out _) | exact HI0.out)); (case side2 => repeat (first | (with_reducible first | exact HB.out | apply below_alloc | apply pw_below_drewN | apply below_drew1 | refine below_set ?_ (IsS48.ge HI0.out) | refine below_set ?_ GE109.out | refine below_set ?_ GE110.out) | exact HB.out)); rintro e w12 ⟨rfl, hi, hb, hk⟩; refine ⟨_, rfl, ?_⟩; have n0_ := Aside0.mk (KeepBut.blk hk (g' := gb109) (o := .cells #[.int .i64 0, .int .i64 0, .int .i64 0, .bool false, .int .i64 0, .bool false, .int .i64 0] 23 (0, 0)) (by (with_reducible repeat (first | refine blk_drewN ?_ _ | refine blk_drew ?_ | refine blk_alloc ?_ _)); exact BK109.out) NB109_0.out (by simp)); have n1_ := Aside0.mk (KeepBut.blk hk (g' := gb110) (o := .cells #[.int .i64 0, .int .i64 0, .int .i64 0, .bool false, .int .i64 0, .bool false, .int .i64 0] 23 (0, 0)) (by (with_reducible repeat (first | refine blk_drewN ?_ _ | refine blk_drew ?_ | refine blk_alloc ?_ _)); exact BK110.out) NB110_0.out (by simp)); have n2_ := Aside0.mk (KeepBut.trans (by repeat (first | (with_reducible first | exact HK.out | apply KeepBut.set_ | apply keep_drewN | apply keep_drew | apply keep_alloc | refine keep_far ?_ GW109.out _ | refine keep_far ?_ GW110.out _) | exact HK.out)) hk (.inl rfl)); have n3_ := Aside0.mk (hb); have n4_ := Aside0.mk (hi); clear BK109; clear BK110; clear HK; clear HB; clear HI0; have BK109 := n0_; have BK110 := n1_; have HK := n2_; have HB := n3_; have HI0 := n4_; clear n0_ n1_ n2_ n3_ n4_; (try clear hb); (try clear hb2); (try clear hk); (try clear hi); have hnb13 := NB110_109.out; have hnc13 := NB109_110.out; have hnb14 := NB110_0.out; have hnc14 := NB0_110.out; have hcz15_0 : w12.cell? ⟨gb110, 0, none⟩ = some (.int .i64 0) := (blk_cell BK110.out 0).trans rfl; have hcz15_1 : w12.cell? ⟨gb110, 1, none⟩ = some (.int .i64 0) := (blk_cell BK110.out 1).trans rfl; have hcz15_2 : w12.cell? ⟨gb110, 2, none⟩ = some (.int .i64 0) := (blk_cell BK110.out 2).trans rfl; have hcz15_3 : w12.cell? ⟨gb110, 3, none⟩ = some (.bool false) := (blk_cell BK110.out 3).trans rfl; have hcz15_4 : w12.cell? ⟨gb110, 4, none⟩ = some (.int .i64 0) := (blk_cell BK110.out 4).trans rfl; have hcz15_5 : w12.cell? ⟨gb110, 5, none⟩ = some (.bool false) := (blk_cell BK110.out 5).trans rfl; have hcz15_6 : w12.cell? ⟨gb110, 6, none⟩ = some (.int .i64 0) := (blk_cell BK110.out 6).trans rfl; have hfz15_0 := blk_frozen BK110.out 0; have hfz15_1 := blk_frozen BK110.out 1; have hfz15_2 := blk_frozen BK110.out 2; have hfz15_3 := blk_frozen BK110.out 3; have hfz15_4 := blk_frozen BK110.out 4; have hfz15_5 := blk_frozen BK110.out 5; have hfz15_6 := blk_frozen BK110.out 6))
      go_meet
      case rel => exact ⟨_, (t114), (wrap64 (Int.tdiv t113 4)), H', ⟨by first | omega | exact Nat.le_refl _⟩, ⟨by (with_reducible repeat (first | refine blk_drewN ?_ _ | refine blk_drew ?_ | refine blk_alloc ?_ _)); refine blk_far ?_ NB109_110.out _; (with_reducible repeat (first | refine blk_drewN ?_ _ | refine blk_drew ?_ | refine blk_alloc ?_ _)); exact BK109.out⟩, ⟨by (with_reducible repeat (first | refine blk_drewN ?_ _ | refine blk_drew ?_ | refine blk_alloc ?_ _)); refine blk_put (cs := #[.int .i64 0, .int .i64 0, .int .i64 0, .bool false, .int .i64 0, .bool false, .int .i64 0]) ?_ 0 _ rfl; (with_reducible repeat (first | refine blk_drewN ?_ _ | refine blk_drew ?_ | refine blk_alloc ?_ _)); exact BK110.out⟩, ⟨by repeat (first | (with_reducible first | exact HI0.out | apply IsS48.alloc | apply IsS48.drewN | apply IsS48.drew | apply IsS48.set_1 | refine IsS48.far ?_ NB0_109.out _ | refine IsS48.far ?_ NB0_110.out _) | exact HI0.out)⟩, ⟨by repeat (first | (with_reducible first | exact HK.out | apply KeepBut.set_ | apply keep_drewN | apply keep_drew | apply keep_alloc | refine keep_far ?_ GW109.out _ | refine keep_far ?_ GW110.out _) | exact HK.out)⟩, ⟨by repeat (first | (with_reducible first | exact HB.out | apply below_alloc | apply pw_below_drewN | apply below_drew1 | refine below_set ?_ (IsS48.ge HI0.out) | refine below_set ?_ GE109.out | refine below_set ?_ GE110.out) | exact HB.out)⟩⟩
    · rw [if_neg c10] at H
      have c10b0 : decide (0 < t111) = false := decide_eq_false c10
      clear c10
      (first | rw [c10b0] | (simp only [i64_w, i32_w]; rw [c10b0]) | skip)
      have H' := Aside0.mk H
      clear H
      go_wp2
      go_meet
      case rel => exact ⟨_, (t112), (0), H', ⟨by first | omega | exact Nat.le_refl _⟩, ⟨by (with_reducible repeat (first | refine blk_drewN ?_ _ | refine blk_drew ?_ | refine blk_alloc ?_ _)); exact BK109.out⟩, ⟨by (with_reducible repeat (first | refine blk_drewN ?_ _ | refine blk_drew ?_ | refine blk_alloc ?_ _)); exact BK110.out⟩, ⟨by repeat (first | (with_reducible first | exact HI0.out | apply IsS48.alloc | apply IsS48.drewN | apply IsS48.drew | apply IsS48.set_1 | refine IsS48.far ?_ NB0_109.out _ | refine IsS48.far ?_ NB0_110.out _) | exact HI0.out)⟩, ⟨by repeat (first | (with_reducible first | exact HK.out | apply KeepBut.set_ | apply keep_drewN | apply keep_drew | apply keep_alloc | refine keep_far ?_ GW109.out _ | refine keep_far ?_ GW110.out _) | exact HK.out)⟩, ⟨by repeat (first | (with_reducible first | exact HB.out | apply below_alloc | apply pw_below_drewN | apply below_drew1 | refine below_set ?_ (IsS48.ge HI0.out) | refine below_set ?_ GE109.out | refine below_set ?_ GE110.out) | exact HB.out)⟩⟩
  case rest =>
    clear HC3
    try clear c1
    try clear c2
    try clear p2
    try clear c5
    try clear c6
    try clear p6
    try clear c7
    try clear c10
    try clear c10b0
    try clear c13
    try clear c14
    try clear hcz15_0
    try clear hcz15_1
    try clear hcz15_2
    try clear hcz15_3
    try clear hcz15_4
    try clear hcz15_5
    try clear hcz15_6
    try clear hcz8_0
    try clear hcz8_1
    try clear hcz8_2
    try clear hcz8_3
    try clear hcz8_4
    try clear hcz8_5
    try clear hcz8_6
    try clear hfz15_0
    try clear hfz15_1
    try clear hfz15_2
    try clear hfz15_3
    try clear hfz15_4
    try clear hfz15_5
    try clear hfz15_6
    try clear hfz8_0
    try clear hfz8_1
    try clear hfz8_2
    try clear hfz8_3
    try clear hfz8_4
    try clear hfz8_5
    try clear hfz8_6
    obtain ⟨kq, x1001_2, x111000_2, HA, HJ2, BK109, BK110, HI0, HK, HB⟩ := hcut
    cases kq with
    | zero => exact absurd HA.out (by simp [customsmade_Source_duty.j0])
    | succ kj2 =>
      have H := HA.out
      clear HA
      simp only [customsmade_Source_duty.j0] at H
      replace H := Option.bind_eq_some_iff.mp H
      obtain ⟨⟨t115, t116⟩, A160, H⟩ := H
      replace H : (if t115 = 1 then ((customsmade_Source_Next.f s0_0 t116 500).bind fun bt117 => ((some (([1, 100, 1000, 1000000, 7] : List Int) : List Int)).bind fun y119 => ((customsmade_Source_Next.f s0_0 bt117.2 5).bind fun bt122 => (if 0 ≤ bt122.1 then (if bt122.1 < (y119.length : Int) then (customsmade_Source_duty.j1 kj2 s0_0 bt122.2 x111000_2 (wrap64 (1 + bt117.1)) (rd y119 bt122.1) false 0 false 0) else (none)) else (none))))) else (customsmade_Source_duty.j1 kj2 s0_0 t116 x111000_2 0 0 false 0 false 0)) = some (r1, r2, r3, r4, r5, r6, r7, r8) := H
      have A16 := Aside0.mk A160
      clear A160
      have HC17 := Aside0.mk H
      clear H
      go_upto_if 14 with (first | ((with_reducible refine gate_callee (f := 50) rfl ?_); refine goesL_ (some 13) rfl rfl Tryd.func50 (by kernel_rfl) rfl #[.pointer (some ⟨g, 0, none⟩), .int .i64 3] rfl (by (try simp only [List.map_toArray, List.map_cons, List.map_nil]); first | done | rfl | (simp only [List.length_drop, List.length_take]; rfl)) ?_; (with_reducible refine (customsmade_Source_Next.calls g s0_0 x1001_2 3 t115 t116 w0 _ ?side1 ?side2 A16.out).mono ?_); (case side1 => repeat (first | (with_reducible first | exact HI0.out | apply IsS48.alloc | apply IsS48.drewN | apply IsS48.drew | apply IsS48.set_1 | refine IsS48.far ?_ NB0_109.out _ | refine IsS48.far ?_ NB0_110.out _) | exact HI0.out)); (case side2 => repeat (first | (with_reducible first | exact HB.out | apply below_alloc | apply pw_below_drewN | apply below_drew1 | refine below_set ?_ (IsS48.ge HI0.out) | refine below_set ?_ GE109.out | refine below_set ?_ GE110.out) | exact HB.out)); rintro e w18 ⟨rfl, hi, hb, hk⟩; refine ⟨_, rfl, ?_⟩; have n0_ := Aside0.mk (KeepBut.blk hk (g' := gb109) (o := .cells #[.int .i64 0, .int .i64 0, .int .i64 0, .bool false, .int .i64 0, .bool false, .int .i64 0] 23 (0, 0)) (by (with_reducible repeat (first | refine blk_drewN ?_ _ | refine blk_drew ?_ | refine blk_alloc ?_ _)); exact BK109.out) NB109_0.out (by simp)); have n1_ := Aside0.mk (KeepBut.blk hk (g' := gb110) (o := .cells #[.int .i64 x111000_2, .int .i64 0, .int .i64 0, .bool false, .int .i64 0, .bool false, .int .i64 0] 23 (0, 0)) (by (with_reducible repeat (first | refine blk_drewN ?_ _ | refine blk_drew ?_ | refine blk_alloc ?_ _)); exact BK110.out) NB110_0.out (by simp)); have n2_ := Aside0.mk (KeepBut.trans (by repeat (first | (with_reducible first | exact HK.out | apply KeepBut.set_ | apply keep_drewN | apply keep_drew | apply keep_alloc | refine keep_far ?_ GW109.out _ | refine keep_far ?_ GW110.out _) | exact HK.out)) hk (.inl rfl)); have n3_ := Aside0.mk (hb); have n4_ := Aside0.mk (hi); clear BK109; clear BK110; clear HK; clear HB; clear HI0; have BK109 := n0_; have BK110 := n1_; have HK := n2_; have HB := n3_; have HI0 := n4_; clear n0_ n1_ n2_ n3_ n4_; (try clear hb); (try clear hb2); (try clear hk); (try clear hi)))
      (try simp only [Act.put, List.setIfInBounds_toArray, List.set_cons_zero, List.set_cons_succ])
      go_cut [] (fun wc => ∃ (kq : Nat) (x1001_16 : Int) (x111001_16 : Int) (x111002_16 : Int), Aside0 (customsmade_Source_duty.j1 kq s0_0 x1001_16 x111000_2 x111001_16 x111002_16 false 0 false 0 = some (r1, r2, r3, r4, r5, r6, r7, r8)) ∧ Aside0 (kq ≤ kj2) ∧ Aside0 (wc.heap[gb109]? = some (.cells #[.int .i64 0, .int .i64 0, .int .i64 0, .bool false, .int .i64 0, .bool false, .int .i64 0] 23 (0, 0))) ∧ Aside0 (wc.heap[gb110]? = some (.cells #[.int .i64 x111000_2, .int .i64 x111001_16, .int .i64 x111002_16, .bool false, .int .i64 0, .bool false, .int .i64 0] 23 (0, 0))) ∧ Aside0 (IsS48 w0 wc g s0_0 x1001_16) ∧ Aside0 (KeepBut w wc g none) ∧ Aside0 (Below w0.heap.size w0 wc))
      case first =>
        have H := HC17.out
        clear HC17
        by_cases c19 : t115 = 1
        · rw [if_pos c19] at H
          have c19b0 : (t115 == 1) = true := beq_iff_eq.mpr c19
          have c19b1 : (t115 != 1) = false := bne_eq_false_iff_eq.mpr c19
          clear c19
          (first | rw [c19b0] | (simp only [i64_w, i32_w]; rw [c19b0]) | skip)
          replace H := Option.bind_eq_some_iff.mp H
          obtain ⟨⟨t117, t118⟩, A200, H⟩ := H
          replace H : ((some (([1, 100, 1000, 1000000, 7] : List Int) : List Int)).bind fun y119 => ((customsmade_Source_Next.f s0_0 t118 5).bind fun bt122 => (if 0 ≤ bt122.1 then (if bt122.1 < (y119.length : Int) then (customsmade_Source_duty.j1 kj2 s0_0 bt122.2 x111000_2 (wrap64 (1 + t117)) (rd y119 bt122.1) false 0 false 0) else (none)) else (none)))) = some (r1, r2, r3, r4, r5, r6, r7, r8) := H
          have A20 := Aside0.mk A200
          clear A200
          obtain ⟨y119, hy119⟩ : ∃ y_ : List Int, y_ = (([1, 100, 1000, 1000000, 7] : List Int)) := ⟨_, rfl⟩
          replace H : ((customsmade_Source_Next.f s0_0 t118 5).bind fun bt122 => (if 0 ≤ bt122.1 then (if bt122.1 < (y119.length : Int) then (customsmade_Source_duty.j1 kj2 s0_0 bt122.2 x111000_2 (wrap64 (1 + t117)) (rd y119 bt122.1) false 0 false 0) else (none)) else (none))) = some (r1, r2, r3, r4, r5, r6, r7, r8) := by first | (rw [hy119]; with_reducible exact H) | (have H2_ := (Option.bind_some _ _).symm.trans H; rw [hy119]; with_reducible exact H2_) | (have H2_ := (Option.bind_some _ _).symm.trans H; with_reducible exact H2_) | with_reducible exact H | (rw [hy119]; exact H) | exact H
          have Ny119 := Aside0.mk hy119
          clear hy119
          replace H := Option.bind_eq_some_iff.mp H
          obtain ⟨⟨t122, t123⟩, A210, H⟩ := H
          replace H : (if 0 ≤ t122 then (if t122 < (y119.length : Int) then (customsmade_Source_duty.j1 kj2 s0_0 t123 x111000_2 (wrap64 (1 + t117)) (rd y119 t122) false 0 false 0) else (none)) else (none)) = some (r1, r2, r3, r4, r5, r6, r7, r8) := H
          have A21 := Aside0.mk A210
          clear A210
          by_cases c22 : 0 ≤ t122
          · rw [if_pos c22] at H
            have c22b0 : decide (0 ≤ t122) = true := decide_eq_true c22
            clear c22
            by_cases c23 : t122 < (y119.length : Int)
            · rw [if_pos c23] at H
              have c23b0 : decide (t122 < (y119.length : Int)) = true := decide_eq_true c23
              clear c23
              have H' := Aside0.mk H
              clear H
              try go_wp2
              have pi124 : (0 ≤ (t122 : Int)) = True := eq_true (of_decide_eq_true (by first | (with_reducible assumption) | assumption))
              have qi124 : (t122 < (y119.length : Int)) = True := eq_true (of_decide_eq_true (by first | (with_reducible assumption) | assumption))
              have n0_ := Aside0.mk (blk_drew BK109.out)
              have n1_ := Aside0.mk (blk_drew BK110.out)
              have n2_ := Aside0.mk (IsS48.drew HI0.out)
              have n3_ := Aside0.mk (keep_drew HK.out)
              have n4_ := Aside0.mk (below_drew1 HB.out)
              clear BK109
              clear BK110
              clear HI0
              clear HK
              clear HB
              have BK109 := n0_
              have BK110 := n1_
              have HI0 := n2_
              have HK := n3_
              have HB := n4_
              clear n0_ n1_ n2_ n3_ n4_
              refine start_ (n := 12) (S := fun w' => True) (ds := []) #[false, false, false, false, false, false, false, false, false, false, false, false] (by kernel_rfl) rfl rfl trivial (fun hHeld => ?_); refine with_tabW customsmade_Source_duty.tab5 customsmade_Source_duty.bits5 (fun HT_ HW_ => ?_)
              generalize w18.drew = w24 at BK109 BK110 HI0 HK HB hHeld ⊢
              refine pure_ (i := 0) (N := some 15) (v := ?_) (a' := ?_) #[true, false, false, false, false, false, false, false, false, false, false, false] rfl rfl (any_of HT_.out (by kernel_rfl)) (fun _ _ _ h => h) (Or.inl ⟨by rfl, ?_⟩) ?_ ?_
              rotate_left
              · intro w'
                go_simp
                with_reducible rfl
              rotate_left
              · simp only [Act.put, List.setIfInBounds_toArray, List.set_cons_zero, List.set_cons_succ, i64_w, i32_w]
                rfl
              refine pure_ (i := 4) (N := some 19) (v := ?_) (a' := ?_) #[true, false, false, false, true, false, false, false, false, false, false, false] rfl rfl (any_of HT_.out (by kernel_rfl)) (fun _ _ _ h => h) (Or.inl ⟨by rfl, ?_⟩) ?_ ?_
              rotate_left
              · intro w'
                go_simp
                with_reducible rfl
              rotate_left
              · simp only [Act.put, List.setIfInBounds_toArray, List.set_cons_zero, List.set_cons_succ, i64_w, i32_w]
                rfl
              refine inv_at [1, 2, 3, 5, 6, 7, 8, 9, 10, 11] (fun a0_ b a w' => ∃ (v120 : Value) (adz_v120 : Addr) (m6_ : Value), a = putSel a0_ b [(1, 16, .int .i64 t117), (2, 17, .int .i64 (wrap64 (1 + t117))), (3, 18, v120), (5, 20, .int .i64 t122), (6, 21, m6_), (7, 22, .int .i64 (rd y119 t122)), (8, 23, .pointer (some ⟨gb110, 1, none⟩)), (10, 24, .pointer (some ⟨gb110, 2, none⟩))] ∧ (w'.heap[gb109]? = some (.cells #[.int .i64 0, .int .i64 0, .int .i64 0, .bool false, .int .i64 0, .bool false, .int .i64 0] 23 (0, 0))) ∧ (b 9 = false → w'.heap[gb110]? = some (.cells #[.int .i64 x111000_2, .int .i64 0, .int .i64 0, .bool false, .int .i64 0, .bool false, .int .i64 0] 23 (0, 0))) ∧ (b 1 = false → IsS48 w0 w' g s0_0 t116) ∧ (KeepBut w w' g none) ∧ (Below w0.heap.size w0 w') ∧ (b 1 = true → b 5 = false → IsS48 w0 w' g s0_0 t118) ∧ (b 3 = true → Kd.R (Kd.int .i64) 3 w' w.heap.size (fun _ => True) v120 y119) ∧ (b 3 = true → ∃ c_, (v120 : Value) = .slice (some adz_v120) y119.length c_) ∧ (b 5 = true → IsS48 w0 w' g s0_0 t123) ∧ (b 9 = true → b 11 = false → w'.heap[gb110]? = some (.cells #[.int .i64 x111000_2, .int .i64 (wrap64 (1 + t117)), .int .i64 0, .bool false, .int .i64 0, .bool false, .int .i64 0] 23 (0, 0))) ∧ (b 11 = true → w'.heap[gb110]? = some (.cells #[.int .i64 x111000_2, .int .i64 (wrap64 (1 + t117)), .int .i64 (rd y119 t122), .bool false, .int .i64 0, .bool false, .int .i64 0] 23 (0, 0))) ∧ (b 6 = true → (m6_ : Value) = .pointer (some (adz_v120.add (t122).toNat)))) HT_.out HW_.out (by kernel_rfl) (by kernel_rfl) ?_ ?_ ?_
              · exact ⟨.bool false, ⟨0, 0, none⟩, .bool false, by simp only [putSel, Bool.false_eq_true, if_false], BK109.out, fun _ => BK110.out, fun _ => HI0.out, HK.out, HB.out, fun h_ => absurd h_ (by decide), fun h_ => absurd h_ (by decide), fun h_ => absurd h_ (by decide), fun h_ => absurd h_ (by decide), fun h_ => absurd h_ (by decide), fun h_ => absurd h_ (by decide), fun h_ => absurd h_ (by decide)⟩
              · skip
                clear BK109 BK110 HB HI0 HK
                refine steps_cons ?_ ?_
                · rintro b a w' ⟨v120, adz_v120, m6_, ha, Q_BK109, Q_BK110, Q_HI0, Q_HK, Q_HB, Q_HI0_e1, Q_HO121, Q_HA_HO121, Q_HI0_e5, Q_BK110_e9, Q_BK110_e11, Q_X6_⟩ hb_ hon hoff
                  refine ⟨_, rfl, fun K hK => ?_⟩
                  have e15 : a.tmps[15]? = some (.pointer (some ⟨g, 0, none⟩)) := by rw [ha]; exact (putSel_off rfl).trans rfl
                  replace ha := Aside0.mk ha
                  have BK109 := Aside0.mk Q_BK109
                  have BK110 := Aside0.mk (Q_BK110 (hoff 9 (by kernel_rfl)))
                  have HI0 := Aside0.mk (Q_HI0 hb_)
                  have HK := Aside0.mk Q_HK
                  have HB := Aside0.mk Q_HB
                  refine goes_ Tryd.func50 (by kernel_rfl) rfl #[.pointer (some ⟨g, 0, none⟩), .int .i64 500] (by rfl) rfl rfl (by first | (simp only [List.map_toArray, List.map_cons, List.map_nil, Act.eval, Array.getD_eq_getD_getElem?, Option.getD_some, e15]; done) | (simp only [List.map_toArray, List.map_cons, List.map_nil, Act.eval, Array.getD_eq_getD_getElem?, Option.getD_some, e15]; rfl)) ?_
                  with_reducible refine (customsmade_Source_Next.calls g s0_0 t116 500 t117 t118 w0 _ ?side1 ?side2 A20.out).mono ?_
                  (case side1 => repeat (first | (with_reducible first | exact HI0.out | apply IsS48.alloc | apply IsS48.drewN | apply IsS48.drew | apply IsS48.set_1 | refine IsS48.far ?_ NB0_109.out _ | refine IsS48.far ?_ NB0_110.out _) | exact HI0.out))
                  (case side2 => repeat (first | (with_reducible first | exact HB.out | apply below_alloc | apply pw_below_drewN | apply below_drew1 | refine below_set ?_ (IsS48.ge HI0.out) | refine below_set ?_ GE109.out | refine below_set ?_ GE110.out) | exact HB.out))
                  rintro e w25 ⟨rfl, hi, hb, hk⟩
                  refine ⟨_, rfl, ?_⟩
                  have n0_ := Aside0.mk (KeepBut.blk hk (g' := gb109) (o := .cells #[.int .i64 0, .int .i64 0, .int .i64 0, .bool false, .int .i64 0, .bool false, .int .i64 0] 23 (0, 0)) (by (with_reducible repeat (first | refine blk_drewN ?_ _ | refine blk_drew ?_ | refine blk_alloc ?_ _)); exact BK109.out) NB109_0.out (by simp))
                  have n1_ := Aside0.mk (KeepBut.blk hk (g' := gb110) (o := .cells #[.int .i64 x111000_2, .int .i64 0, .int .i64 0, .bool false, .int .i64 0, .bool false, .int .i64 0] 23 (0, 0)) (by (with_reducible repeat (first | refine blk_drewN ?_ _ | refine blk_drew ?_ | refine blk_alloc ?_ _)); exact BK110.out) NB110_0.out (by simp))
                  have n2_ := Aside0.mk (KeepBut.trans (by repeat (first | (with_reducible first | exact HK.out | apply KeepBut.set_ | apply keep_drewN | apply keep_drew | apply keep_alloc | refine keep_far ?_ GW109.out _ | refine keep_far ?_ GW110.out _) | exact HK.out)) hk (.inl rfl))
                  have n3_ := Aside0.mk (hb)
                  have n4_ := Aside0.mk (hi)
                  have z_HO121 := fun (h0_ : b 3 = true) => (show Kd.R (Kd.int .i64) 3 w25 w.heap.size (fun _ => True) v120 y119 from by first | exact (Kd.R_mono (Kd.R_keep (IsS48.apart (show IsS48 w0 _ g s0_0 t116 from by repeat (first | (with_reducible first | exact HI0.out | apply IsS48.alloc | apply IsS48.drewN | apply IsS48.drew | apply IsS48.set_1 | refine IsS48.far ?_ NB0_109.out _ | refine IsS48.far ?_ NB0_110.out _) | exact HI0.out)) (by (with_reducible repeat (first | apply Kd.R_alloc | apply Kd.R_drewN | apply Kd.R_drew)); exact (Q_HO121 h0_)) (by decide)) hk (fun _ h => h.2)) (fun _ h => h.1)) | exact Kd.R_mono (Kd.R_mono (Kd.R_keep (IsS48.apart (show IsS48 w0 _ g s0_0 t116 from by repeat (first | (with_reducible first | exact HI0.out | apply IsS48.alloc | apply IsS48.drewN | apply IsS48.drew | apply IsS48.set_1 | refine IsS48.far ?_ NB0_109.out _ | refine IsS48.far ?_ NB0_110.out _) | exact HI0.out)) (by (with_reducible repeat (first | apply Kd.R_alloc | apply Kd.R_drewN | apply Kd.R_drew)); exact (Q_HO121 h0_)) (by decide)) hk (fun _ h => h.2)) (fun _ h => h.1)) (fun _ h_ => by first | trivial | exact h_ | exact h_.1))
                  clear BK109
                  clear BK110
                  clear HK
                  clear HB
                  clear HI0
                  have BK109 := n0_
                  have BK110 := n1_
                  have HK := n2_
                  have HB := n3_
                  have HI0 := n4_
                  clear n0_ n1_ n2_ n3_ n4_
                  (try clear hb)
                  (try clear hb2)
                  (try clear hk)
                  (try clear hi)
                  refine hK.out _ _ ⟨v120, adz_v120, m6_, (by rw [ha.out]; exact putSel_upk 0 hb_ rfl rfl rfl), (by (with_reducible repeat (first | refine blk_drewN ?_ _ | refine blk_drew ?_ | refine blk_alloc ?_ _)); exact BK109.out), fun _ => (by (with_reducible repeat (first | refine blk_drewN ?_ _ | refine blk_drew ?_ | refine blk_alloc ?_ _)); exact BK110.out), fun h0_ => absurd ((up_self b 1).symm.trans h0_) (by decide), (by repeat (first | (with_reducible first | exact HK.out | apply KeepBut.set_ | apply keep_drewN | apply keep_drew | apply keep_alloc | refine keep_far ?_ GW109.out _ | refine keep_far ?_ GW110.out _) | exact HK.out)), (by repeat (first | (with_reducible first | exact HB.out | apply below_alloc | apply pw_below_drewN | apply below_drew1 | refine below_set ?_ (IsS48.ge HI0.out) | refine below_set ?_ GE109.out | refine below_set ?_ GE110.out) | exact HB.out)), fun _ _ => (by repeat (first | (with_reducible first | exact HI0.out | apply IsS48.alloc | apply IsS48.drewN | apply IsS48.drew | apply IsS48.set_1 | refine IsS48.far ?_ NB0_109.out _ | refine IsS48.far ?_ NB0_110.out _) | exact HI0.out)), z_HO121, Q_HA_HO121, fun h0_ => absurd ((hoff 5 (by kernel_rfl)).symm.trans h0_) (by decide), fun h0_ _ => absurd ((hoff 9 (by kernel_rfl)).symm.trans h0_) (by decide), fun h0_ => absurd ((hoff 11 (by kernel_rfl)).symm.trans h0_) (by decide), fun h0_ => absurd ((hoff 6 (by kernel_rfl)).symm.trans h0_) (by decide)⟩
                refine steps_cons ?_ ?_
                · rintro b a w' ⟨v120, adz_v120, m6_, ha, Q_BK109, Q_BK110, Q_HI0, Q_HK, Q_HB, Q_HI0_e1, Q_HO121, Q_HA_HO121, Q_HI0_e5, Q_BK110_e9, Q_BK110_e11, Q_X6_⟩ hb_ hon hoff
                  refine ⟨_, rfl, fun K hK => ?_⟩
                  have e16 : a.tmps[16]? = some (.int .i64 t117) := by rw [ha]; exact putSel_on (e := (1, 16, .int .i64 t117)) 0 rfl rfl (hon 1 (by kernel_rfl)) rfl
                  replace ha := Aside0.mk ha
                  have BK109 := Aside0.mk Q_BK109
                  have BK110 := Aside0.mk (Q_BK110 (hoff 9 (by kernel_rfl)))
                  have HK := Aside0.mk Q_HK
                  have HB := Aside0.mk Q_HB
                  refine value_ (w1 := w') (v := .int .i64 (wrap64 (1 + t117))) (by rfl) rfl ?_ ?_
                  · go_simp
                    (try simp only [i64_w])
                    try rfl
                  refine hK.out _ _ ⟨v120, adz_v120, m6_, (by rw [ha.out]; exact putSel_upk 1 hb_ rfl rfl rfl), Q_BK109, Q_BK110, fun h0_ => absurd ((hon 1 (by kernel_rfl)).symm.trans h0_) (by decide), Q_HK, Q_HB, Q_HI0_e1, Q_HO121, Q_HA_HO121, Q_HI0_e5, fun h0_ _ => absurd ((hoff 9 (by kernel_rfl)).symm.trans h0_) (by decide), fun h0_ => absurd ((hoff 11 (by kernel_rfl)).symm.trans h0_) (by decide), Q_X6_⟩
                refine steps_cons ?_ ?_
                · rintro b a w' ⟨v120, adz_v120, m6_, ha, Q_BK109, Q_BK110, Q_HI0, Q_HK, Q_HB, Q_HI0_e1, Q_HO121, Q_HA_HO121, Q_HI0_e5, Q_BK110_e9, Q_BK110_e11, Q_X6_⟩ hb_ hon hoff
                  refine ⟨_, rfl, fun K hK => ?_⟩
                  replace ha := Aside0.mk ha
                  have BK109 := Aside0.mk Q_BK109
                  have HK := Aside0.mk Q_HK
                  have HB := Aside0.mk Q_HB
                  refine Kd.R_lit_step (Kd.int .i64) _ 3 ?hg (N := 18) ?hd (xs := ([1, 100, 1000, 1000000, 7] : List Int)) (inner := [.int .i64 1, .int .i64 100, .int .i64 1000, .int .i64 1000000, .int .i64 7]) (ok := fun _ => True) (okp := fun _ => True) ?hr ?hp (fun _ hk => hk) trivial (Below.refl _ _) (Nat.le_refl _) (by simp) ?_; (case hd => rfl); (case hg => rfl); (case hr => first | (go_simp; done) | (go_simp; rfl)); (case hp => exact (Reps.one (show Kd.M (Kd.int .i64) _ _ _ 1 [.int .i64 1] from rfl) (Reps.one (show Kd.M (Kd.int .i64) _ _ _ 100 [.int .i64 100] from rfl) (Reps.one (show Kd.M (Kd.int .i64) _ _ _ 1000 [.int .i64 1000] from rfl) (Reps.one (show Kd.M (Kd.int .i64) _ _ _ 1000000 [.int .i64 1000000] from rfl) (Reps.one (show Kd.M (Kd.int .i64) _ _ _ 7 [.int .i64 7] from rfl) (Reps.none _ _)))))))
                  intro v120 w25 ho26 hb hg_ hnew_
                  clear hg_ hnew_
                  (first | rw [← Ny119.out] at ho26 | (simp only [Int.reduceToNat] at ho26; rw [← Ny119.out] at ho26))
                  have n0_ := Aside0.mk (Kd.R_lower ho26 (keep_size (w := w) (g := g) (row := none) (by repeat (first | (with_reducible first | exact HK.out | apply KeepBut.set_ | apply keep_drewN | apply keep_drew | apply keep_alloc | refine keep_far ?_ GW109.out _ | refine keep_far ?_ GW110.out _) | exact HK.out))))
                  have n1_ := Aside0.mk (blk_below (g := gb109) (o := .cells #[.int .i64 0, .int .i64 0, .int .i64 0, .bool false, .int .i64 0, .bool false, .int .i64 0] 23 (0, 0)) (by (with_reducible repeat (first | refine blk_drewN ?_ _ | refine blk_drew ?_ | refine blk_alloc ?_ _)); exact BK109.out) hb)
                  have n4_ := Aside0.mk (KeepBut.trans (by repeat (first | (with_reducible first | exact HK.out | apply KeepBut.set_ | apply keep_drewN | apply keep_drew | apply keep_alloc | refine keep_far ?_ GW109.out _ | refine keep_far ?_ GW110.out _) | exact HK.out)) (KeepBut.of_below hb g none) (.inl rfl))
                  have n5_ := Aside0.mk (below_step (by repeat (first | (with_reducible first | exact HB.out | apply below_alloc | apply pw_below_drewN | apply below_drew1 | refine below_set ?_ GE109.out | refine below_set ?_ GE110.out) | exact HB.out)) hb)
                  have z_BK110 := fun (h0_ : b 9 = false) => (show w25.heap[gb110]? = some (.cells #[.int .i64 x111000_2, .int .i64 0, .int .i64 0, .bool false, .int .i64 0, .bool false, .int .i64 0] 23 (0, 0)) from by first | exact (blk_below (g := gb110) (o := .cells #[.int .i64 x111000_2, .int .i64 0, .int .i64 0, .bool false, .int .i64 0, .bool false, .int .i64 0] 23 (0, 0)) (by (with_reducible repeat (first | refine blk_drewN ?_ _ | refine blk_drew ?_ | refine blk_alloc ?_ _)); exact (Q_BK110 h0_)) hb))
                  have z_HI0 := fun (h0_ : b 1 = false) => (show IsS48 w0 w25 g s0_0 t116 from by first | exact (IsS48.below (by repeat (first | (with_reducible first | exact (Q_HI0 h0_) | apply IsS48.alloc | apply IsS48.drewN | apply IsS48.drew | apply IsS48.set_1 | refine IsS48.far ?_ NB0_109.out _ | refine IsS48.far ?_ NB0_110.out _) | exact (Q_HI0 h0_))) hb))
                  have z_HI0_e1 := fun (h0_ : b 1 = true) (h1_ : b 5 = false) => (show IsS48 w0 w25 g s0_0 t118 from by first | exact (IsS48.below (by repeat (first | (with_reducible first | exact (Q_HI0_e1 h0_ h1_) | apply IsS48.alloc | apply IsS48.drewN | apply IsS48.drew | apply IsS48.set_1 | refine IsS48.far ?_ NB0_109.out _ | refine IsS48.far ?_ NB0_110.out _) | exact (Q_HI0_e1 h0_ h1_))) hb))
                  have z_HI0_e5 := fun (h0_ : b 5 = true) => (show IsS48 w0 w25 g s0_0 t123 from by first | exact (IsS48.below (by repeat (first | (with_reducible first | exact (Q_HI0_e5 h0_) | apply IsS48.alloc | apply IsS48.drewN | apply IsS48.drew | apply IsS48.set_1 | refine IsS48.far ?_ NB0_109.out _ | refine IsS48.far ?_ NB0_110.out _) | exact (Q_HI0_e5 h0_))) hb))
                  have z_BK110_e9 := fun (h0_ : b 9 = true) (h1_ : b 11 = false) => (show w25.heap[gb110]? = some (.cells #[.int .i64 x111000_2, .int .i64 (wrap64 (1 + t117)), .int .i64 0, .bool false, .int .i64 0, .bool false, .int .i64 0] 23 (0, 0)) from by first | exact (blk_below (g := gb110) (o := .cells #[.int .i64 x111000_2, .int .i64 (wrap64 (1 + t117)), .int .i64 0, .bool false, .int .i64 0, .bool false, .int .i64 0] 23 (0, 0)) (by (with_reducible repeat (first | refine blk_drewN ?_ _ | refine blk_drew ?_ | refine blk_alloc ?_ _)); exact (Q_BK110_e9 h0_ h1_)) hb))
                  clear BK109
                  clear HK
                  clear HB
                  have HO121 := n0_
                  have BK109 := n1_
                  have HK := n4_
                  have HB := n5_
                  clear n0_ n1_ n4_ n5_
                  clear hb ho26
                  obtain ⟨Ao27, co27, eo27⟩ := Kd.R_slice HO121.out
                  subst eo27
                  obtain ⟨ado27, fo27, _⟩ := Kd.at_int (Kd.R_reads' HO121.out).2.2 0 (by decide) (by rw [Ny119.out]; simp)
                  cases fo27
                  refine hK.out _ _ ⟨.slice (some ado27) y119.length co27, ado27, m6_, (by rw [ha.out]; exact putSel_upk 2 hb_ rfl rfl rfl), (by (with_reducible repeat (first | refine blk_drewN ?_ _ | refine blk_drew ?_ | refine blk_alloc ?_ _)); exact BK109.out), z_BK110, z_HI0, (by repeat (first | (with_reducible first | exact HK.out | apply KeepBut.set_ | apply keep_drewN | apply keep_drew | apply keep_alloc | refine keep_far ?_ GW109.out _ | refine keep_far ?_ GW110.out _) | exact HK.out)), (by repeat (first | (with_reducible first | exact HB.out | apply below_alloc | apply pw_below_drewN | apply below_drew1 | refine below_set ?_ GE109.out | refine below_set ?_ GE110.out) | exact HB.out)), z_HI0_e1, fun _ => (by (with_reducible repeat (first | apply Kd.R_alloc | apply Kd.R_drewN | apply Kd.R_drew)); exact HO121.out), fun _ => ⟨_, rfl⟩, z_HI0_e5, z_BK110_e9, fun h0_ => absurd ((hoff 11 (by kernel_rfl)).symm.trans h0_) (by decide), fun h0_ => absurd ((hoff 6 (by kernel_rfl)).symm.trans h0_) (by decide)⟩
                refine steps_cons ?_ ?_
                · rintro b a w' ⟨v120, adz_v120, m6_, ha, Q_BK109, Q_BK110, Q_HI0, Q_HK, Q_HB, Q_HI0_e1, Q_HO121, Q_HA_HO121, Q_HI0_e5, Q_BK110_e9, Q_BK110_e11, Q_X6_⟩ hb_ hon hoff
                  refine ⟨_, rfl, fun K hK => ?_⟩
                  have e19 : a.tmps[19]? = some (.pointer (some ⟨g, 0, none⟩)) := by rw [ha]; exact (putSel_off rfl).trans rfl
                  replace ha := Aside0.mk ha
                  have BK109 := Aside0.mk Q_BK109
                  have BK110 := Aside0.mk (Q_BK110 (hoff 9 (by kernel_rfl)))
                  have HK := Aside0.mk Q_HK
                  have HB := Aside0.mk Q_HB
                  have HI0 := Aside0.mk (Q_HI0_e1 (hon 1 (by kernel_rfl)) hb_)
                  refine goes_ Tryd.func50 (by kernel_rfl) rfl #[.pointer (some ⟨g, 0, none⟩), .int .i64 5] (by rfl) rfl rfl (by first | (simp only [List.map_toArray, List.map_cons, List.map_nil, Act.eval, Array.getD_eq_getD_getElem?, Option.getD_some, e19]; done) | (simp only [List.map_toArray, List.map_cons, List.map_nil, Act.eval, Array.getD_eq_getD_getElem?, Option.getD_some, e19]; rfl)) ?_
                  with_reducible refine (customsmade_Source_Next.calls g s0_0 t118 5 t122 t123 w0 _ ?side1 ?side2 A21.out).mono ?_
                  (case side1 => repeat (first | (with_reducible first | exact HI0.out | apply IsS48.alloc | apply IsS48.drewN | apply IsS48.drew | apply IsS48.set_1 | refine IsS48.far ?_ NB0_109.out _ | refine IsS48.far ?_ NB0_110.out _) | exact HI0.out))
                  (case side2 => repeat (first | (with_reducible first | exact HB.out | apply below_alloc | apply pw_below_drewN | apply below_drew1 | refine below_set ?_ (IsS48.ge HI0.out) | refine below_set ?_ GE109.out | refine below_set ?_ GE110.out) | exact HB.out))
                  rintro e w27 ⟨rfl, hi, hb, hk⟩
                  refine ⟨_, rfl, ?_⟩
                  have n0_ := Aside0.mk (KeepBut.blk hk (g' := gb109) (o := .cells #[.int .i64 0, .int .i64 0, .int .i64 0, .bool false, .int .i64 0, .bool false, .int .i64 0] 23 (0, 0)) (by (with_reducible repeat (first | refine blk_drewN ?_ _ | refine blk_drew ?_ | refine blk_alloc ?_ _)); exact BK109.out) NB109_0.out (by simp))
                  have n1_ := Aside0.mk (KeepBut.blk hk (g' := gb110) (o := .cells #[.int .i64 x111000_2, .int .i64 0, .int .i64 0, .bool false, .int .i64 0, .bool false, .int .i64 0] 23 (0, 0)) (by (with_reducible repeat (first | refine blk_drewN ?_ _ | refine blk_drew ?_ | refine blk_alloc ?_ _)); exact BK110.out) NB110_0.out (by simp))
                  have n2_ := Aside0.mk (KeepBut.trans (by repeat (first | (with_reducible first | exact HK.out | apply KeepBut.set_ | apply keep_drewN | apply keep_drew | apply keep_alloc | refine keep_far ?_ GW109.out _ | refine keep_far ?_ GW110.out _) | exact HK.out)) hk (.inl rfl))
                  have n3_ := Aside0.mk (hb)
                  have n4_ := Aside0.mk (hi)
                  have z_HO121 := fun (h0_ : b 3 = true) => (show Kd.R (Kd.int .i64) 3 w27 w.heap.size (fun _ => True) v120 y119 from by first | exact (Kd.R_mono (Kd.R_keep (IsS48.apart (show IsS48 w0 _ g s0_0 t118 from by repeat (first | (with_reducible first | exact HI0.out | apply IsS48.alloc | apply IsS48.drewN | apply IsS48.drew | apply IsS48.set_1 | refine IsS48.far ?_ NB0_109.out _ | refine IsS48.far ?_ NB0_110.out _) | exact HI0.out)) (by (with_reducible repeat (first | apply Kd.R_alloc | apply Kd.R_drewN | apply Kd.R_drew)); exact (Q_HO121 h0_)) (by decide)) hk (fun _ h => h.2)) (fun _ h => h.1)) | exact Kd.R_mono (Kd.R_mono (Kd.R_keep (IsS48.apart (show IsS48 w0 _ g s0_0 t118 from by repeat (first | (with_reducible first | exact HI0.out | apply IsS48.alloc | apply IsS48.drewN | apply IsS48.drew | apply IsS48.set_1 | refine IsS48.far ?_ NB0_109.out _ | refine IsS48.far ?_ NB0_110.out _) | exact HI0.out)) (by (with_reducible repeat (first | apply Kd.R_alloc | apply Kd.R_drewN | apply Kd.R_drew)); exact (Q_HO121 h0_)) (by decide)) hk (fun _ h => h.2)) (fun _ h => h.1)) (fun _ h_ => by first | trivial | exact h_ | exact h_.1))
                  clear BK109
                  clear BK110
                  clear HK
                  clear HB
                  clear HI0
                  have BK109 := n0_
                  have BK110 := n1_
                  have HK := n2_
                  have HB := n3_
                  have HI0 := n4_
                  clear n0_ n1_ n2_ n3_ n4_
                  (try clear hb)
                  (try clear hb2)
                  (try clear hk)
                  (try clear hi)
                  refine hK.out _ _ ⟨v120, adz_v120, m6_, (by rw [ha.out]; exact putSel_upk 3 hb_ rfl rfl rfl), (by (with_reducible repeat (first | refine blk_drewN ?_ _ | refine blk_drew ?_ | refine blk_alloc ?_ _)); exact BK109.out), fun _ => (by (with_reducible repeat (first | refine blk_drewN ?_ _ | refine blk_drew ?_ | refine blk_alloc ?_ _)); exact BK110.out), fun h0_ => absurd ((hon 1 (by kernel_rfl)).symm.trans h0_) (by decide), (by repeat (first | (with_reducible first | exact HK.out | apply KeepBut.set_ | apply keep_drewN | apply keep_drew | apply keep_alloc | refine keep_far ?_ GW109.out _ | refine keep_far ?_ GW110.out _) | exact HK.out)), (by repeat (first | (with_reducible first | exact HB.out | apply below_alloc | apply pw_below_drewN | apply below_drew1 | refine below_set ?_ (IsS48.ge HI0.out) | refine below_set ?_ GE109.out | refine below_set ?_ GE110.out) | exact HB.out)), fun _ h1_ => absurd ((up_self b 5).symm.trans h1_) (by decide), z_HO121, Q_HA_HO121, fun _ => (by repeat (first | (with_reducible first | exact HI0.out | apply IsS48.alloc | apply IsS48.drewN | apply IsS48.drew | apply IsS48.set_1 | refine IsS48.far ?_ NB0_109.out _ | refine IsS48.far ?_ NB0_110.out _) | exact HI0.out)), fun h0_ _ => absurd ((hoff 9 (by kernel_rfl)).symm.trans h0_) (by decide), fun h0_ => absurd ((hoff 11 (by kernel_rfl)).symm.trans h0_) (by decide), fun h0_ => absurd ((hoff 6 (by kernel_rfl)).symm.trans h0_) (by decide)⟩
                refine steps_cons ?_ ?_
                · rintro b a w' ⟨v120, adz_v120, m6_, ha, Q_BK109, Q_BK110, Q_HI0, Q_HK, Q_HB, Q_HI0_e1, Q_HO121, Q_HA_HO121, Q_HI0_e5, Q_BK110_e9, Q_BK110_e11, Q_X6_⟩ hb_ hon hoff
                  refine ⟨_, rfl, fun K hK => ?_⟩
                  have e18 : a.tmps[18]? = some (v120) := by rw [ha]; exact putSel_on (e := (3, 18, v120)) 2 rfl rfl (hon 3 (by kernel_rfl)) rfl
                  have e20 : a.tmps[20]? = some (.int .i64 t122) := by rw [ha]; exact putSel_on (e := (5, 20, .int .i64 t122)) 3 rfl rfl (hon 5 (by kernel_rfl)) rfl
                  replace ha := Aside0.mk ha
                  have BK109 := Aside0.mk Q_BK109
                  have HK := Aside0.mk Q_HK
                  have HB := Aside0.mk Q_HB
                  have HO121 := Aside0.mk (Q_HO121 (hon 3 (by kernel_rfl)))
                  have HA_HO121 := Aside0.mk (Q_HA_HO121 (hon 3 (by kernel_rfl)))
                  have HI0 := Aside0.mk (Q_HI0_e5 (hon 5 (by kernel_rfl)))
                  obtain ⟨c_, hv_⟩ := HA_HO121.out
                  rw [hv_] at e18
                  refine value_ (w1 := w') (v := .pointer (some (adz_v120.add (t122).toNat))) (by rfl) rfl ?_ ?_
                  · go_simp
                    (try simp only [i64_w])
                    try rfl
                  refine hK.out _ _ ⟨v120, adz_v120, (.pointer (some (adz_v120.add (t122).toNat))), (by rw [ha.out]; exact putSel_upk 4 hb_ rfl rfl rfl), Q_BK109, Q_BK110, fun h0_ => absurd ((hon 1 (by kernel_rfl)).symm.trans h0_) (by decide), Q_HK, Q_HB, fun _ h1_ => absurd ((hon 5 (by kernel_rfl)).symm.trans h1_) (by decide), Q_HO121, Q_HA_HO121, Q_HI0_e5, Q_BK110_e9, fun h0_ => absurd ((hoff 11 (by kernel_rfl)).symm.trans h0_) (by decide), fun _ => rfl⟩
                refine steps_cons ?_ ?_
                · rintro b a w' ⟨v120, adz_v120, m6_, ha, Q_BK109, Q_BK110, Q_HI0, Q_HK, Q_HB, Q_HI0_e1, Q_HO121, Q_HA_HO121, Q_HI0_e5, Q_BK110_e9, Q_BK110_e11, Q_X6_⟩ hb_ hon hoff
                  refine ⟨_, rfl, fun K hK => ?_⟩
                  have e21 : a.tmps[21]? = some (m6_) := by rw [ha]; exact putSel_on (e := (6, 21, m6_)) 4 rfl rfl (hon 6 (by kernel_rfl)) rfl
                  rw [Q_X6_ (hon 6 (by kernel_rfl))] at e21
                  replace ha := Aside0.mk ha
                  have BK109 := Aside0.mk Q_BK109
                  have HK := Aside0.mk Q_HK
                  have HB := Aside0.mk Q_HB
                  have HO121 := Aside0.mk (Q_HO121 (hon 3 (by kernel_rfl)))
                  have HA_HO121 := Aside0.mk (Q_HA_HO121 (hon 3 (by kernel_rfl)))
                  have HI0 := Aside0.mk (Q_HI0_e5 (hon 5 (by kernel_rfl)))
                  obtain ⟨c_, hv_⟩ := HA_HO121.out
                  have hF_ := HO121.out
                  rw [hv_] at hF_
                  obtain ⟨ad_, ea_, hx_⟩ := Kd.at_int (Kd.R_reads' hF_).2.2 t122 (of_eq_true pi124) (of_eq_true qi124)
                  cases ea_
                  refine value_ (w1 := w') (v := .int .i64 (rd y119 t122)) (by rfl) rfl ?_ ?_
                  · go_simp
                    (try simp only [i64_w])
                    try rfl
                  refine hK.out _ _ ⟨v120, adz_v120, m6_, (by rw [ha.out]; exact putSel_upk 5 hb_ rfl rfl rfl), Q_BK109, Q_BK110, fun h0_ => absurd ((hon 1 (by kernel_rfl)).symm.trans h0_) (by decide), Q_HK, Q_HB, fun _ h1_ => absurd ((hon 5 (by kernel_rfl)).symm.trans h1_) (by decide), Q_HO121, Q_HA_HO121, Q_HI0_e5, Q_BK110_e9, fun h0_ => absurd ((hoff 11 (by kernel_rfl)).symm.trans h0_) (by decide), Q_X6_⟩
                refine steps_cons ?_ ?_
                · rintro b a w' ⟨v120, adz_v120, m6_, ha, Q_BK109, Q_BK110, Q_HI0, Q_HK, Q_HB, Q_HI0_e1, Q_HO121, Q_HA_HO121, Q_HI0_e5, Q_BK110_e9, Q_BK110_e11, Q_X6_⟩ hb_ hon hoff
                  refine ⟨_, rfl, fun K hK => ?_⟩
                  have e3 : a.tmps[3]? = some (.pointer (some ⟨gb110, 0, none⟩)) := by rw [ha]; exact (putSel_off rfl).trans rfl
                  replace ha := Aside0.mk ha
                  have BK109 := Aside0.mk Q_BK109
                  have BK110 := Aside0.mk (Q_BK110 (hoff 9 (by kernel_rfl)))
                  have HK := Aside0.mk Q_HK
                  have HB := Aside0.mk Q_HB
                  refine value_ (w1 := w') (v := .pointer (some ⟨gb110, 1, none⟩)) (by rfl) rfl ?_ ?_
                  · go_simp
                    (try simp only [i64_w])
                    try rfl
                  refine hK.out _ _ ⟨v120, adz_v120, m6_, (by rw [ha.out]; exact putSel_upk 6 hb_ rfl rfl rfl), Q_BK109, Q_BK110, fun h0_ => absurd ((hon 1 (by kernel_rfl)).symm.trans h0_) (by decide), Q_HK, Q_HB, Q_HI0_e1, Q_HO121, Q_HA_HO121, Q_HI0_e5, fun h0_ _ => absurd ((hoff 9 (by kernel_rfl)).symm.trans h0_) (by decide), fun h0_ => absurd ((hoff 11 (by kernel_rfl)).symm.trans h0_) (by decide), Q_X6_⟩
                refine steps_cons ?_ ?_
                · rintro b a w' ⟨v120, adz_v120, m6_, ha, Q_BK109, Q_BK110, Q_HI0, Q_HK, Q_HB, Q_HI0_e1, Q_HO121, Q_HA_HO121, Q_HI0_e5, Q_BK110_e9, Q_BK110_e11, Q_X6_⟩ hb_ hon hoff
                  refine ⟨_, rfl, fun K hK => ?_⟩
                  have e23 : a.tmps[23]? = some (.pointer (some ⟨gb110, 1, none⟩)) := by rw [ha]; exact putSel_on (e := (8, 23, .pointer (some ⟨gb110, 1, none⟩))) 6 rfl rfl (hon 8 (by kernel_rfl)) rfl
                  have e17 : a.tmps[17]? = some (.int .i64 (wrap64 (1 + t117))) := by rw [ha]; exact putSel_on (e := (2, 17, .int .i64 (wrap64 (1 + t117)))) 1 rfl rfl (hon 2 (by kernel_rfl)) rfl
                  replace ha := Aside0.mk ha
                  have BK109 := Aside0.mk Q_BK109
                  have BK110 := Aside0.mk (Q_BK110 hb_)
                  have HK := Aside0.mk Q_HK
                  have HB := Aside0.mk Q_HB
                  have HI0 := Aside0.mk (Q_HI0_e5 (hon 5 (by kernel_rfl)))
                  have hs28 : w'.cell? ⟨gb110, 1, none⟩ = some (.int .i64 0) := (blk_cell BK110.out 1).trans rfl
                  have hfs28 := blk_frozen BK110.out 1
                  have hns28_0 := NB109_110.out
                  have hms28_0 := NB110_109.out
                  refine skip_ (w1 := ?_) (by rfl) rfl ?_ ?_
                  rotate_left
                  · go_simp
                    rfl
                  refine hK.out _ _ ⟨v120, adz_v120, m6_, (by rw [ha.out]; exact putSel_none (v := undef) rfl), (by (with_reducible repeat (first | refine blk_drewN ?_ _ | refine blk_drew ?_ | refine blk_alloc ?_ _)); refine blk_far ?_ NB109_110.out _; (with_reducible repeat (first | refine blk_drewN ?_ _ | refine blk_drew ?_ | refine blk_alloc ?_ _)); exact BK109.out), fun h0_ => absurd ((up_self b 9).symm.trans h0_) (by decide), fun h0_ => absurd ((hon 1 (by kernel_rfl)).symm.trans h0_) (by decide), (by repeat (first | (with_reducible first | exact HK.out | apply KeepBut.set_ | apply keep_drewN | apply keep_drew | apply keep_alloc | refine keep_far ?_ GW109.out _ | refine keep_far ?_ GW110.out _) | exact HK.out)), (by repeat (first | (with_reducible first | exact HB.out | apply below_alloc | apply pw_below_drewN | apply below_drew1 | refine below_set ?_ (IsS48.ge HI0.out) | refine below_set ?_ GE109.out | refine below_set ?_ GE110.out) | exact HB.out)), fun _ h1_ => absurd ((hon 5 (by kernel_rfl)).symm.trans h1_) (by decide), fun h0_ => (by (with_reducible repeat (first | apply Kd.R_alloc | apply Kd.R_drewN | apply Kd.R_drew)); exact Kd.R_mono (Kd.R_far (p := ⟨gb110, 1, none⟩) (Kd.R_types (Q_HO121 h0_) BK110.out (by decide)) (fun _ hk => hk.2) (.int .i64 (wrap64 (1 + t117)))) (fun _ hk => trivial)), Q_HA_HO121, fun _ => (by repeat (first | (with_reducible first | exact HI0.out | apply IsS48.alloc | apply IsS48.drewN | apply IsS48.drew | apply IsS48.set_1 | refine IsS48.far ?_ NB0_109.out _ | refine IsS48.far ?_ NB0_110.out _) | exact HI0.out)), fun _ _ => (by (with_reducible repeat (first | refine blk_drewN ?_ _ | refine blk_drew ?_ | refine blk_alloc ?_ _)); refine blk_put (cs := #[.int .i64 x111000_2, .int .i64 0, .int .i64 0, .bool false, .int .i64 0, .bool false, .int .i64 0]) ?_ 1 _ rfl; (with_reducible repeat (first | refine blk_drewN ?_ _ | refine blk_drew ?_ | refine blk_alloc ?_ _)); exact BK110.out), fun h0_ => absurd ((hoff 11 (by kernel_rfl)).symm.trans h0_) (by decide), Q_X6_⟩
                refine steps_cons ?_ ?_
                · rintro b a w' ⟨v120, adz_v120, m6_, ha, Q_BK109, Q_BK110, Q_HI0, Q_HK, Q_HB, Q_HI0_e1, Q_HO121, Q_HA_HO121, Q_HI0_e5, Q_BK110_e9, Q_BK110_e11, Q_X6_⟩ hb_ hon hoff
                  refine ⟨_, rfl, fun K hK => ?_⟩
                  have e3 : a.tmps[3]? = some (.pointer (some ⟨gb110, 0, none⟩)) := by rw [ha]; exact (putSel_off rfl).trans rfl
                  replace ha := Aside0.mk ha
                  have BK109 := Aside0.mk Q_BK109
                  have HK := Aside0.mk Q_HK
                  have HB := Aside0.mk Q_HB
                  have HO121 := Aside0.mk (Q_HO121 (hon 3 (by kernel_rfl)))
                  have HA_HO121 := Aside0.mk (Q_HA_HO121 (hon 3 (by kernel_rfl)))
                  have HI0 := Aside0.mk (Q_HI0_e5 (hon 5 (by kernel_rfl)))
                  have BK110 := Aside0.mk (Q_BK110_e9 (hon 9 (by kernel_rfl)) (hoff 11 (by kernel_rfl)))
                  refine value_ (w1 := w') (v := .pointer (some ⟨gb110, 2, none⟩)) (by rfl) rfl ?_ ?_
                  · go_simp
                    (try simp only [i64_w])
                    try rfl
                  refine hK.out _ _ ⟨v120, adz_v120, m6_, (by rw [ha.out]; exact putSel_upk 7 hb_ rfl rfl rfl), Q_BK109, fun h0_ => absurd ((hon 9 (by kernel_rfl)).symm.trans h0_) (by decide), fun h0_ => absurd ((hon 1 (by kernel_rfl)).symm.trans h0_) (by decide), Q_HK, Q_HB, fun _ h1_ => absurd ((hon 5 (by kernel_rfl)).symm.trans h1_) (by decide), Q_HO121, Q_HA_HO121, Q_HI0_e5, Q_BK110_e9, fun h0_ => absurd ((hoff 11 (by kernel_rfl)).symm.trans h0_) (by decide), Q_X6_⟩
                refine steps_cons ?_ ?_
                · rintro b a w' ⟨v120, adz_v120, m6_, ha, Q_BK109, Q_BK110, Q_HI0, Q_HK, Q_HB, Q_HI0_e1, Q_HO121, Q_HA_HO121, Q_HI0_e5, Q_BK110_e9, Q_BK110_e11, Q_X6_⟩ hb_ hon hoff
                  refine ⟨_, rfl, fun K hK => ?_⟩
                  have e24 : a.tmps[24]? = some (.pointer (some ⟨gb110, 2, none⟩)) := by rw [ha]; exact putSel_on (e := (10, 24, .pointer (some ⟨gb110, 2, none⟩))) 7 rfl rfl (hon 10 (by kernel_rfl)) rfl
                  have e22 : a.tmps[22]? = some (.int .i64 (rd y119 t122)) := by rw [ha]; exact putSel_on (e := (7, 22, .int .i64 (rd y119 t122))) 5 rfl rfl (hon 7 (by kernel_rfl)) rfl
                  replace ha := Aside0.mk ha
                  have BK109 := Aside0.mk Q_BK109
                  have HK := Aside0.mk Q_HK
                  have HB := Aside0.mk Q_HB
                  have HO121 := Aside0.mk (Q_HO121 (hon 3 (by kernel_rfl)))
                  have HA_HO121 := Aside0.mk (Q_HA_HO121 (hon 3 (by kernel_rfl)))
                  have HI0 := Aside0.mk (Q_HI0_e5 (hon 5 (by kernel_rfl)))
                  have BK110 := Aside0.mk (Q_BK110_e9 (hon 9 (by kernel_rfl)) hb_)
                  obtain ⟨co32, eo32⟩ := HA_HO121.out
                  clear HA_HO121
                  subst eo32
                  have hs33 : w'.cell? ⟨gb110, 2, none⟩ = some (.int .i64 0) := (blk_cell BK110.out 2).trans rfl
                  have hfs33 := blk_frozen BK110.out 2
                  have hns33_0 := NB109_110.out
                  have hms33_0 := NB110_109.out
                  refine skip_ (w1 := ?_) (by rfl) rfl ?_ ?_
                  rotate_left
                  · go_simp
                    rfl
                  refine hK.out _ _ ⟨.slice (some adz_v120) y119.length co32, adz_v120, m6_, (by rw [ha.out]; exact putSel_none (v := undef) rfl), (by (with_reducible repeat (first | refine blk_drewN ?_ _ | refine blk_drew ?_ | refine blk_alloc ?_ _)); refine blk_far ?_ NB109_110.out _; (with_reducible repeat (first | refine blk_drewN ?_ _ | refine blk_drew ?_ | refine blk_alloc ?_ _)); exact BK109.out), fun h0_ => absurd ((hon 9 (by kernel_rfl)).symm.trans h0_) (by decide), fun h0_ => absurd ((hon 1 (by kernel_rfl)).symm.trans h0_) (by decide), (by repeat (first | (with_reducible first | exact HK.out | apply KeepBut.set_ | apply keep_drewN | apply keep_drew | apply keep_alloc | refine keep_far ?_ GW109.out _ | refine keep_far ?_ GW110.out _) | exact HK.out)), (by repeat (first | (with_reducible first | exact HB.out | apply below_alloc | apply pw_below_drewN | apply below_drew1 | refine below_set ?_ (IsS48.ge HI0.out) | refine below_set ?_ GE109.out | refine below_set ?_ GE110.out) | exact HB.out)), fun _ h1_ => absurd ((hon 5 (by kernel_rfl)).symm.trans h1_) (by decide), fun _ => (by (with_reducible repeat (first | apply Kd.R_alloc | apply Kd.R_drewN | apply Kd.R_drew)); exact Kd.R_mono (Kd.R_far (p := ⟨gb110, 2, none⟩) (Kd.R_types HO121.out BK110.out (by decide)) (fun _ hk => hk.2) (.int .i64 (rd y119 t122))) (fun _ hk => trivial)), fun _ => ⟨_, rfl⟩, fun _ => (by repeat (first | (with_reducible first | exact HI0.out | apply IsS48.alloc | apply IsS48.drewN | apply IsS48.drew | apply IsS48.set_1 | refine IsS48.far ?_ NB0_109.out _ | refine IsS48.far ?_ NB0_110.out _) | exact HI0.out)), fun _ h1_ => absurd ((up_self b 11).symm.trans h1_) (by decide), fun _ => (by (with_reducible repeat (first | refine blk_drewN ?_ _ | refine blk_drew ?_ | refine blk_alloc ?_ _)); refine blk_put (cs := #[.int .i64 x111000_2, .int .i64 (wrap64 (1 + t117)), .int .i64 0, .bool false, .int .i64 0, .bool false, .int .i64 0]) ?_ 2 _ rfl; (with_reducible repeat (first | refine blk_drewN ?_ _ | refine blk_drew ?_ | refine blk_alloc ?_ _)); exact BK110.out), Q_X6_⟩
                exact steps_nil
              rintro b a w32 hall ⟨v120, adz_v120, m6_, ha, Q_BK109, Q_BK110, Q_HI0, Q_HK, Q_HB, Q_HI0_e1, Q_HO121, Q_HA_HO121, Q_HI0_e5, Q_BK110_e9, Q_BK110_e11, Q_X6_⟩
              clear BK109 BK110 HB HI0 HK
              have hb1_ := hall 1 (by kernel_rfl)
              have hb2_ := hall 2 (by kernel_rfl)
              have hb3_ := hall 3 (by kernel_rfl)
              have hb5_ := hall 5 (by kernel_rfl)
              have hb6_ := hall 6 (by kernel_rfl)
              have hb7_ := hall 7 (by kernel_rfl)
              have hb8_ := hall 8 (by kernel_rfl)
              have hb9_ := hall 9 (by kernel_rfl)
              have hb10_ := hall 10 (by kernel_rfl)
              have hb11_ := hall 11 (by kernel_rfl)
              subst ha
              obtain rfl := Q_X6_ hb6_
              simp only [putSel, hb1_, hb2_, hb3_, hb5_, hb6_, hb7_, hb8_, hb9_, hb10_, hb11_, if_true, Act.put, List.setIfInBounds_toArray, List.set_cons_zero, List.set_cons_succ]
              have BK109 := Aside0.mk Q_BK109
              clear Q_BK109
              clear Q_BK110
              clear Q_HI0
              have HK := Aside0.mk Q_HK
              clear Q_HK
              have HB := Aside0.mk Q_HB
              clear Q_HB
              clear Q_HI0_e1
              have HO121 := Aside0.mk (Q_HO121 hb3_)
              clear Q_HO121
              have HA_HO121 := Aside0.mk (Q_HA_HO121 hb3_)
              clear Q_HA_HO121
              have HI0 := Aside0.mk (Q_HI0_e5 hb5_)
              clear Q_HI0_e5
              clear Q_BK110_e9
              have BK110 := Aside0.mk (Q_BK110_e11 hb11_)
              clear Q_BK110_e11
              clear hall hb1_ hb2_ hb3_ hb5_ hb6_ hb7_ hb8_ hb9_ hb10_ hb11_
              obtain ⟨co33, eo33⟩ := HA_HO121.out
              clear HA_HO121
              subst eo33
              try go_wp2
              go_meet
              case rel => exact ⟨_, (t123), (wrap64 (1 + t117)), (rd y119 t122), H', ⟨by have := HJ2.out; first | omega | exact Nat.le_refl _⟩, ⟨by (with_reducible repeat (first | refine blk_drewN ?_ _ | refine blk_drew ?_ | refine blk_alloc ?_ _)); exact BK109.out⟩, ⟨by (with_reducible repeat (first | refine blk_drewN ?_ _ | refine blk_drew ?_ | refine blk_alloc ?_ _)); exact BK110.out⟩, ⟨by repeat (first | (with_reducible first | exact HI0.out | apply IsS48.alloc | apply IsS48.drewN | apply IsS48.drew | apply IsS48.set_1 | refine IsS48.far ?_ NB0_109.out _ | refine IsS48.far ?_ NB0_110.out _) | exact HI0.out)⟩, ⟨by repeat (first | (with_reducible first | exact HK.out | apply KeepBut.set_ | apply keep_drewN | apply keep_drew | apply keep_alloc | refine keep_far ?_ GW109.out _ | refine keep_far ?_ GW110.out _) | exact HK.out)⟩, ⟨by repeat (first | (with_reducible first | exact HB.out | apply below_alloc | apply pw_below_drewN | apply below_drew1 | refine below_set ?_ (IsS48.ge HI0.out) | refine below_set ?_ GE109.out | refine below_set ?_ GE110.out) | exact HB.out)⟩⟩
            · rw [if_neg c23] at H
              exact absurd H (by simp)
          · rw [if_neg c22] at H
            exact absurd H (by simp)
        · rw [if_neg c19] at H
          have c19b0 : (t115 == 1) = false := beq_eq_false_iff_ne.mpr c19
          have c19b1 : (t115 != 1) = true := bne_iff_ne.mpr c19
          (first | rw [c19b0] | (simp only [i64_w, i32_w]; rw [c19b0]) | skip)
          have H' := Aside0.mk H
          clear H
          go_wp2
          go_meet
          case rel => exact ⟨_, (t116), (0), (0), H', ⟨by have := HJ2.out; first | omega | exact Nat.le_refl _⟩, ⟨by (with_reducible repeat (first | refine blk_drewN ?_ _ | refine blk_drew ?_ | refine blk_alloc ?_ _)); exact BK109.out⟩, ⟨by (with_reducible repeat (first | refine blk_drewN ?_ _ | refine blk_drew ?_ | refine blk_alloc ?_ _)); exact BK110.out⟩, ⟨by repeat (first | (with_reducible first | exact HI0.out | apply IsS48.alloc | apply IsS48.drewN | apply IsS48.drew | apply IsS48.set_1 | refine IsS48.far ?_ NB0_109.out _ | refine IsS48.far ?_ NB0_110.out _) | exact HI0.out)⟩, ⟨by repeat (first | (with_reducible first | exact HK.out | apply KeepBut.set_ | apply keep_drewN | apply keep_drew | apply keep_alloc | refine keep_far ?_ GW109.out _ | refine keep_far ?_ GW110.out _) | exact HK.out)⟩, ⟨by repeat (first | (with_reducible first | exact HB.out | apply below_alloc | apply pw_below_drewN | apply below_drew1 | refine below_set ?_ (IsS48.ge HI0.out) | refine below_set ?_ GE109.out | refine below_set ?_ GE110.out) | exact HB.out)⟩⟩
      case rest =>
        clear HC17
        try clear c1
        try clear qi1
        try clear c2
        try clear p2
        try clear c5
        try clear c6
        try clear p6
        try clear c7
        try clear c10
        try clear c10b0
        try clear qi12
        try clear c13
        try clear c14
        try clear c19
        try clear c19b0
        try clear c19b1
        try clear c22
        try clear c22b0
        try clear c23
        try clear c23b0
        try clear hcz15_0
        try clear hcz15_1
        try clear hcz15_2
        try clear hcz15_3
        try clear hcz15_4
        try clear hcz15_5
        try clear hcz15_6
        try clear hcz8_0
        try clear hcz8_1
        try clear hcz8_2
        try clear hcz8_3
        try clear hcz8_4
        try clear hcz8_5
        try clear hcz8_6
        try clear hfz15_0
        try clear hfz15_1
        try clear hfz15_2
        try clear hfz15_3
        try clear hfz15_4
        try clear hfz15_5
        try clear hfz15_6
        try clear hfz8_0
        try clear hfz8_1
        try clear hfz8_2
        try clear hfz8_3
        try clear hfz8_4
        try clear hfz8_5
        try clear hfz8_6
        try clear p2
        try clear p6
        obtain ⟨kq, x1001_16, x111001_16, x111002_16, HA, HJ16, BK109, BK110, HI0, HK, HB⟩ := hcut
        cases kq with
        | zero => exact absurd HA.out (by simp [customsmade_Source_duty.j1])
        | succ kj16 =>
          have H := HA.out
          clear HA
          simp only [customsmade_Source_duty.j1] at H
          replace H := Option.bind_eq_some_iff.mp H
          obtain ⟨⟨t125, t126⟩, A340, H⟩ := H
          replace H : (if t125 = 1 then ((customsmade_Source_rate.f s0_0 t126).bind fun bt127 => (customsmade_Source_duty.j2 kj16 s0_0 bt127.2 x111000_2 x111001_16 x111002_16 true bt127.1 false 0)) else (customsmade_Source_duty.j2 kj16 s0_0 t126 x111000_2 x111001_16 x111002_16 false 0 false 0)) = some (r1, r2, r3, r4, r5, r6, r7, r8) := H
          have A34 := Aside0.mk A340
          clear A340
          have HC35 := Aside0.mk H
          clear H
          go_upto_if 27 with (first | ((with_reducible refine gate_callee (f := 50) rfl ?_); refine goesL_ (some 26) rfl rfl Tryd.func50 (by kernel_rfl) rfl #[.pointer (some ⟨g, 0, none⟩), .int .i64 4] rfl (by (try simp only [List.map_toArray, List.map_cons, List.map_nil]); first | done | rfl | (simp only [List.length_drop, List.length_take]; rfl)) ?_; (with_reducible refine (customsmade_Source_Next.calls g s0_0 x1001_16 4 t125 t126 w0 _ ?side1 ?side2 A34.out).mono ?_); (case side1 => repeat (first | (with_reducible first | exact HI0.out | apply IsS48.alloc | apply IsS48.drewN | apply IsS48.drew | apply IsS48.set_1 | refine IsS48.far ?_ NB0_109.out _ | refine IsS48.far ?_ NB0_110.out _) | exact HI0.out)); (case side2 => repeat (first | (with_reducible first | exact HB.out | apply below_alloc | apply pw_below_drewN | apply below_drew1 | refine below_set ?_ (IsS48.ge HI0.out) | refine below_set ?_ GE109.out | refine below_set ?_ GE110.out) | exact HB.out)); rintro e w36 ⟨rfl, hi, hb, hk⟩; refine ⟨_, rfl, ?_⟩; have n0_ := Aside0.mk (KeepBut.blk hk (g' := gb109) (o := .cells #[.int .i64 0, .int .i64 0, .int .i64 0, .bool false, .int .i64 0, .bool false, .int .i64 0] 23 (0, 0)) (by (with_reducible repeat (first | refine blk_drewN ?_ _ | refine blk_drew ?_ | refine blk_alloc ?_ _)); exact BK109.out) NB109_0.out (by simp)); have n1_ := Aside0.mk (KeepBut.blk hk (g' := gb110) (o := .cells #[.int .i64 x111000_2, .int .i64 x111001_16, .int .i64 x111002_16, .bool false, .int .i64 0, .bool false, .int .i64 0] 23 (0, 0)) (by (with_reducible repeat (first | refine blk_drewN ?_ _ | refine blk_drew ?_ | refine blk_alloc ?_ _)); exact BK110.out) NB110_0.out (by simp)); have n2_ := Aside0.mk (KeepBut.trans (by repeat (first | (with_reducible first | exact HK.out | apply KeepBut.set_ | apply keep_drewN | apply keep_drew | apply keep_alloc | refine keep_far ?_ GW109.out _ | refine keep_far ?_ GW110.out _) | exact HK.out)) hk (.inl rfl)); have n3_ := Aside0.mk (hb); have n4_ := Aside0.mk (hi); clear BK109; clear BK110; clear HK; clear HB; clear HI0; have BK109 := n0_; have BK110 := n1_; have HK := n2_; have HB := n3_; have HI0 := n4_; clear n0_ n1_ n2_ n3_ n4_; (try clear hb); (try clear hb2); (try clear hk); (try clear hi)))
          (try simp only [Act.put, List.setIfInBounds_toArray, List.set_cons_zero, List.set_cons_succ])
          go_cut [] (fun wc => ∃ (kq : Nat) (x1001_34 : Int) (x111003_34 : Bool) (x111004_34 : Int), Aside0 (customsmade_Source_duty.j2 kq s0_0 x1001_34 x111000_2 x111001_16 x111002_16 x111003_34 x111004_34 false 0 = some (r1, r2, r3, r4, r5, r6, r7, r8)) ∧ Aside0 (kq ≤ kj16) ∧ Aside0 (wc.heap[gb109]? = some (.cells #[.int .i64 0, .int .i64 0, .int .i64 0, .bool false, .int .i64 0, .bool false, .int .i64 0] 23 (0, 0))) ∧ Aside0 (wc.heap[gb110]? = some (.cells #[.int .i64 x111000_2, .int .i64 x111001_16, .int .i64 x111002_16, .bool x111003_34, .int .i64 x111004_34, .bool false, .int .i64 0] 23 (0, 0))) ∧ Aside0 (IsS48 w0 wc g s0_0 x1001_34) ∧ Aside0 (KeepBut w wc g none) ∧ Aside0 (Below w0.heap.size w0 wc))
          case first =>
            have H := HC35.out
            clear HC35
            by_cases c37 : t125 = 1
            · rw [if_pos c37] at H
              have c37b0 : (t125 == 1) = true := beq_iff_eq.mpr c37
              have c37b1 : (t125 != 1) = false := bne_eq_false_iff_eq.mpr c37
              clear c37
              (first | rw [c37b0] | (simp only [i64_w, i32_w]; rw [c37b0]) | skip)
              replace H := Option.bind_eq_some_iff.mp H
              obtain ⟨⟨t127, t128⟩, A380, H⟩ := H
              replace H : (customsmade_Source_duty.j2 kj16 s0_0 t128 x111000_2 x111001_16 x111002_16 true t127 false 0) = some (r1, r2, r3, r4, r5, r6, r7, r8) := H
              have A38 := Aside0.mk A380
              clear A380
              have H' := Aside0.mk H
              clear H
              go_wp2_with (first | ((with_reducible refine gate_callee (f := 51) rfl ?_); refine goesL_ (some 29) rfl rfl Tryd.func51 (by kernel_rfl) rfl #[.pointer (some ⟨g, 0, none⟩)] rfl (by (try simp only [List.map_toArray, List.map_cons, List.map_nil]); first | done | rfl | (simp only [List.length_drop, List.length_take]; rfl)) ?_; (with_reducible refine (customsmade_Source_rate.calls g s0_0 t126 t127 t128 w0 _ ?side1 ?side2 A38.out).mono ?_); (case side1 => repeat (first | (with_reducible first | exact HI0.out | apply IsS48.alloc | apply IsS48.drewN | apply IsS48.drew | apply IsS48.set_1 | refine IsS48.far ?_ NB0_109.out _ | refine IsS48.far ?_ NB0_110.out _) | exact HI0.out)); (case side2 => repeat (first | (with_reducible first | exact HB.out | apply below_alloc | apply pw_below_drewN | apply below_drew1 | refine below_set ?_ (IsS48.ge HI0.out) | refine below_set ?_ GE109.out | refine below_set ?_ GE110.out) | exact HB.out)); rintro e w39 ⟨rfl, hi, hb, hk⟩; refine ⟨_, rfl, ?_⟩; have n0_ := Aside0.mk (KeepBut.blk hk (g' := gb109) (o := .cells #[.int .i64 0, .int .i64 0, .int .i64 0, .bool false, .int .i64 0, .bool false, .int .i64 0] 23 (0, 0)) (by (with_reducible repeat (first | refine blk_drewN ?_ _ | refine blk_drew ?_ | refine blk_alloc ?_ _)); exact BK109.out) NB109_0.out (by simp)); have n1_ := Aside0.mk (KeepBut.blk hk (g' := gb110) (o := .cells #[.int .i64 x111000_2, .int .i64 x111001_16, .int .i64 x111002_16, .bool false, .int .i64 0, .bool false, .int .i64 0] 23 (0, 0)) (by (with_reducible repeat (first | refine blk_drewN ?_ _ | refine blk_drew ?_ | refine blk_alloc ?_ _)); exact BK110.out) NB110_0.out (by simp)); have n2_ := Aside0.mk (KeepBut.trans (by repeat (first | (with_reducible first | exact HK.out | apply KeepBut.set_ | apply keep_drewN | apply keep_drew | apply keep_alloc | refine keep_far ?_ GW109.out _ | refine keep_far ?_ GW110.out _) | exact HK.out)) hk (.inl rfl)); have n3_ := Aside0.mk (hb); have n4_ := Aside0.mk (hi); clear BK109; clear BK110; clear HK; clear HB; clear HI0; have BK109 := n0_; have BK110 := n1_; have HK := n2_; have HB := n3_; have HI0 := n4_; clear n0_ n1_ n2_ n3_ n4_; (try clear hb); (try clear hb2); (try clear hk); (try clear hi); have hnb40 := NB110_109.out; have hnc40 := NB109_110.out; have hnb41 := NB110_0.out; have hnc41 := NB0_110.out; have hcz42_0 : w39.cell? ⟨gb110, 0, none⟩ = some (.int .i64 x111000_2) := (blk_cell BK110.out 0).trans rfl; have hcz42_1 : w39.cell? ⟨gb110, 1, none⟩ = some (.int .i64 x111001_16) := (blk_cell BK110.out 1).trans rfl; have hcz42_2 : w39.cell? ⟨gb110, 2, none⟩ = some (.int .i64 x111002_16) := (blk_cell BK110.out 2).trans rfl; have hcz42_3 : w39.cell? ⟨gb110, 3, none⟩ = some (.bool false) := (blk_cell BK110.out 3).trans rfl; have hcz42_4 : w39.cell? ⟨gb110, 4, none⟩ = some (.int .i64 0) := (blk_cell BK110.out 4).trans rfl; have hcz42_5 : w39.cell? ⟨gb110, 5, none⟩ = some (.bool false) := (blk_cell BK110.out 5).trans rfl; have hcz42_6 : w39.cell? ⟨gb110, 6, none⟩ = some (.int .i64 0) := (blk_cell BK110.out 6).trans rfl; have hfz42_0 := blk_frozen BK110.out 0; have hfz42_1 := blk_frozen BK110.out 1; have hfz42_2 := blk_frozen BK110.out 2; have hfz42_3 := blk_frozen BK110.out 3; have hfz42_4 := blk_frozen BK110.out 4; have hfz42_5 := blk_frozen BK110.out 5; have hfz42_6 := blk_frozen BK110.out 6))
              go_meet
              case rel => exact ⟨_, (t128), (true), (t127), H', ⟨by have := HJ2.out; have := HJ16.out; first | omega | exact Nat.le_refl _⟩, ⟨by (with_reducible repeat (first | refine blk_drewN ?_ _ | refine blk_drew ?_ | refine blk_alloc ?_ _)); refine blk_far ?_ NB109_110.out _; (with_reducible repeat (first | refine blk_drewN ?_ _ | refine blk_drew ?_ | refine blk_alloc ?_ _)); refine blk_far ?_ NB109_110.out _; (with_reducible repeat (first | refine blk_drewN ?_ _ | refine blk_drew ?_ | refine blk_alloc ?_ _)); exact BK109.out⟩, ⟨by (with_reducible repeat (first | refine blk_drewN ?_ _ | refine blk_drew ?_ | refine blk_alloc ?_ _)); refine blk_put (cs := #[.int .i64 x111000_2, .int .i64 x111001_16, .int .i64 x111002_16, .bool true, .int .i64 0, .bool false, .int .i64 0]) ?_ 4 _ rfl; (with_reducible repeat (first | refine blk_drewN ?_ _ | refine blk_drew ?_ | refine blk_alloc ?_ _)); refine blk_put (cs := #[.int .i64 x111000_2, .int .i64 x111001_16, .int .i64 x111002_16, .bool false, .int .i64 0, .bool false, .int .i64 0]) ?_ 3 _ rfl; (with_reducible repeat (first | refine blk_drewN ?_ _ | refine blk_drew ?_ | refine blk_alloc ?_ _)); exact BK110.out⟩, ⟨by repeat (first | (with_reducible first | exact HI0.out | apply IsS48.alloc | apply IsS48.drewN | apply IsS48.drew | apply IsS48.set_1 | refine IsS48.far ?_ NB0_109.out _ | refine IsS48.far ?_ NB0_110.out _) | exact HI0.out)⟩, ⟨by repeat (first | (with_reducible first | exact HK.out | apply KeepBut.set_ | apply keep_drewN | apply keep_drew | apply keep_alloc | refine keep_far ?_ GW109.out _ | refine keep_far ?_ GW110.out _) | exact HK.out)⟩, ⟨by repeat (first | (with_reducible first | exact HB.out | apply below_alloc | apply pw_below_drewN | apply below_drew1 | refine below_set ?_ (IsS48.ge HI0.out) | refine below_set ?_ GE109.out | refine below_set ?_ GE110.out) | exact HB.out)⟩⟩
            · rw [if_neg c37] at H
              have c37b0 : (t125 == 1) = false := beq_eq_false_iff_ne.mpr c37
              have c37b1 : (t125 != 1) = true := bne_iff_ne.mpr c37
              (first | rw [c37b0] | (simp only [i64_w, i32_w]; rw [c37b0]) | skip)
              have H' := Aside0.mk H
              clear H
              go_wp2
              go_meet
              case rel => exact ⟨_, (t126), (false), (0), H', ⟨by have := HJ2.out; have := HJ16.out; first | omega | exact Nat.le_refl _⟩, ⟨by (with_reducible repeat (first | refine blk_drewN ?_ _ | refine blk_drew ?_ | refine blk_alloc ?_ _)); exact BK109.out⟩, ⟨by (with_reducible repeat (first | refine blk_drewN ?_ _ | refine blk_drew ?_ | refine blk_alloc ?_ _)); exact BK110.out⟩, ⟨by repeat (first | (with_reducible first | exact HI0.out | apply IsS48.alloc | apply IsS48.drewN | apply IsS48.drew | apply IsS48.set_1 | refine IsS48.far ?_ NB0_109.out _ | refine IsS48.far ?_ NB0_110.out _) | exact HI0.out)⟩, ⟨by repeat (first | (with_reducible first | exact HK.out | apply KeepBut.set_ | apply keep_drewN | apply keep_drew | apply keep_alloc | refine keep_far ?_ GW109.out _ | refine keep_far ?_ GW110.out _) | exact HK.out)⟩, ⟨by repeat (first | (with_reducible first | exact HB.out | apply below_alloc | apply pw_below_drewN | apply below_drew1 | refine below_set ?_ (IsS48.ge HI0.out) | refine below_set ?_ GE109.out | refine below_set ?_ GE110.out) | exact HB.out)⟩⟩
          case rest =>
            clear HC35
            try clear c1
            try clear qi1
            try clear c2
            try clear p2
            try clear c3
            try clear c4
            try clear c5
            try clear c6
            try clear p6
            try clear c7
            try clear c10
            try clear c10b0
            try clear qi12
            try clear c13
            try clear c14
            try clear c19
            try clear c19b0
            try clear c19b1
            try clear c22
            try clear c22b0
            try clear c23
            try clear c23b0
            try clear c37
            try clear c37b0
            try clear c37b1
            try clear c40
            try clear c41
            try clear hcz15_0
            try clear hcz15_1
            try clear hcz15_2
            try clear hcz15_3
            try clear hcz15_4
            try clear hcz15_5
            try clear hcz15_6
            try clear hcz42_0
            try clear hcz42_1
            try clear hcz42_2
            try clear hcz42_3
            try clear hcz42_4
            try clear hcz42_5
            try clear hcz42_6
            try clear hcz8_0
            try clear hcz8_1
            try clear hcz8_2
            try clear hcz8_3
            try clear hcz8_4
            try clear hcz8_5
            try clear hcz8_6
            try clear hfz15_0
            try clear hfz15_1
            try clear hfz15_2
            try clear hfz15_3
            try clear hfz15_4
            try clear hfz15_5
            try clear hfz15_6
            try clear hfz42_0
            try clear hfz42_1
            try clear hfz42_2
            try clear hfz42_3
            try clear hfz42_4
            try clear hfz42_5
            try clear hfz42_6
            try clear hfz8_0
            try clear hfz8_1
            try clear hfz8_2
            try clear hfz8_3
            try clear hfz8_4
            try clear hfz8_5
            try clear hfz8_6
            try clear p2
            try clear p6
            obtain ⟨kq, x1001_34, x111003_34, x111004_34, HA, HJ34, BK109, BK110, HI0, HK, HB⟩ := hcut
            cases kq with
            | zero => exact absurd HA.out (by simp [customsmade_Source_duty.j2])
            | succ kj34 =>
              have H := HA.out
              clear HA
              simp only [customsmade_Source_duty.j2] at H
              replace H := Option.bind_eq_some_iff.mp H
              obtain ⟨⟨t129, t130⟩, A430, H⟩ := H
              replace H : (if t129 = 1 then ((customsmade_Source_rate.f s0_0 t130).bind fun bt131 => (if x111003_34 = true then (some (x111000_2, x111001_16, x111002_16, x111003_34, x111004_34, true, mn (wrap64 (Int.tdiv bt131.1 8)) x111004_34, bt131.2)) else (some (x111000_2, x111001_16, x111002_16, x111003_34, x111004_34, true, wrap64 (Int.tdiv bt131.1 8), bt131.2)))) else (some (x111000_2, x111001_16, x111002_16, x111003_34, x111004_34, false, 0, t130))) = some (r1, r2, r3, r4, r5, r6, r7, r8) := H
              have A43 := Aside0.mk A430
              clear A430
              by_cases c44 : t129 = 1
              · rw [if_pos c44] at H
                have c44b0 : (t129 == 1) = true := beq_iff_eq.mpr c44
                have c44b1 : (t129 != 1) = false := bne_eq_false_iff_eq.mpr c44
                clear c44
                replace H := Option.bind_eq_some_iff.mp H
                obtain ⟨⟨t131, t132⟩, A450, H⟩ := H
                replace H : (if x111003_34 = true then (some (x111000_2, x111001_16, x111002_16, x111003_34, x111004_34, true, mn (wrap64 (Int.tdiv t131 8)) x111004_34, t132)) else (some (x111000_2, x111001_16, x111002_16, x111003_34, x111004_34, true, wrap64 (Int.tdiv t131 8), t132))) = some (r1, r2, r3, r4, r5, r6, r7, r8) := H
                have A45 := Aside0.mk A450
                clear A450
                by_cases c46 : x111003_34 = true
                · subst c46
                  have H1 : (some (x111000_2, x111001_16, x111002_16, true, x111004_34, true, mn (wrap64 (Int.tdiv t131 8)) x111004_34, t132)) = some (r1, r2, r3, r4, r5, r6, r7, r8) := by rw [if_pos rfl] at H; exact H
                  clear H
                  have H := H1
                  clear H1
                  obtain ⟨ji47, hji47⟩ : ∃ j_ : Int, (mn (wrap64 (Int.tdiv t131 8)) x111004_34) = j_ := ⟨_, rfl⟩
                  replace H : (some (x111000_2, x111001_16, x111002_16, true, x111004_34, true, ji47, t132)) = some (r1, r2, r3, r4, r5, r6, r7, r8) := by first | (rw [hji47] at H; exact H) | (simp only [hji47] at H ⊢; exact H)
                  (try rw [hji47] at A43)
                  (try rw [hji47] at A45)
                  have hji47_ : (if x111004_34 < (wrap64 (Int.tdiv t131 8)) then x111004_34 else (wrap64 (Int.tdiv t131 8))) = ji47 := hji47
                  simp only [Option.some.injEq, Prod.mk.injEq] at H
                  obtain ⟨rfl, rfl, rfl, rfl, rfl, rfl, rfl, rfl⟩ := H
                  go_wp2_with (first | ((with_reducible refine gate_callee (f := 50) rfl ?_); refine goesL_ (some 33) rfl rfl Tryd.func50 (by kernel_rfl) rfl #[.pointer (some ⟨g, 0, none⟩), .int .i64 4] rfl (by (try simp only [List.map_toArray, List.map_cons, List.map_nil]); first | done | rfl | (simp only [List.length_drop, List.length_take]; rfl)) ?_; (with_reducible refine (customsmade_Source_Next.calls g s0_0 x1001_34 4 t129 t130 w0 _ ?side1 ?side2 A43.out).mono ?_); (case side1 => repeat (first | (with_reducible first | exact HI0.out | apply IsS48.alloc | apply IsS48.drewN | apply IsS48.drew | apply IsS48.set_1 | refine IsS48.far ?_ NB0_109.out _ | refine IsS48.far ?_ NB0_110.out _) | exact HI0.out)); (case side2 => repeat (first | (with_reducible first | exact HB.out | apply below_alloc | apply pw_below_drewN | apply below_drew1 | refine below_set ?_ (IsS48.ge HI0.out) | refine below_set ?_ GE109.out | refine below_set ?_ GE110.out) | exact HB.out)); rintro e w48 ⟨rfl, hi, hb, hk⟩; refine ⟨_, rfl, ?_⟩; have n0_ := Aside0.mk (KeepBut.blk hk (g' := gb109) (o := .cells #[.int .i64 0, .int .i64 0, .int .i64 0, .bool false, .int .i64 0, .bool false, .int .i64 0] 23 (0, 0)) (by (with_reducible repeat (first | refine blk_drewN ?_ _ | refine blk_drew ?_ | refine blk_alloc ?_ _)); exact BK109.out) NB109_0.out (by simp)); have n1_ := Aside0.mk (KeepBut.blk hk (g' := gb110) (o := .cells #[.int .i64 x111000_2, .int .i64 x111001_16, .int .i64 x111002_16, .bool true, .int .i64 x111004_34, .bool false, .int .i64 0] 23 (0, 0)) (by (with_reducible repeat (first | refine blk_drewN ?_ _ | refine blk_drew ?_ | refine blk_alloc ?_ _)); exact BK110.out) NB110_0.out (by simp)); have n2_ := Aside0.mk (KeepBut.trans (by repeat (first | (with_reducible first | exact HK.out | apply KeepBut.set_ | apply keep_drewN | apply keep_drew | apply keep_alloc | refine keep_far ?_ GW109.out _ | refine keep_far ?_ GW110.out _) | exact HK.out)) hk (.inl rfl)); have n3_ := Aside0.mk (hb); have n4_ := Aside0.mk (hi); clear BK109; clear BK110; clear HK; clear HB; clear HI0; have BK109 := n0_; have BK110 := n1_; have HK := n2_; have HB := n3_; have HI0 := n4_; clear n0_ n1_ n2_ n3_ n4_; (try clear hb); (try clear hb2); (try clear hk); (try clear hi)) | ((with_reducible refine gate_callee (f := 51) rfl ?_); refine goesL_ (some 36) rfl rfl Tryd.func51 (by kernel_rfl) rfl #[.pointer (some ⟨g, 0, none⟩)] rfl (by (try simp only [List.map_toArray, List.map_cons, List.map_nil]); first | done | rfl | (simp only [List.length_drop, List.length_take]; rfl)) ?_; (with_reducible refine (customsmade_Source_rate.calls g s0_0 t130 t131 t132 w0 _ ?side1 ?side2 A45.out).mono ?_); (case side1 => repeat (first | (with_reducible first | exact HI0.out | apply IsS48.alloc | apply IsS48.drewN | apply IsS48.drew | apply IsS48.set_1 | refine IsS48.far ?_ NB0_109.out _ | refine IsS48.far ?_ NB0_110.out _) | exact HI0.out)); (case side2 => repeat (first | (with_reducible first | exact HB.out | apply below_alloc | apply pw_below_drewN | apply below_drew1 | refine below_set ?_ (IsS48.ge HI0.out) | refine below_set ?_ GE109.out | refine below_set ?_ GE110.out) | exact HB.out)); rintro e w49 ⟨rfl, hi, hb, hk⟩; refine ⟨_, rfl, ?_⟩; have n0_ := Aside0.mk (KeepBut.blk hk (g' := gb109) (o := .cells #[.int .i64 0, .int .i64 0, .int .i64 0, .bool false, .int .i64 0, .bool false, .int .i64 0] 23 (0, 0)) (by (with_reducible repeat (first | refine blk_drewN ?_ _ | refine blk_drew ?_ | refine blk_alloc ?_ _)); exact BK109.out) NB109_0.out (by simp)); have n1_ := Aside0.mk (KeepBut.blk hk (g' := gb110) (o := .cells #[.int .i64 x111000_2, .int .i64 x111001_16, .int .i64 x111002_16, .bool true, .int .i64 x111004_34, .bool false, .int .i64 0] 23 (0, 0)) (by (with_reducible repeat (first | refine blk_drewN ?_ _ | refine blk_drew ?_ | refine blk_alloc ?_ _)); exact BK110.out) NB110_0.out (by simp)); have n2_ := Aside0.mk (KeepBut.trans (by repeat (first | (with_reducible first | exact HK.out | apply KeepBut.set_ | apply keep_drewN | apply keep_drew | apply keep_alloc | refine keep_far ?_ GW109.out _ | refine keep_far ?_ GW110.out _) | exact HK.out)) hk (.inl rfl)); have n3_ := Aside0.mk (hb); have n4_ := Aside0.mk (hi); clear BK109; clear BK110; clear HK; clear HB; clear HI0; have BK109 := n0_; have BK110 := n1_; have HK := n2_; have HB := n3_; have HI0 := n4_; clear n0_ n1_ n2_ n3_ n4_; (try clear hb); (try clear hb2); (try clear hk); (try clear hi); have hnb50 := NB110_109.out; have hnc50 := NB109_110.out; have hnb51 := NB110_0.out; have hnc51 := NB0_110.out; have hcz52_0 : w49.cell? ⟨gb110, 0, none⟩ = some (.int .i64 x111000_2) := (blk_cell BK110.out 0).trans rfl; have hcz52_1 : w49.cell? ⟨gb110, 1, none⟩ = some (.int .i64 x111001_16) := (blk_cell BK110.out 1).trans rfl; have hcz52_2 : w49.cell? ⟨gb110, 2, none⟩ = some (.int .i64 x111002_16) := (blk_cell BK110.out 2).trans rfl; have hcz52_3 : w49.cell? ⟨gb110, 3, none⟩ = some (.bool true) := (blk_cell BK110.out 3).trans rfl; have hcz52_4 : w49.cell? ⟨gb110, 4, none⟩ = some (.int .i64 x111004_34) := (blk_cell BK110.out 4).trans rfl; have hcz52_5 : w49.cell? ⟨gb110, 5, none⟩ = some (.bool false) := (blk_cell BK110.out 5).trans rfl; have hcz52_6 : w49.cell? ⟨gb110, 6, none⟩ = some (.int .i64 0) := (blk_cell BK110.out 6).trans rfl; have hfz52_0 := blk_frozen BK110.out 0; have hfz52_1 := blk_frozen BK110.out 1; have hfz52_2 := blk_frozen BK110.out 2; have hfz52_3 := blk_frozen BK110.out 3; have hfz52_4 := blk_frozen BK110.out 4; have hfz52_5 := blk_frozen BK110.out 5; have hfz52_6 := blk_frozen BK110.out 6; have hnb53 := NB109_0.out; have hnc53 := NB0_109.out; have hcz54_0 : w49.cell? ⟨gb109, 0, none⟩ = some (.int .i64 0) := (blk_cell BK109.out 0).trans rfl; have hcz54_1 : w49.cell? ⟨gb109, 1, none⟩ = some (.int .i64 0) := (blk_cell BK109.out 1).trans rfl; have hcz54_2 : w49.cell? ⟨gb109, 2, none⟩ = some (.int .i64 0) := (blk_cell BK109.out 2).trans rfl; have hcz54_3 : w49.cell? ⟨gb109, 3, none⟩ = some (.bool false) := (blk_cell BK109.out 3).trans rfl; have hcz54_4 : w49.cell? ⟨gb109, 4, none⟩ = some (.int .i64 0) := (blk_cell BK109.out 4).trans rfl; have hcz54_5 : w49.cell? ⟨gb109, 5, none⟩ = some (.bool false) := (blk_cell BK109.out 5).trans rfl; have h66 : ((w49.setCell ⟨gb110, 5, none⟩ (.bool true)).setCell ⟨gb110, 6, none⟩ (.int .i64 (wrap64 (Int.tdiv t131 8)))).cell? ⟨gb110, 6, none⟩ = some (.int .i64 (wrap64 (Int.tdiv t131 8))) := (blk_cell (blk_put (cs' := #[.int .i64 x111000_2, .int .i64 x111001_16, .int .i64 x111002_16, .bool true, .int .i64 x111004_34, .bool true, .int .i64 (wrap64 (Int.tdiv t131 8))]) (blk_put (cs := #[.int .i64 x111000_2, .int .i64 x111001_16, .int .i64 x111002_16, .bool true, .int .i64 x111004_34, .bool false, .int .i64 0]) (cs' := #[.int .i64 x111000_2, .int .i64 x111001_16, .int .i64 x111002_16, .bool true, .int .i64 x111004_34, .bool true, .int .i64 0]) BK110.out 5 (.bool true) rfl) 6 (.int .i64 (wrap64 (Int.tdiv t131 8))) rfl) 6).trans rfl; have hf66 := blk_frozen (blk_put (cs' := #[.int .i64 x111000_2, .int .i64 x111001_16, .int .i64 x111002_16, .bool true, .int .i64 x111004_34, .bool true, .int .i64 (wrap64 (Int.tdiv t131 8))]) (blk_put (cs := #[.int .i64 x111000_2, .int .i64 x111001_16, .int .i64 x111002_16, .bool true, .int .i64 x111004_34, .bool false, .int .i64 0]) (cs' := #[.int .i64 x111000_2, .int .i64 x111001_16, .int .i64 x111002_16, .bool true, .int .i64 x111004_34, .bool true, .int .i64 0]) BK110.out 5 (.bool true) rfl) 6 (.int .i64 (wrap64 (Int.tdiv t131 8))) rfl) 6; have hcz54_6 : w49.cell? ⟨gb109, 6, none⟩ = some (.int .i64 0) := (blk_cell BK109.out 6).trans rfl; have hfz54_0 := blk_frozen BK109.out 0; have hfz54_1 := blk_frozen BK109.out 1; have hfz54_2 := blk_frozen BK109.out 2; have hfz54_3 := blk_frozen BK109.out 3; have hfz54_4 := blk_frozen BK109.out 4; have hfz54_5 := blk_frozen BK109.out 5; have hfz54_6 := blk_frozen BK109.out 6))
                  refine bodyPost_ret (results_cell_row rfl _ _ gb109 23 #[.int .i64 x111000_2, .int .i64 x111001_16, .int .i64 x111002_16, .bool true, .int .i64 x111004_34, .bool true, .int .i64 ji47] (0, 0) _ rfl (by (with_reducible repeat (first | refine blk_drewN ?_ _ | refine blk_drew ?_ | refine blk_alloc ?_ _)); refine blk_put (cs := #[.int .i64 x111000_2, .int .i64 x111001_16, .int .i64 x111002_16, .bool true, .int .i64 x111004_34, .bool true, .int .i64 0]) ?_ 6 _ rfl; (with_reducible repeat (first | refine blk_drewN ?_ _ | refine blk_drew ?_ | refine blk_alloc ?_ _)); refine blk_put (cs := #[.int .i64 x111000_2, .int .i64 x111001_16, .int .i64 x111002_16, .bool true, .int .i64 x111004_34, .bool false, .int .i64 0]) ?_ 5 _ rfl; (with_reducible repeat (first | refine blk_drewN ?_ _ | refine blk_drew ?_ | refine blk_alloc ?_ _)); refine blk_put (cs := #[.int .i64 x111000_2, .int .i64 x111001_16, .int .i64 x111002_16, .bool true, .int .i64 0, .bool false, .int .i64 0]) ?_ 4 _ rfl; (with_reducible repeat (first | refine blk_drewN ?_ _ | refine blk_drew ?_ | refine blk_alloc ?_ _)); refine blk_put (cs := #[.int .i64 x111000_2, .int .i64 x111001_16, .int .i64 x111002_16, .bool false, .int .i64 0, .bool false, .int .i64 0]) ?_ 3 _ rfl; (with_reducible repeat (first | refine blk_drewN ?_ _ | refine blk_drew ?_ | refine blk_alloc ?_ _)); refine blk_put (cs := #[.int .i64 x111000_2, .int .i64 x111001_16, .int .i64 0, .bool false, .int .i64 0, .bool false, .int .i64 0]) ?_ 2 _ rfl; (with_reducible repeat (first | refine blk_drewN ?_ _ | refine blk_drew ?_ | refine blk_alloc ?_ _)); refine blk_put (cs := #[.int .i64 x111000_2, .int .i64 0, .int .i64 0, .bool false, .int .i64 0, .bool false, .int .i64 0]) ?_ 1 _ rfl; (with_reducible repeat (first | refine blk_drewN ?_ _ | refine blk_drew ?_ | refine blk_alloc ?_ _)); refine blk_put (cs := #[.int .i64 0, .int .i64 0, .int .i64 0, .bool false, .int .i64 0, .bool false, .int .i64 0]) ?_ 0 _ rfl; (with_reducible repeat (first | refine blk_drewN ?_ _ | refine blk_drew ?_ | refine blk_alloc ?_ _)); refine blk_far ?_ NB109_110.out _; (with_reducible repeat (first | refine blk_drewN ?_ _ | refine blk_drew ?_ | refine blk_alloc ?_ _)); refine blk_far ?_ NB109_110.out _; (with_reducible repeat (first | refine blk_drewN ?_ _ | refine blk_drew ?_ | refine blk_alloc ?_ _)); refine blk_far ?_ NB109_110.out _; (with_reducible repeat (first | refine blk_drewN ?_ _ | refine blk_drew ?_ | refine blk_alloc ?_ _)); exact BK109.out) Tryd.underlying23 rfl (by kernel_rfl)) rfl ?_
                  exact ⟨by first | rfl | (simp [errW_none, errW_some] <;> rfl) | (simp only [← hji47]; first | rfl | (simp [errW_none, errW_some] <;> rfl)) | (simp [*, errW_none, errW_some] <;> rfl), by repeat (first | (with_reducible first | exact HI0.out | apply IsS48.alloc | apply IsS48.drewN | apply IsS48.drew | apply IsS48.set_1 | refine IsS48.far ?_ NB0_109.out _ | refine IsS48.far ?_ NB0_110.out _) | exact HI0.out), by repeat (first | (with_reducible first | exact HB.out | apply below_alloc | apply pw_below_drewN | apply below_drew1 | refine below_set ?_ (IsS48.ge HI0.out) | refine below_set ?_ GE109.out | refine below_set ?_ GE110.out) | exact HB.out), by repeat (first | (with_reducible first | exact HK.out | apply KeepBut.set_ | apply keep_drewN | apply keep_drew | apply keep_alloc | refine keep_far ?_ GW109.out _ | refine keep_far ?_ GW110.out _) | exact HK.out)⟩
                · replace c46 := Bool.eq_false_iff.mpr c46
                  subst c46
                  have H1 : (some (x111000_2, x111001_16, x111002_16, false, x111004_34, true, wrap64 (Int.tdiv t131 8), t132)) = some (r1, r2, r3, r4, r5, r6, r7, r8) := by rw [if_neg (show ¬ (false = true) by decide)] at H; exact H
                  clear H
                  have H := H1
                  clear H1
                  simp only [Option.some.injEq, Prod.mk.injEq] at H
                  obtain ⟨rfl, rfl, rfl, rfl, rfl, rfl, rfl, rfl⟩ := H
                  go_wp2_with (first | ((with_reducible refine gate_callee (f := 50) rfl ?_); refine goesL_ (some 33) rfl rfl Tryd.func50 (by kernel_rfl) rfl #[.pointer (some ⟨g, 0, none⟩), .int .i64 4] rfl (by (try simp only [List.map_toArray, List.map_cons, List.map_nil]); first | done | rfl | (simp only [List.length_drop, List.length_take]; rfl)) ?_; (with_reducible refine (customsmade_Source_Next.calls g s0_0 x1001_34 4 t129 t130 w0 _ ?side1 ?side2 A43.out).mono ?_); (case side1 => repeat (first | (with_reducible first | exact HI0.out | apply IsS48.alloc | apply IsS48.drewN | apply IsS48.drew | apply IsS48.set_1 | refine IsS48.far ?_ NB0_109.out _ | refine IsS48.far ?_ NB0_110.out _) | exact HI0.out)); (case side2 => repeat (first | (with_reducible first | exact HB.out | apply below_alloc | apply pw_below_drewN | apply below_drew1 | refine below_set ?_ (IsS48.ge HI0.out) | refine below_set ?_ GE109.out | refine below_set ?_ GE110.out) | exact HB.out)); rintro e w55 ⟨rfl, hi, hb, hk⟩; refine ⟨_, rfl, ?_⟩; have n0_ := Aside0.mk (KeepBut.blk hk (g' := gb109) (o := .cells #[.int .i64 0, .int .i64 0, .int .i64 0, .bool false, .int .i64 0, .bool false, .int .i64 0] 23 (0, 0)) (by (with_reducible repeat (first | refine blk_drewN ?_ _ | refine blk_drew ?_ | refine blk_alloc ?_ _)); exact BK109.out) NB109_0.out (by simp)); have n1_ := Aside0.mk (KeepBut.blk hk (g' := gb110) (o := .cells #[.int .i64 x111000_2, .int .i64 x111001_16, .int .i64 x111002_16, .bool false, .int .i64 x111004_34, .bool false, .int .i64 0] 23 (0, 0)) (by (with_reducible repeat (first | refine blk_drewN ?_ _ | refine blk_drew ?_ | refine blk_alloc ?_ _)); exact BK110.out) NB110_0.out (by simp)); have n2_ := Aside0.mk (KeepBut.trans (by repeat (first | (with_reducible first | exact HK.out | apply KeepBut.set_ | apply keep_drewN | apply keep_drew | apply keep_alloc | refine keep_far ?_ GW109.out _ | refine keep_far ?_ GW110.out _) | exact HK.out)) hk (.inl rfl)); have n3_ := Aside0.mk (hb); have n4_ := Aside0.mk (hi); clear BK109; clear BK110; clear HK; clear HB; clear HI0; have BK109 := n0_; have BK110 := n1_; have HK := n2_; have HB := n3_; have HI0 := n4_; clear n0_ n1_ n2_ n3_ n4_; (try clear hb); (try clear hb2); (try clear hk); (try clear hi)) | ((with_reducible refine gate_callee (f := 51) rfl ?_); refine goesL_ (some 36) rfl rfl Tryd.func51 (by kernel_rfl) rfl #[.pointer (some ⟨g, 0, none⟩)] rfl (by (try simp only [List.map_toArray, List.map_cons, List.map_nil]); first | done | rfl | (simp only [List.length_drop, List.length_take]; rfl)) ?_; (with_reducible refine (customsmade_Source_rate.calls g s0_0 t130 t131 t132 w0 _ ?side1 ?side2 A45.out).mono ?_); (case side1 => repeat (first | (with_reducible first | exact HI0.out | apply IsS48.alloc | apply IsS48.drewN | apply IsS48.drew | apply IsS48.set_1 | refine IsS48.far ?_ NB0_109.out _ | refine IsS48.far ?_ NB0_110.out _) | exact HI0.out)); (case side2 => repeat (first | (with_reducible first | exact HB.out | apply below_alloc | apply pw_below_drewN | apply below_drew1 | refine below_set ?_ (IsS48.ge HI0.out) | refine below_set ?_ GE109.out | refine below_set ?_ GE110.out) | exact HB.out)); rintro e w56 ⟨rfl, hi, hb, hk⟩; refine ⟨_, rfl, ?_⟩; have n0_ := Aside0.mk (KeepBut.blk hk (g' := gb109) (o := .cells #[.int .i64 0, .int .i64 0, .int .i64 0, .bool false, .int .i64 0, .bool false, .int .i64 0] 23 (0, 0)) (by (with_reducible repeat (first | refine blk_drewN ?_ _ | refine blk_drew ?_ | refine blk_alloc ?_ _)); exact BK109.out) NB109_0.out (by simp)); have n1_ := Aside0.mk (KeepBut.blk hk (g' := gb110) (o := .cells #[.int .i64 x111000_2, .int .i64 x111001_16, .int .i64 x111002_16, .bool false, .int .i64 x111004_34, .bool false, .int .i64 0] 23 (0, 0)) (by (with_reducible repeat (first | refine blk_drewN ?_ _ | refine blk_drew ?_ | refine blk_alloc ?_ _)); exact BK110.out) NB110_0.out (by simp)); have n2_ := Aside0.mk (KeepBut.trans (by repeat (first | (with_reducible first | exact HK.out | apply KeepBut.set_ | apply keep_drewN | apply keep_drew | apply keep_alloc | refine keep_far ?_ GW109.out _ | refine keep_far ?_ GW110.out _) | exact HK.out)) hk (.inl rfl)); have n3_ := Aside0.mk (hb); have n4_ := Aside0.mk (hi); clear BK109; clear BK110; clear HK; clear HB; clear HI0; have BK109 := n0_; have BK110 := n1_; have HK := n2_; have HB := n3_; have HI0 := n4_; clear n0_ n1_ n2_ n3_ n4_; (try clear hb); (try clear hb2); (try clear hk); (try clear hi); have hnb57 := NB110_109.out; have hnc57 := NB109_110.out; have hnb58 := NB110_0.out; have hnc58 := NB0_110.out; have hcz59_0 : w56.cell? ⟨gb110, 0, none⟩ = some (.int .i64 x111000_2) := (blk_cell BK110.out 0).trans rfl; have hcz59_1 : w56.cell? ⟨gb110, 1, none⟩ = some (.int .i64 x111001_16) := (blk_cell BK110.out 1).trans rfl; have hcz59_2 : w56.cell? ⟨gb110, 2, none⟩ = some (.int .i64 x111002_16) := (blk_cell BK110.out 2).trans rfl; have hcz59_3 : w56.cell? ⟨gb110, 3, none⟩ = some (.bool false) := (blk_cell BK110.out 3).trans rfl; have hcz59_4 : w56.cell? ⟨gb110, 4, none⟩ = some (.int .i64 x111004_34) := (blk_cell BK110.out 4).trans rfl; have hcz59_5 : w56.cell? ⟨gb110, 5, none⟩ = some (.bool false) := (blk_cell BK110.out 5).trans rfl; have hcz59_6 : w56.cell? ⟨gb110, 6, none⟩ = some (.int .i64 0) := (blk_cell BK110.out 6).trans rfl; have hfz59_0 := blk_frozen BK110.out 0; have hfz59_1 := blk_frozen BK110.out 1; have hfz59_2 := blk_frozen BK110.out 2; have hfz59_3 := blk_frozen BK110.out 3; have hfz59_4 := blk_frozen BK110.out 4; have hfz59_5 := blk_frozen BK110.out 5; have hfz59_6 := blk_frozen BK110.out 6; have hnb60 := NB109_0.out; have hnc60 := NB0_109.out; have hcz61_0 : w56.cell? ⟨gb109, 0, none⟩ = some (.int .i64 0) := (blk_cell BK109.out 0).trans rfl; have hcz61_1 : w56.cell? ⟨gb109, 1, none⟩ = some (.int .i64 0) := (blk_cell BK109.out 1).trans rfl; have hcz61_2 : w56.cell? ⟨gb109, 2, none⟩ = some (.int .i64 0) := (blk_cell BK109.out 2).trans rfl; have hcz61_3 : w56.cell? ⟨gb109, 3, none⟩ = some (.bool false) := (blk_cell BK109.out 3).trans rfl; have hcz61_4 : w56.cell? ⟨gb109, 4, none⟩ = some (.int .i64 0) := (blk_cell BK109.out 4).trans rfl; have hcz61_5 : w56.cell? ⟨gb109, 5, none⟩ = some (.bool false) := (blk_cell BK109.out 5).trans rfl; have hcz61_6 : w56.cell? ⟨gb109, 6, none⟩ = some (.int .i64 0) := (blk_cell BK109.out 6).trans rfl; have hfz61_0 := blk_frozen BK109.out 0; have hfz61_1 := blk_frozen BK109.out 1; have hfz61_2 := blk_frozen BK109.out 2; have hfz61_3 := blk_frozen BK109.out 3; have hfz61_4 := blk_frozen BK109.out 4; have hfz61_5 := blk_frozen BK109.out 5; have hfz61_6 := blk_frozen BK109.out 6))
                  refine bodyPost_ret (results_cell_row rfl _ _ gb109 23 #[.int .i64 x111000_2, .int .i64 x111001_16, .int .i64 x111002_16, .bool false, .int .i64 x111004_34, .bool true, .int .i64 (wrap64 (Int.tdiv t131 8))] (0, 0) _ rfl (by (with_reducible repeat (first | refine blk_drewN ?_ _ | refine blk_drew ?_ | refine blk_alloc ?_ _)); refine blk_put (cs := #[.int .i64 x111000_2, .int .i64 x111001_16, .int .i64 x111002_16, .bool false, .int .i64 x111004_34, .bool true, .int .i64 0]) ?_ 6 _ rfl; (with_reducible repeat (first | refine blk_drewN ?_ _ | refine blk_drew ?_ | refine blk_alloc ?_ _)); refine blk_put (cs := #[.int .i64 x111000_2, .int .i64 x111001_16, .int .i64 x111002_16, .bool false, .int .i64 x111004_34, .bool false, .int .i64 0]) ?_ 5 _ rfl; (with_reducible repeat (first | refine blk_drewN ?_ _ | refine blk_drew ?_ | refine blk_alloc ?_ _)); refine blk_put (cs := #[.int .i64 x111000_2, .int .i64 x111001_16, .int .i64 x111002_16, .bool false, .int .i64 0, .bool false, .int .i64 0]) ?_ 4 _ rfl; (with_reducible repeat (first | refine blk_drewN ?_ _ | refine blk_drew ?_ | refine blk_alloc ?_ _)); refine blk_put (cs := #[.int .i64 x111000_2, .int .i64 x111001_16, .int .i64 x111002_16, .bool false, .int .i64 0, .bool false, .int .i64 0]) ?_ 3 _ rfl; (with_reducible repeat (first | refine blk_drewN ?_ _ | refine blk_drew ?_ | refine blk_alloc ?_ _)); refine blk_put (cs := #[.int .i64 x111000_2, .int .i64 x111001_16, .int .i64 0, .bool false, .int .i64 0, .bool false, .int .i64 0]) ?_ 2 _ rfl; (with_reducible repeat (first | refine blk_drewN ?_ _ | refine blk_drew ?_ | refine blk_alloc ?_ _)); refine blk_put (cs := #[.int .i64 x111000_2, .int .i64 0, .int .i64 0, .bool false, .int .i64 0, .bool false, .int .i64 0]) ?_ 1 _ rfl; (with_reducible repeat (first | refine blk_drewN ?_ _ | refine blk_drew ?_ | refine blk_alloc ?_ _)); refine blk_put (cs := #[.int .i64 0, .int .i64 0, .int .i64 0, .bool false, .int .i64 0, .bool false, .int .i64 0]) ?_ 0 _ rfl; (with_reducible repeat (first | refine blk_drewN ?_ _ | refine blk_drew ?_ | refine blk_alloc ?_ _)); refine blk_far ?_ NB109_110.out _; (with_reducible repeat (first | refine blk_drewN ?_ _ | refine blk_drew ?_ | refine blk_alloc ?_ _)); refine blk_far ?_ NB109_110.out _; (with_reducible repeat (first | refine blk_drewN ?_ _ | refine blk_drew ?_ | refine blk_alloc ?_ _)); exact BK109.out) Tryd.underlying23 rfl (by kernel_rfl)) rfl ?_
                  exact ⟨by first | rfl | (simp [errW_none, errW_some] <;> rfl) | (simp [*, errW_none, errW_some] <;> rfl), by repeat (first | (with_reducible first | exact HI0.out | apply IsS48.alloc | apply IsS48.drewN | apply IsS48.drew | apply IsS48.set_1 | refine IsS48.far ?_ NB0_109.out _ | refine IsS48.far ?_ NB0_110.out _) | exact HI0.out), by repeat (first | (with_reducible first | exact HB.out | apply below_alloc | apply pw_below_drewN | apply below_drew1 | refine below_set ?_ (IsS48.ge HI0.out) | refine below_set ?_ GE109.out | refine below_set ?_ GE110.out) | exact HB.out), by repeat (first | (with_reducible first | exact HK.out | apply KeepBut.set_ | apply keep_drewN | apply keep_drew | apply keep_alloc | refine keep_far ?_ GW109.out _ | refine keep_far ?_ GW110.out _) | exact HK.out)⟩
              · rw [if_neg c44] at H
                have c44b0 : (t129 == 1) = false := beq_eq_false_iff_ne.mpr c44
                have c44b1 : (t129 != 1) = true := bne_iff_ne.mpr c44
                simp only [Option.some.injEq, Prod.mk.injEq] at H
                obtain ⟨rfl, rfl, rfl, rfl, rfl, rfl, rfl, rfl⟩ := H
                go_wp2_with (first | ((with_reducible refine gate_callee (f := 50) rfl ?_); refine goesL_ (some 33) rfl rfl Tryd.func50 (by kernel_rfl) rfl #[.pointer (some ⟨g, 0, none⟩), .int .i64 4] rfl (by (try simp only [List.map_toArray, List.map_cons, List.map_nil]); first | done | rfl | (simp only [List.length_drop, List.length_take]; rfl)) ?_; (with_reducible refine (customsmade_Source_Next.calls g s0_0 x1001_34 4 t129 t130 w0 _ ?side1 ?side2 A43.out).mono ?_); (case side1 => repeat (first | (with_reducible first | exact HI0.out | apply IsS48.alloc | apply IsS48.drewN | apply IsS48.drew | apply IsS48.set_1 | refine IsS48.far ?_ NB0_109.out _ | refine IsS48.far ?_ NB0_110.out _) | exact HI0.out)); (case side2 => repeat (first | (with_reducible first | exact HB.out | apply below_alloc | apply pw_below_drewN | apply below_drew1 | refine below_set ?_ (IsS48.ge HI0.out) | refine below_set ?_ GE109.out | refine below_set ?_ GE110.out) | exact HB.out)); rintro e w62 ⟨rfl, hi, hb, hk⟩; refine ⟨_, rfl, ?_⟩; have n0_ := Aside0.mk (KeepBut.blk hk (g' := gb109) (o := .cells #[.int .i64 0, .int .i64 0, .int .i64 0, .bool false, .int .i64 0, .bool false, .int .i64 0] 23 (0, 0)) (by (with_reducible repeat (first | refine blk_drewN ?_ _ | refine blk_drew ?_ | refine blk_alloc ?_ _)); exact BK109.out) NB109_0.out (by simp)); have n1_ := Aside0.mk (KeepBut.blk hk (g' := gb110) (o := .cells #[.int .i64 x111000_2, .int .i64 x111001_16, .int .i64 x111002_16, .bool x111003_34, .int .i64 x111004_34, .bool false, .int .i64 0] 23 (0, 0)) (by (with_reducible repeat (first | refine blk_drewN ?_ _ | refine blk_drew ?_ | refine blk_alloc ?_ _)); exact BK110.out) NB110_0.out (by simp)); have n2_ := Aside0.mk (KeepBut.trans (by repeat (first | (with_reducible first | exact HK.out | apply KeepBut.set_ | apply keep_drewN | apply keep_drew | apply keep_alloc | refine keep_far ?_ GW109.out _ | refine keep_far ?_ GW110.out _) | exact HK.out)) hk (.inl rfl)); have n3_ := Aside0.mk (hb); have n4_ := Aside0.mk (hi); clear BK109; clear BK110; clear HK; clear HB; clear HI0; have BK109 := n0_; have BK110 := n1_; have HK := n2_; have HB := n3_; have HI0 := n4_; clear n0_ n1_ n2_ n3_ n4_; (try clear hb); (try clear hb2); (try clear hk); (try clear hi); have hnb63 := NB110_109.out; have hnc63 := NB109_110.out; have hnb64 := NB110_0.out; have hnc64 := NB0_110.out; have hcz65_0 : w62.cell? ⟨gb110, 0, none⟩ = some (.int .i64 x111000_2) := (blk_cell BK110.out 0).trans rfl; have hcz65_1 : w62.cell? ⟨gb110, 1, none⟩ = some (.int .i64 x111001_16) := (blk_cell BK110.out 1).trans rfl; have hcz65_2 : w62.cell? ⟨gb110, 2, none⟩ = some (.int .i64 x111002_16) := (blk_cell BK110.out 2).trans rfl; have hcz65_3 : w62.cell? ⟨gb110, 3, none⟩ = some (.bool x111003_34) := (blk_cell BK110.out 3).trans rfl; have hcz65_4 : w62.cell? ⟨gb110, 4, none⟩ = some (.int .i64 x111004_34) := (blk_cell BK110.out 4).trans rfl; have hcz65_5 : w62.cell? ⟨gb110, 5, none⟩ = some (.bool false) := (blk_cell BK110.out 5).trans rfl; have hcz65_6 : w62.cell? ⟨gb110, 6, none⟩ = some (.int .i64 0) := (blk_cell BK110.out 6).trans rfl; have hfz65_0 := blk_frozen BK110.out 0; have hfz65_1 := blk_frozen BK110.out 1; have hfz65_2 := blk_frozen BK110.out 2; have hfz65_3 := blk_frozen BK110.out 3; have hfz65_4 := blk_frozen BK110.out 4; have hfz65_5 := blk_frozen BK110.out 5; have hfz65_6 := blk_frozen BK110.out 6; have hnb66 := NB109_0.out; have hnc66 := NB0_109.out; have hcz67_0 : w62.cell? ⟨gb109, 0, none⟩ = some (.int .i64 0) := (blk_cell BK109.out 0).trans rfl; have hcz67_1 : w62.cell? ⟨gb109, 1, none⟩ = some (.int .i64 0) := (blk_cell BK109.out 1).trans rfl; have hcz67_2 : w62.cell? ⟨gb109, 2, none⟩ = some (.int .i64 0) := (blk_cell BK109.out 2).trans rfl; have hcz67_3 : w62.cell? ⟨gb109, 3, none⟩ = some (.bool false) := (blk_cell BK109.out 3).trans rfl; have hcz67_4 : w62.cell? ⟨gb109, 4, none⟩ = some (.int .i64 0) := (blk_cell BK109.out 4).trans rfl; have hcz67_5 : w62.cell? ⟨gb109, 5, none⟩ = some (.bool false) := (blk_cell BK109.out 5).trans rfl; have hcz67_6 : w62.cell? ⟨gb109, 6, none⟩ = some (.int .i64 0) := (blk_cell BK109.out 6).trans rfl; have hfz67_0 := blk_frozen BK109.out 0; have hfz67_1 := blk_frozen BK109.out 1; have hfz67_2 := blk_frozen BK109.out 2; have hfz67_3 := blk_frozen BK109.out 3; have hfz67_4 := blk_frozen BK109.out 4; have hfz67_5 := blk_frozen BK109.out 5; have hfz67_6 := blk_frozen BK109.out 6))
                refine bodyPost_ret (results_cell_row rfl _ _ gb109 23 #[.int .i64 x111000_2, .int .i64 x111001_16, .int .i64 x111002_16, .bool x111003_34, .int .i64 x111004_34, .bool false, .int .i64 0] (0, 0) _ rfl (by (with_reducible repeat (first | refine blk_drewN ?_ _ | refine blk_drew ?_ | refine blk_alloc ?_ _)); refine blk_put (cs := #[.int .i64 x111000_2, .int .i64 x111001_16, .int .i64 x111002_16, .bool x111003_34, .int .i64 x111004_34, .bool false, .int .i64 0]) ?_ 6 _ rfl; (with_reducible repeat (first | refine blk_drewN ?_ _ | refine blk_drew ?_ | refine blk_alloc ?_ _)); refine blk_put (cs := #[.int .i64 x111000_2, .int .i64 x111001_16, .int .i64 x111002_16, .bool x111003_34, .int .i64 x111004_34, .bool false, .int .i64 0]) ?_ 5 _ rfl; (with_reducible repeat (first | refine blk_drewN ?_ _ | refine blk_drew ?_ | refine blk_alloc ?_ _)); refine blk_put (cs := #[.int .i64 x111000_2, .int .i64 x111001_16, .int .i64 x111002_16, .bool x111003_34, .int .i64 0, .bool false, .int .i64 0]) ?_ 4 _ rfl; (with_reducible repeat (first | refine blk_drewN ?_ _ | refine blk_drew ?_ | refine blk_alloc ?_ _)); refine blk_put (cs := #[.int .i64 x111000_2, .int .i64 x111001_16, .int .i64 x111002_16, .bool false, .int .i64 0, .bool false, .int .i64 0]) ?_ 3 _ rfl; (with_reducible repeat (first | refine blk_drewN ?_ _ | refine blk_drew ?_ | refine blk_alloc ?_ _)); refine blk_put (cs := #[.int .i64 x111000_2, .int .i64 x111001_16, .int .i64 0, .bool false, .int .i64 0, .bool false, .int .i64 0]) ?_ 2 _ rfl; (with_reducible repeat (first | refine blk_drewN ?_ _ | refine blk_drew ?_ | refine blk_alloc ?_ _)); refine blk_put (cs := #[.int .i64 x111000_2, .int .i64 0, .int .i64 0, .bool false, .int .i64 0, .bool false, .int .i64 0]) ?_ 1 _ rfl; (with_reducible repeat (first | refine blk_drewN ?_ _ | refine blk_drew ?_ | refine blk_alloc ?_ _)); refine blk_put (cs := #[.int .i64 0, .int .i64 0, .int .i64 0, .bool false, .int .i64 0, .bool false, .int .i64 0]) ?_ 0 _ rfl; (with_reducible repeat (first | refine blk_drewN ?_ _ | refine blk_drew ?_ | refine blk_alloc ?_ _)); exact BK109.out) Tryd.underlying23 rfl (by kernel_rfl)) rfl ?_
                exact ⟨by first | rfl | (simp [errW_none, errW_some] <;> rfl) | (simp [*, errW_none, errW_some] <;> rfl), by repeat (first | (with_reducible first | exact HI0.out | apply IsS48.alloc | apply IsS48.drewN | apply IsS48.drew | apply IsS48.set_1 | refine IsS48.far ?_ NB0_109.out _ | refine IsS48.far ?_ NB0_110.out _) | exact HI0.out), by repeat (first | (with_reducible first | exact HB.out | apply below_alloc | apply pw_below_drewN | apply below_drew1 | refine below_set ?_ (IsS48.ge HI0.out) | refine below_set ?_ GE109.out | refine below_set ?_ GE110.out) | exact HB.out), by repeat (first | (with_reducible first | exact HK.out | apply KeepBut.set_ | apply keep_drewN | apply keep_drew | apply keep_alloc | refine keep_far ?_ GW109.out _ | refine keep_far ?_ GW110.out _) | exact HK.out)⟩

end Go.Proofs.YtfpkgdkcllobiaaDoor.F
end
section
namespace Go.Proofs.YtfpkgdkcllobiaaDoor.F
open Go.RowKit Go.Proofs.YtfpkgdkcllobiaaDoorW.PrintWords Go.Proofs.YtfpkgdkcllobiaaDoorW.PrintLast Go.Proofs.YtfpkgdkcllobiaaDoorW.PrintMore
attribute [local go_sem] max2_int min2_int max_two min_two max_three min_three max_four min_four   -- for this text's walks alone
set_option linter.unusedVariables false
set_option linter.unusedSimpArgs false

/-! ### customsmade_Duty: function 10 -/
def customsmade_Duty.f (k : Nat) (l0 : List Int) : Option (Int × Int × Int × Bool × Int × Bool × Int) := (customsmade_Source_duty.f k (l0.take 12) 0).bind fun bt136 => (some (bt136.1, bt136.2.1, bt136.2.2.1, bt136.2.2.2.1, bt136.2.2.2.2.1, bt136.2.2.2.2.2.1, bt136.2.2.2.2.2.2.1))
theorem customsmade_Duty.mono : ∀ a0 k, LeO (customsmade_Duty.f k a0) (customsmade_Duty.f (k + 1) a0) := by
  intro a0 k
  unfold customsmade_Duty.f
  repeat' first
      | (with_reducible exact customsmade_Source_duty.mono _ _ _)
      | (with_reducible exact LeO.refl _)
      | (with_reducible exact LeO.none _)
      | (with_reducible refine LeO.ite ?_ ?_)
      | (with_reducible refine LeO.bind ?_ (fun _ => ?_))
      | exact customsmade_Source_duty.mono _ _ _
      | exact LeO.none _
      | refine LeO.ite ?_ ?_
      | refine LeO.bind ?_ (fun _ => ?_)
set_option maxHeartbeats 8000000 in
set_option maxRecDepth 100000 in
theorem customsmade_Duty.calls (k : Nat) (A0 : Option Addr) (c0 : Nat) (l0 : List Int) (r1 : Int) (r2 : Int) (r3 : Int) (r4 : Bool) (r5 : Int) (r6 : Bool) (r7 : Int) (w : World) (hr0 : Kd.C (Kd.int .i64) w A0 l0.length l0) (hc0 : l0.length ≤ c0) (h : customsmade_Duty.f k l0 = some (r1, r2, r3, r4, r5, r6, r7)) :
    Calls Tryd.prog 10 #[.slice A0 l0.length c0] w fun e w' => e = .returned (.agg #[.int .i64 r1, .int .i64 r2, .int .i64 r3, .bool r4, .int .i64 r5, .bool r6, .int .i64 r7]) ∧ Below w.heap.size w w' := by
  have hu23 := Tryd.underlying23
  have hu48 := Tryd.underlying48
  have HR0 := Aside0.mk hr0
  have HC0 := Aside0.mk hc0
  clear hr0 hc0
  have HB := Aside0.mk (Below.refl w.heap.size w)
  have H : ((customsmade_Source_duty.f k (l0.take 12) 0).bind fun bt136 => (some (bt136.1, bt136.2.1, bt136.2.2.1, bt136.2.2.2.1, bt136.2.2.2.2.1, bt136.2.2.2.2.2.1, bt136.2.2.2.2.2.2.1))) = some (r1, r2, r3, r4, r5, r6, r7) := h
  clear h
  replace H := Option.bind_eq_some_iff.mp H
  obtain ⟨⟨t136, t137, t138, t139, t140, t141, t142, t143⟩, A20, H⟩ := H
  replace H : (some (t136, t137, t138, t139, t140, t141, t142)) = some (r1, r2, r3, r4, r5, r6, r7) := H
  have A2 := Aside0.mk A20
  clear A20
  simp only [Option.some.injEq, Prod.mk.injEq] at H
  obtain ⟨rfl, rfl, rfl, rfl, rfl, rfl, rfl⟩ := H
  go_enter Tryd.func10, Tryd.ntmps10
  go_wp2_with (first | ((with_reducible refine gate_dst (N := 2) rfl ?_); refine box_event ?hg (N := 2) ?hd (cs := #[.int .i64 0, .int .i64 0, .int .i64 0, .bool false, .int .i64 0, .bool false, .int .i64 0]) (t := 23) ?hr ?_; (case hd => rfl); (case hg => rfl); (case hr => first | (go_simp; done) | (go_simp; rfl)); intro gb133 hg w3 hbox hb; have n0_ := Aside0.mk (below_step (by repeat (first | (with_reducible first | exact HB.out | apply below_alloc | apply pw_below_drewN | apply below_drew1) | exact HB.out)) hb); have n1_ := Aside0.mk (hbox); have n2_ := Aside0.mk ((by rw [hg]; exact (below_size (by repeat (first | (with_reducible first | exact HB.out | apply below_alloc | apply pw_below_drewN | apply below_drew1) | exact HB.out))) : w.heap.size ≤ gb133)); have n3_ := Aside0.mk ((by rw [hg]; exact (below_size (by repeat (first | (with_reducible first | exact HB.out | apply below_alloc | apply pw_below_drewN | apply below_drew1) | exact HB.out))) : w.heap.size ≤ gb133)); clear HB; have HB := n0_; have BK133 := n1_; have GW133 := n2_; have GE133 := n3_; clear n0_ n1_ n2_ n3_; clear hb hbox hg; have HR134 := Aside0.mk (cut_C 12 HR0.out); have HC134 := Aside0.mk (cut_cap 12 HC0.out)) | ((with_reducible refine gate_callee (f := 22) rfl ?_); refine goesL_ (some 5) rfl rfl Tryd.func22 (by kernel_rfl) rfl #[.slice A0 l0.length c0, .int .i64 12] rfl (by (try simp only [List.map_toArray, List.map_cons, List.map_nil]); first | done | rfl) ?_; (with_reducible refine (customsmade_Cut.cut A0 c0 l0 12 12 rfl _ HC0.out).mono ?_); rintro e w' ⟨rfl, ⟨nd, rfl⟩⟩; refine ⟨_, rfl, ?_⟩) | ((with_reducible refine gate_dst (N := 7) rfl ?_); refine box_event ?hg (N := 7) ?hd (cs := #[.slice A0 (l0.take 12).length c0, .int .i64 0]) (t := 48) ?hr ?_; (case hd => rfl); (case hg => rfl); (case hr => first | (go_simp; done) | (go_simp; rfl)); intro gb135 hg w4 hbox hb; have n0_ := Aside0.mk (blk_below (g := gb133) (o := .cells #[.int .i64 0, .int .i64 0, .int .i64 0, .bool false, .int .i64 0, .bool false, .int .i64 0] 23 (0, 0)) (by (with_reducible repeat (first | refine blk_drewN ?_ _ | refine blk_drew ?_ | refine blk_alloc ?_ _)); exact BK133.out) hb); have n1_ := Aside0.mk (below_step (by repeat (first | (with_reducible first | exact HB.out | apply below_alloc | apply pw_below_drewN | apply below_drew1 | refine below_set ?_ GE133.out) | exact HB.out)) hb); have n2_ := Aside0.mk (hbox); have n3_ := Aside0.mk ((by rw [hg]; exact (below_size (by repeat (first | (with_reducible first | exact HB.out | apply below_alloc | apply pw_below_drewN | apply below_drew1 | refine below_set ?_ GE133.out) | exact HB.out))) : w.heap.size ≤ gb135)); have n4_ := Aside0.mk ((by rw [hg]; exact (below_size (by repeat (first | (with_reducible first | exact HB.out | apply below_alloc | apply pw_below_drewN | apply below_drew1 | refine below_set ?_ GE133.out) | exact HB.out))) : w.heap.size ≤ gb135)); have n5_ := Aside0.mk ((by rw [hg]; exact Nat.ne_of_lt (blk_lt (g := gb133) (o := .cells #[.int .i64 0, .int .i64 0, .int .i64 0, .bool false, .int .i64 0, .bool false, .int .i64 0] 23 (0, 0)) (by (with_reducible repeat (first | refine blk_drewN ?_ _ | refine blk_drew ?_ | refine blk_alloc ?_ _)); exact BK133.out)) : gb133 ≠ gb135)); have n6_ := Aside0.mk ((by rw [hg]; exact Nat.ne_of_gt (blk_lt (g := gb133) (o := .cells #[.int .i64 0, .int .i64 0, .int .i64 0, .bool false, .int .i64 0, .bool false, .int .i64 0] 23 (0, 0)) (by (with_reducible repeat (first | refine blk_drewN ?_ _ | refine blk_drew ?_ | refine blk_alloc ?_ _)); exact BK133.out)) : gb135 ≠ gb133)); clear BK133; clear HB; have BK133 := n0_; have HB := n1_; have BK135 := n2_; have GW135 := n3_; have GE135 := n4_; have NB133_135 := n5_; have NB135_133 := n6_; clear n0_ n1_ n2_ n3_ n4_ n5_ n6_; clear hb hbox hg) | ((with_reducible refine gate_callee (f := 23) rfl ?_); refine goesL_ (some 9) rfl rfl Tryd.func23 (by kernel_rfl) rfl #[.pointer (some ⟨gb135, 0, none⟩)] rfl (by (try simp only [List.map_toArray, List.map_cons, List.map_nil]); first | done | rfl | (simp only [List.length_drop, List.length_take]; rfl)) ?_; (with_reducible refine (customsmade_Source_duty.calls k gb135 (l0.take 12) 0 t136 t137 t138 t139 t140 t141 t142 t143 w _ ?side1 ?side2 A2.out).mono ?_); (case side1 => unfold IsS48; exact ⟨A0, c0, (by (with_reducible repeat (first | refine blk_drewN ?_ _ | refine blk_drew ?_ | refine blk_alloc ?_ _)); exact BK135.out), GE135.out, HR134.out⟩); (case side2 => repeat (first | (with_reducible first | exact HB.out | apply below_alloc | apply pw_below_drewN | apply below_drew1 | refine below_set ?_ GE135.out | refine below_set ?_ GE133.out) | exact HB.out)); rintro e w5 ⟨rfl, hi, hb, hk⟩; refine ⟨_, rfl, ?_⟩; have n0_ := Aside0.mk (KeepBut.blk hk (g' := gb133) (o := .cells #[.int .i64 0, .int .i64 0, .int .i64 0, .bool false, .int .i64 0, .bool false, .int .i64 0] 23 (0, 0)) (by (with_reducible repeat (first | refine blk_drewN ?_ _ | refine blk_drew ?_ | refine blk_alloc ?_ _)); exact BK133.out) NB133_135.out (by simp)); have n1_ := Aside0.mk (hb); have n2_ := Aside0.mk (hi); clear BK133; clear HB; have BK133 := n0_; have HB := n1_; have HI135 := n2_; clear n0_ n1_ n2_; (try clear hb); (try clear hb2); (try clear hk); (try clear hi); have hnb6 := NB133_135.out; have hnc6 := NB135_133.out; have hcz7_0 : w5.cell? ⟨gb133, 0, none⟩ = some (.int .i64 0) := (blk_cell BK133.out 0).trans rfl; have hcz7_1 : w5.cell? ⟨gb133, 1, none⟩ = some (.int .i64 0) := (blk_cell BK133.out 1).trans rfl; have hcz7_2 : w5.cell? ⟨gb133, 2, none⟩ = some (.int .i64 0) := (blk_cell BK133.out 2).trans rfl; have hcz7_3 : w5.cell? ⟨gb133, 3, none⟩ = some (.bool false) := (blk_cell BK133.out 3).trans rfl; have hcz7_4 : w5.cell? ⟨gb133, 4, none⟩ = some (.int .i64 0) := (blk_cell BK133.out 4).trans rfl; have hcz7_5 : w5.cell? ⟨gb133, 5, none⟩ = some (.bool false) := (blk_cell BK133.out 5).trans rfl; have hcz7_6 : w5.cell? ⟨gb133, 6, none⟩ = some (.int .i64 0) := (blk_cell BK133.out 6).trans rfl; have hfz7_0 := blk_frozen BK133.out 0; have hfz7_1 := blk_frozen BK133.out 1; have hfz7_2 := blk_frozen BK133.out 2; have hfz7_3 := blk_frozen BK133.out 3; have hfz7_4 := blk_frozen BK133.out 4; have hfz7_5 := blk_frozen BK133.out 5; have hfz7_6 := blk_frozen BK133.out 6))
  refine bodyPost_ret (results_cell_row rfl _ _ gb133 23 #[.int .i64 t136, .int .i64 t137, .int .i64 t138, .bool t139, .int .i64 t140, .bool t141, .int .i64 t142] (0, 0) _ rfl (by (with_reducible repeat (first | refine blk_drewN ?_ _ | refine blk_drew ?_ | refine blk_alloc ?_ _)); refine blk_put (cs := #[.int .i64 t136, .int .i64 t137, .int .i64 t138, .bool t139, .int .i64 t140, .bool t141, .int .i64 0]) ?_ 6 _ rfl; (with_reducible repeat (first | refine blk_drewN ?_ _ | refine blk_drew ?_ | refine blk_alloc ?_ _)); refine blk_put (cs := #[.int .i64 t136, .int .i64 t137, .int .i64 t138, .bool t139, .int .i64 t140, .bool false, .int .i64 0]) ?_ 5 _ rfl; (with_reducible repeat (first | refine blk_drewN ?_ _ | refine blk_drew ?_ | refine blk_alloc ?_ _)); refine blk_put (cs := #[.int .i64 t136, .int .i64 t137, .int .i64 t138, .bool t139, .int .i64 0, .bool false, .int .i64 0]) ?_ 4 _ rfl; (with_reducible repeat (first | refine blk_drewN ?_ _ | refine blk_drew ?_ | refine blk_alloc ?_ _)); refine blk_put (cs := #[.int .i64 t136, .int .i64 t137, .int .i64 t138, .bool false, .int .i64 0, .bool false, .int .i64 0]) ?_ 3 _ rfl; (with_reducible repeat (first | refine blk_drewN ?_ _ | refine blk_drew ?_ | refine blk_alloc ?_ _)); refine blk_put (cs := #[.int .i64 t136, .int .i64 t137, .int .i64 0, .bool false, .int .i64 0, .bool false, .int .i64 0]) ?_ 2 _ rfl; (with_reducible repeat (first | refine blk_drewN ?_ _ | refine blk_drew ?_ | refine blk_alloc ?_ _)); refine blk_put (cs := #[.int .i64 t136, .int .i64 0, .int .i64 0, .bool false, .int .i64 0, .bool false, .int .i64 0]) ?_ 1 _ rfl; (with_reducible repeat (first | refine blk_drewN ?_ _ | refine blk_drew ?_ | refine blk_alloc ?_ _)); refine blk_put (cs := #[.int .i64 0, .int .i64 0, .int .i64 0, .bool false, .int .i64 0, .bool false, .int .i64 0]) ?_ 0 _ rfl; (with_reducible repeat (first | refine blk_drewN ?_ _ | refine blk_drew ?_ | refine blk_alloc ?_ _)); exact BK133.out) Tryd.underlying23 rfl (by kernel_rfl)) rfl ?_
  exact ⟨by first | rfl | (simp [errW_none, errW_some] <;> rfl) | (simp [*, errW_none, errW_some] <;> rfl), by repeat (first | (with_reducible first | exact HB.out | apply below_alloc | apply pw_below_drewN | apply below_drew1 | refine below_set ?_ (IsS48.ge HI135.out) | refine below_set ?_ GE133.out) | exact HB.out)⟩

/-! ### duty_rate: function 24 -/
def duty_rate.f (a0 : Int) : Option (Bool) := if a0 ≥ 0 then (some (decide (a0 ≤ 10000000))) else (some false)
set_option maxHeartbeats 8000000 in
set_option maxRecDepth 100000 in
theorem duty_rate.calls (a0 : Int) (r : Bool) (w : World) (h : duty_rate.f a0 = some r) :
    Calls Tryd.prog 24 #[.int .i64 a0] w fun e w' => e = .returned (.bool r) ∧ Drawn0 w w' := by
  have H : (if a0 ≥ 0 then (some (decide (a0 ≤ 10000000))) else (some false)) = some r := h
  clear h
  by_cases c2 : a0 ≥ 0
  · rw [if_pos c2] at H
    have c2b0 : decide (0 ≤ a0) = true := decide_eq_true c2
    clear c2
    obtain rfl := Option.some.inj H
    go_enter Tryd.func24, Tryd.ntmps24
    go_wp2
    go_ret
    exact ⟨by first | rfl | (simp; done) | (simp [*]; done), by repeat (first | exact Drawn0.refl _ | apply Drawn0.step)⟩
  · rw [if_neg c2] at H
    have c2b0 : decide (0 ≤ a0) = false := decide_eq_false c2
    clear c2
    obtain rfl := Option.some.inj H
    go_enter Tryd.func24, Tryd.ntmps24
    go_wp2
    go_ret
    exact ⟨by first | rfl | (simp; done) | (simp [*]; done), by repeat (first | exact Drawn0.refl _ | apply Drawn0.step)⟩

end Go.Proofs.YtfpkgdkcllobiaaDoor.F
end
section
namespace Go.Proofs.YtfpkgdkcllobiaaDoor.F
open Go.RowKit Go.Proofs.YtfpkgdkcllobiaaDoorW.PrintWords Go.Proofs.YtfpkgdkcllobiaaDoorW.PrintLast Go.Proofs.YtfpkgdkcllobiaaDoorW.PrintMore
attribute [local go_sem] max2_int min2_int max_two min_two max_three min_three max_four min_four   -- for this text's walks alone
set_option linter.unusedVariables false
set_option linter.unusedSimpArgs false

theorem eqA23 (d : Nat) (w : World) (x0 y0 : Int) (x1 y1 : Int) (x2 y2 : Int) (x3 y3 : Bool) (x4 y4 : Int) (x5 y5 : Bool) (x6 y6 : Int) :
    (Op.equalIn (d + 2) 23 (.agg #[.int .i64 x0, .int .i64 x1, .int .i64 x2, .bool x3, .int .i64 x4, .bool x5, .int .i64 x6]) (.agg #[.int .i64 y0, .int .i64 y1, .int .i64 y2, .bool y3, .int .i64 y4, .bool y5, .int .i64 y6])).run Tryd.prog w = .ok (x0 == y0 && (x1 == y1 && (x2 == y2 && (x3 == y3 && (x4 == y4 && (x5 == y5 && (x6 == y6))))))) w := by
  refine eqA_of Tryd.underlying23 (by kernel_rfl) ?_
  refine eqf_cons (by rfl) (by go_simp; rfl) (by go_simp; rfl) (by go_simp) ?_
  refine eqf_cons (by rfl) (by go_simp; rfl) (by go_simp; rfl) (by go_simp) ?_
  refine eqf_cons (by rfl) (by go_simp; rfl) (by go_simp; rfl) (by go_simp) ?_
  refine eqf_cons (by rfl) (by go_simp; rfl) (by go_simp; rfl) (by go_simp) ?_
  refine eqf_cons (by rfl) (by go_simp; rfl) (by go_simp; rfl) (by go_simp) ?_
  refine eqf_cons (by rfl) (by go_simp; rfl) (by go_simp; rfl) (by go_simp) ?_
  exact eqf_last (by rfl) (by go_simp; rfl) (by go_simp; rfl) (by go_simp)
end Go.Proofs.YtfpkgdkcllobiaaDoor.F
end
section
namespace Go.Proofs.YtfpkgdkcllobiaaDoor.F
open Go.RowKit Go.Proofs.YtfpkgdkcllobiaaDoorW.PrintWords Go.Proofs.YtfpkgdkcllobiaaDoorW.PrintLast Go.Proofs.YtfpkgdkcllobiaaDoorW.PrintMore
attribute [local go_sem] max2_int min2_int max_two min_two max_three min_three max_four min_four   -- for this text's walks alone
set_option linter.unusedVariables false
set_option linter.unusedSimpArgs false

/-! ### duty_Validate: function 11 -/
mutual
def duty_Validate.j0 : Nat → Bool → Int → Int → Int → Bool → Int → Bool → Int → Option (Int)
  | 0, _, _, _, _, _, _, _, _ => none
  | k + 1, x16, x145000, x145001, x145002, x145003, x145004, x145005, x145006 => if x16 = true then (some 2) else (if x145001 = 0 then (if x145002 = 0 then (if x145001 > 0 then (if x145002 < 1 then (duty_Validate.j1 k true x145000 x145001 x145002 x145003 x145004 x145005 x145006) else (duty_Validate.j1 k (decide (x145002 > 1000000)) x145000 x145001 x145002 x145003 x145004 x145005 x145006)) else (duty_Validate.j1 k false x145000 x145001 x145002 x145003 x145004 x145005 x145006)) else (duty_Validate.j1 k true x145000 x145001 x145002 x145003 x145004 x145005 x145006)) else (if x145001 > 0 then (if x145002 < 1 then (duty_Validate.j1 k true x145000 x145001 x145002 x145003 x145004 x145005 x145006) else (duty_Validate.j1 k (decide (x145002 > 1000000)) x145000 x145001 x145002 x145003 x145004 x145005 x145006)) else (duty_Validate.j1 k false x145000 x145001 x145002 x145003 x145004 x145005 x145006)))
def duty_Validate.j1 : Nat → Bool → Int → Int → Int → Bool → Int → Bool → Int → Option (Int)
  | 0, _, _, _, _, _, _, _, _ => none
  | k + 1, x39, x145000, x145001, x145002, x145003, x145004, x145005, x145006 => if x39 = true then (some 2) else ((duty_rate.f x145004).bind fun t146 => (if t146 = true then ((duty_rate.f x145006).bind fun t147 => (duty_Validate.j2 k (!t147) x145000 x145001 x145002 x145003 x145004 x145005 x145006)) else (duty_Validate.j2 k true x145000 x145001 x145002 x145003 x145004 x145005 x145006)))
def duty_Validate.j2 : Nat → Bool → Int → Int → Int → Bool → Int → Bool → Int → Option (Int)
  | 0, _, _, _, _, _, _, _, _ => none
  | k + 1, x49, x145000, x145001, x145002, x145003, x145004, x145005, x145006 => if x49 = true then (some 2) else (if x145003 = true then (if x145005 = true then (if x145006 > x145004 then (some 1) else (some 0)) else (if x145006 = 0 then (some 0) else (some 1))) else (if x145004 = 0 then (if x145005 = true then (some 0) else (if x145006 = 0 then (some 0) else (some 1))) else (some 1)))
end
def duty_Validate.f (k : Nat) (a0_0 : Int) (a0_1 : Int) (a0_2 : Int) (a0_3 : Bool) (a0_4 : Int) (a0_5 : Bool) (a0_6 : Int) : Option (Int) := (duty_rate.f a0_0).bind fun t145 => (if t145 = true then (if a0_1 < 0 then (duty_Validate.j0 k true a0_0 a0_1 a0_2 a0_3 a0_4 a0_5 a0_6) else (duty_Validate.j0 k (decide (a0_1 > 100000000)) a0_0 a0_1 a0_2 a0_3 a0_4 a0_5 a0_6)) else (duty_Validate.j0 k true a0_0 a0_1 a0_2 a0_3 a0_4 a0_5 a0_6))
theorem duty_Validate.mono_l : ∀ k, (∀ y0 y1 y2 y3 y4 y5 y6 y7, LeO (duty_Validate.j0 k y0 y1 y2 y3 y4 y5 y6 y7) (duty_Validate.j0 (k + 1) y0 y1 y2 y3 y4 y5 y6 y7)) ∧ (∀ y0 y1 y2 y3 y4 y5 y6 y7, LeO (duty_Validate.j1 k y0 y1 y2 y3 y4 y5 y6 y7) (duty_Validate.j1 (k + 1) y0 y1 y2 y3 y4 y5 y6 y7)) ∧ (∀ y0 y1 y2 y3 y4 y5 y6 y7, LeO (duty_Validate.j2 k y0 y1 y2 y3 y4 y5 y6 y7) (duty_Validate.j2 (k + 1) y0 y1 y2 y3 y4 y5 y6 y7))
  | 0 => ⟨fun _ _ _ _ _ _ _ _ r h => by simp [duty_Validate.j0] at h, fun _ _ _ _ _ _ _ _ r h => by simp [duty_Validate.j1] at h, fun _ _ _ _ _ _ _ _ r h => by simp [duty_Validate.j2] at h⟩
  | k + 1 => by
    obtain ⟨ih0, ih1, ih2⟩ := duty_Validate.mono_l k
    refine ⟨?_, ?_, ?_⟩
    · intro y0 y1 y2 y3 y4 y5 y6 y7
      unfold duty_Validate.j0
      repeat' first
      | (with_reducible exact ih0 _ _ _ _ _ _ _ _)
      | (with_reducible exact ih1 _ _ _ _ _ _ _ _)
      | (with_reducible exact ih2 _ _ _ _ _ _ _ _)
      | (with_reducible exact LeO.refl _)
      | (with_reducible exact LeO.none _)
      | (with_reducible refine LeO.ite ?_ ?_)
      | (with_reducible refine LeO.bind ?_ (fun _ => ?_))
      | exact ih0 _ _ _ _ _ _ _ _
      | exact ih1 _ _ _ _ _ _ _ _
      | exact ih2 _ _ _ _ _ _ _ _
      | exact LeO.none _
      | refine LeO.ite ?_ ?_
      | refine LeO.bind ?_ (fun _ => ?_)
    · intro y0 y1 y2 y3 y4 y5 y6 y7
      unfold duty_Validate.j1
      repeat' first
      | (with_reducible exact ih0 _ _ _ _ _ _ _ _)
      | (with_reducible exact ih1 _ _ _ _ _ _ _ _)
      | (with_reducible exact ih2 _ _ _ _ _ _ _ _)
      | (with_reducible exact LeO.refl _)
      | (with_reducible exact LeO.none _)
      | (with_reducible refine LeO.ite ?_ ?_)
      | (with_reducible refine LeO.bind ?_ (fun _ => ?_))
      | exact ih0 _ _ _ _ _ _ _ _
      | exact ih1 _ _ _ _ _ _ _ _
      | exact ih2 _ _ _ _ _ _ _ _
      | exact LeO.none _
      | refine LeO.ite ?_ ?_
      | refine LeO.bind ?_ (fun _ => ?_)
    · intro y0 y1 y2 y3 y4 y5 y6 y7
      unfold duty_Validate.j2
      repeat' first
      | (with_reducible exact ih0 _ _ _ _ _ _ _ _)
      | (with_reducible exact ih1 _ _ _ _ _ _ _ _)
      | (with_reducible exact ih2 _ _ _ _ _ _ _ _)
      | (with_reducible exact LeO.refl _)
      | (with_reducible exact LeO.none _)
      | (with_reducible refine LeO.ite ?_ ?_)
      | (with_reducible refine LeO.bind ?_ (fun _ => ?_))
      | exact ih0 _ _ _ _ _ _ _ _
      | exact ih1 _ _ _ _ _ _ _ _
      | exact ih2 _ _ _ _ _ _ _ _
      | exact LeO.none _
      | refine LeO.ite ?_ ?_
      | refine LeO.bind ?_ (fun _ => ?_)
theorem duty_Validate.mono : ∀ a0 a1 a2 a3 a4 a5 a6 k, LeO (duty_Validate.f k a0 a1 a2 a3 a4 a5 a6) (duty_Validate.f (k + 1) a0 a1 a2 a3 a4 a5 a6) := by
  intro a0 a1 a2 a3 a4 a5 a6 k
  obtain ⟨ih0, ih1, ih2⟩ := duty_Validate.mono_l k
  unfold duty_Validate.f
  repeat' first
      | (with_reducible exact ih0 _ _ _ _ _ _ _ _)
      | (with_reducible exact ih1 _ _ _ _ _ _ _ _)
      | (with_reducible exact ih2 _ _ _ _ _ _ _ _)
      | (with_reducible exact LeO.refl _)
      | (with_reducible exact LeO.none _)
      | (with_reducible refine LeO.ite ?_ ?_)
      | (with_reducible refine LeO.bind ?_ (fun _ => ?_))
      | exact ih0 _ _ _ _ _ _ _ _
      | exact ih1 _ _ _ _ _ _ _ _
      | exact ih2 _ _ _ _ _ _ _ _
      | exact LeO.none _
      | refine LeO.ite ?_ ?_
      | refine LeO.bind ?_ (fun _ => ?_)
set_option maxHeartbeats 8000000 in
set_option maxRecDepth 100000 in
theorem duty_Validate.calls (k : Nat) (a0_0 : Int) (a0_1 : Int) (a0_2 : Int) (a0_3 : Bool) (a0_4 : Int) (a0_5 : Bool) (a0_6 : Int) (r : Int) (w : World) (h : duty_Validate.f k a0_0 a0_1 a0_2 a0_3 a0_4 a0_5 a0_6 = some r) :
    Calls Tryd.prog 11 #[.agg #[.int .i64 a0_0, .int .i64 a0_1, .int .i64 a0_2, .bool a0_3, .int .i64 a0_4, .bool a0_5, .int .i64 a0_6]] w fun e w' => e = .returned (.int .i64 r) ∧ Below w.heap.size w w' := by
  have hu23 := Tryd.underlying23
  have HB := Aside0.mk (Below.refl w.heap.size w)
  have H : ((duty_rate.f a0_0).bind fun t145 => (if t145 = true then (if a0_1 < 0 then (duty_Validate.j0 k true a0_0 a0_1 a0_2 a0_3 a0_4 a0_5 a0_6) else (duty_Validate.j0 k (decide (a0_1 > 100000000)) a0_0 a0_1 a0_2 a0_3 a0_4 a0_5 a0_6)) else (duty_Validate.j0 k true a0_0 a0_1 a0_2 a0_3 a0_4 a0_5 a0_6))) = some r := h
  clear h
  have HC2 := Aside0.mk H
  clear H
  go_enter Tryd.func11, Tryd.ntmps11
  go_upto_region 1 with (first | ((with_reducible refine gate_dst (N := 1) rfl ?_); refine box_event ?hg (N := 1) ?hd (cs := #[.int .i64 a0_0, .int .i64 a0_1, .int .i64 a0_2, .bool a0_3, .int .i64 a0_4, .bool a0_5, .int .i64 a0_6]) (t := 23) ?hr ?_; (case hd => rfl); (case hg => rfl); (case hr => first | (go_simp; done) | (go_simp; rfl)); intro gb144 hg w3 hbox hb; have n0_ := Aside0.mk (below_step (by repeat (first | (with_reducible first | exact HB.out | apply below_alloc | apply pw_below_drewN | apply below_drew1) | exact HB.out)) hb); have n1_ := Aside0.mk (hbox); have n2_ := Aside0.mk ((by rw [hg]; exact (below_size (by repeat (first | (with_reducible first | exact HB.out | apply below_alloc | apply pw_below_drewN | apply below_drew1) | exact HB.out))) : w.heap.size ≤ gb144)); have n3_ := Aside0.mk ((by rw [hg]; exact (below_size (by repeat (first | (with_reducible first | exact HB.out | apply below_alloc | apply pw_below_drewN | apply below_drew1) | exact HB.out))) : w.heap.size ≤ gb144)); clear HB; have HB := n0_; have BK144 := n1_; have GW144 := n2_; have GE144 := n3_; clear n0_ n1_ n2_ n3_; clear hb hbox hg))
  (try simp only [Act.put, List.setIfInBounds_toArray, List.set_cons_zero, List.set_cons_succ])
  go_cut [16] (fun v16 wc => ∃ (kq : Nat) (x16_1 : Bool), v16 = .bool x16_1 ∧ Aside0 (duty_Validate.j0 kq x16_1 a0_0 a0_1 a0_2 a0_3 a0_4 a0_5 a0_6 = some r) ∧ Aside0 (kq ≤ k) ∧ Aside0 (wc.heap[gb144]? = some (.cells #[.int .i64 a0_0, .int .i64 a0_1, .int .i64 a0_2, .bool a0_3, .int .i64 a0_4, .bool a0_5, .int .i64 a0_6] 23 (0, 0))) ∧ Aside0 (Below w.heap.size w wc))
  case first =>
    have H := HC2.out
    clear HC2
    replace H := Option.bind_eq_some_iff.mp H
    obtain ⟨t145, A40, H⟩ := H
    replace H : (if t145 = true then (if a0_1 < 0 then (duty_Validate.j0 k true a0_0 a0_1 a0_2 a0_3 a0_4 a0_5 a0_6) else (duty_Validate.j0 k (decide (a0_1 > 100000000)) a0_0 a0_1 a0_2 a0_3 a0_4 a0_5 a0_6)) else (duty_Validate.j0 k true a0_0 a0_1 a0_2 a0_3 a0_4 a0_5 a0_6)) = some r := H
    have A4 := Aside0.mk A40
    clear A40
    by_cases c5 : t145 = true
    · subst c5
      have H1 : (if a0_1 < 0 then (duty_Validate.j0 k true a0_0 a0_1 a0_2 a0_3 a0_4 a0_5 a0_6) else (duty_Validate.j0 k (decide (a0_1 > 100000000)) a0_0 a0_1 a0_2 a0_3 a0_4 a0_5 a0_6)) = some r := by rw [if_pos rfl] at H; exact H
      clear H
      have H := H1
      clear H1
      by_cases c6 : a0_1 < 0
      · rw [if_pos c6] at H
        have c6b0 : decide (a0_1 < 0) = true := decide_eq_true c6
        clear c6
        (first | rw [c6b0] | (simp only [i64_w, i32_w]; rw [c6b0]) | skip)
        have H' := Aside0.mk H
        clear H
        have hcz7_0 : w3.cell? ⟨gb144, 0, none⟩ = some (.int .i64 a0_0) := (blk_cell BK144.out 0).trans rfl
        have hcz7_1 : w3.cell? ⟨gb144, 1, none⟩ = some (.int .i64 a0_1) := (blk_cell BK144.out 1).trans rfl
        have hcz7_2 : w3.cell? ⟨gb144, 2, none⟩ = some (.int .i64 a0_2) := (blk_cell BK144.out 2).trans rfl
        have hcz7_3 : w3.cell? ⟨gb144, 3, none⟩ = some (.bool a0_3) := (blk_cell BK144.out 3).trans rfl
        have hcz7_4 : w3.cell? ⟨gb144, 4, none⟩ = some (.int .i64 a0_4) := (blk_cell BK144.out 4).trans rfl
        have hcz7_5 : w3.cell? ⟨gb144, 5, none⟩ = some (.bool a0_5) := (blk_cell BK144.out 5).trans rfl
        have hcz7_6 : w3.cell? ⟨gb144, 6, none⟩ = some (.int .i64 a0_6) := (blk_cell BK144.out 6).trans rfl
        have hfz7_0 := blk_frozen BK144.out 0
        have hfz7_1 := blk_frozen BK144.out 1
        have hfz7_2 := blk_frozen BK144.out 2
        have hfz7_3 := blk_frozen BK144.out 3
        have hfz7_4 := blk_frozen BK144.out 4
        have hfz7_5 := blk_frozen BK144.out 5
        have hfz7_6 := blk_frozen BK144.out 6
        go_wp2_with (first | ((with_reducible refine gate_callee (f := 24) rfl ?_); refine goesL_ (some 5) rfl rfl Tryd.func24 (by kernel_rfl) rfl #[.int .i64 a0_0] rfl (by (try simp only [List.map_toArray, List.map_cons, List.map_nil]); first | done | rfl | (simp only [List.length_drop, List.length_take]; rfl)) ?_; (with_reducible refine (duty_rate.calls a0_0 true _ A4.out).mono ?_); rintro e w' ⟨rfl, ⟨nd, rfl⟩⟩; refine ⟨_, rfl, ?_⟩))
        go_meet
        case rel => exact ⟨_, (true), (by first | rfl | (simp; done) | (simp [*]; done)), H', ⟨by first | omega | exact Nat.le_refl _⟩, ⟨by (with_reducible repeat (first | refine blk_drewN ?_ _ | refine blk_drew ?_ | refine blk_alloc ?_ _)); exact BK144.out⟩, ⟨by repeat (first | (with_reducible first | exact HB.out | apply below_alloc | apply pw_below_drewN | apply below_drew1 | refine below_set ?_ GE144.out) | exact HB.out)⟩⟩
      · rw [if_neg c6] at H
        have c6b0 : decide (a0_1 < 0) = false := decide_eq_false c6
        clear c6
        (first | rw [c6b0] | (simp only [i64_w, i32_w]; rw [c6b0]) | skip)
        have H' := Aside0.mk H
        clear H
        have hcz8_0 : w3.cell? ⟨gb144, 0, none⟩ = some (.int .i64 a0_0) := (blk_cell BK144.out 0).trans rfl
        have hcz8_1 : w3.cell? ⟨gb144, 1, none⟩ = some (.int .i64 a0_1) := (blk_cell BK144.out 1).trans rfl
        have hcz8_2 : w3.cell? ⟨gb144, 2, none⟩ = some (.int .i64 a0_2) := (blk_cell BK144.out 2).trans rfl
        have hcz8_3 : w3.cell? ⟨gb144, 3, none⟩ = some (.bool a0_3) := (blk_cell BK144.out 3).trans rfl
        have hcz8_4 : w3.cell? ⟨gb144, 4, none⟩ = some (.int .i64 a0_4) := (blk_cell BK144.out 4).trans rfl
        have hcz8_5 : w3.cell? ⟨gb144, 5, none⟩ = some (.bool a0_5) := (blk_cell BK144.out 5).trans rfl
        have hcz8_6 : w3.cell? ⟨gb144, 6, none⟩ = some (.int .i64 a0_6) := (blk_cell BK144.out 6).trans rfl
        have hfz8_0 := blk_frozen BK144.out 0
        have hfz8_1 := blk_frozen BK144.out 1
        have hfz8_2 := blk_frozen BK144.out 2
        have hfz8_3 := blk_frozen BK144.out 3
        have hfz8_4 := blk_frozen BK144.out 4
        have hfz8_5 := blk_frozen BK144.out 5
        have hfz8_6 := blk_frozen BK144.out 6
        go_wp2_with (first | ((with_reducible refine gate_callee (f := 24) rfl ?_); refine goesL_ (some 5) rfl rfl Tryd.func24 (by kernel_rfl) rfl #[.int .i64 a0_0] rfl (by (try simp only [List.map_toArray, List.map_cons, List.map_nil]); first | done | rfl | (simp only [List.length_drop, List.length_take]; rfl)) ?_; (with_reducible refine (duty_rate.calls a0_0 true _ A4.out).mono ?_); rintro e w' ⟨rfl, ⟨nd, rfl⟩⟩; refine ⟨_, rfl, ?_⟩))
        go_meet
        case rel => exact ⟨_, (decide (a0_1 > 100000000)), (by first | rfl | (simp; done) | (simp [*]; done)), H', ⟨by first | omega | exact Nat.le_refl _⟩, ⟨by (with_reducible repeat (first | refine blk_drewN ?_ _ | refine blk_drew ?_ | refine blk_alloc ?_ _)); exact BK144.out⟩, ⟨by repeat (first | (with_reducible first | exact HB.out | apply below_alloc | apply pw_below_drewN | apply below_drew1 | refine below_set ?_ GE144.out) | exact HB.out)⟩⟩
    · replace c5 := Bool.eq_false_iff.mpr c5
      subst c5
      have H1 : (duty_Validate.j0 k true a0_0 a0_1 a0_2 a0_3 a0_4 a0_5 a0_6) = some r := by rw [if_neg (show ¬ (false = true) by decide)] at H; exact H
      clear H
      have H := H1
      clear H1
      have H' := Aside0.mk H
      clear H
      have hcz9_0 : w3.cell? ⟨gb144, 0, none⟩ = some (.int .i64 a0_0) := (blk_cell BK144.out 0).trans rfl
      have hcz9_1 : w3.cell? ⟨gb144, 1, none⟩ = some (.int .i64 a0_1) := (blk_cell BK144.out 1).trans rfl
      have hcz9_2 : w3.cell? ⟨gb144, 2, none⟩ = some (.int .i64 a0_2) := (blk_cell BK144.out 2).trans rfl
      have hcz9_3 : w3.cell? ⟨gb144, 3, none⟩ = some (.bool a0_3) := (blk_cell BK144.out 3).trans rfl
      have hcz9_4 : w3.cell? ⟨gb144, 4, none⟩ = some (.int .i64 a0_4) := (blk_cell BK144.out 4).trans rfl
      have hcz9_5 : w3.cell? ⟨gb144, 5, none⟩ = some (.bool a0_5) := (blk_cell BK144.out 5).trans rfl
      have hcz9_6 : w3.cell? ⟨gb144, 6, none⟩ = some (.int .i64 a0_6) := (blk_cell BK144.out 6).trans rfl
      have hfz9_0 := blk_frozen BK144.out 0
      have hfz9_1 := blk_frozen BK144.out 1
      have hfz9_2 := blk_frozen BK144.out 2
      have hfz9_3 := blk_frozen BK144.out 3
      have hfz9_4 := blk_frozen BK144.out 4
      have hfz9_5 := blk_frozen BK144.out 5
      have hfz9_6 := blk_frozen BK144.out 6
      go_wp2_with (first | ((with_reducible refine gate_callee (f := 24) rfl ?_); refine goesL_ (some 5) rfl rfl Tryd.func24 (by kernel_rfl) rfl #[.int .i64 a0_0] rfl (by (try simp only [List.map_toArray, List.map_cons, List.map_nil]); first | done | rfl | (simp only [List.length_drop, List.length_take]; rfl)) ?_; (with_reducible refine (duty_rate.calls a0_0 false _ A4.out).mono ?_); rintro e w' ⟨rfl, ⟨nd, rfl⟩⟩; refine ⟨_, rfl, ?_⟩))
      go_meet
      case rel => exact ⟨_, (true), (by first | rfl | (simp; done) | (simp [*]; done)), H', ⟨by first | omega | exact Nat.le_refl _⟩, ⟨by (with_reducible repeat (first | refine blk_drewN ?_ _ | refine blk_drew ?_ | refine blk_alloc ?_ _)); exact BK144.out⟩, ⟨by repeat (first | (with_reducible first | exact HB.out | apply below_alloc | apply pw_below_drewN | apply below_drew1 | refine below_set ?_ GE144.out) | exact HB.out)⟩⟩
  case rest =>
    clear HC2
    try clear c1
    try clear c2
    try clear p2
    try clear c5
    try clear c6
    try clear c6b0
    try clear hcz7_0
    try clear hcz7_1
    try clear hcz7_2
    try clear hcz7_3
    try clear hcz7_4
    try clear hcz7_5
    try clear hcz7_6
    try clear hcz8_0
    try clear hcz8_1
    try clear hcz8_2
    try clear hcz8_3
    try clear hcz8_4
    try clear hcz8_5
    try clear hcz8_6
    try clear hcz9_0
    try clear hcz9_1
    try clear hcz9_2
    try clear hcz9_3
    try clear hcz9_4
    try clear hcz9_5
    try clear hcz9_6
    try clear hfz7_0
    try clear hfz7_1
    try clear hfz7_2
    try clear hfz7_3
    try clear hfz7_4
    try clear hfz7_5
    try clear hfz7_6
    try clear hfz8_0
    try clear hfz8_1
    try clear hfz8_2
    try clear hfz8_3
    try clear hfz8_4
    try clear hfz8_5
    try clear hfz8_6
    try clear hfz9_0
    try clear hfz9_1
    try clear hfz9_2
    try clear hfz9_3
    try clear hfz9_4
    try clear hfz9_5
    try clear hfz9_6
    obtain ⟨kq, x16_1, rfl, HA, HJ1, BK144, HB⟩ := hcut
    cases kq with
    | zero => exact absurd HA.out (by simp [duty_Validate.j0])
    | succ kj1 =>
      have H := HA.out
      clear HA
      simp only [duty_Validate.j0] at H
      by_cases c10 : x16_1 = true
      · subst c10
        have H1 : (some 2) = some r := by rw [if_pos rfl] at H; exact H
        clear H
        have H := H1
        clear H1
        obtain rfl := Option.some.inj H
        go_wp2
        go_ret
        exact ⟨by first | rfl | (simp [errW_none, errW_some] <;> rfl) | (simp [*, errW_none, errW_some] <;> rfl), by repeat (first | (with_reducible first | exact HB.out | apply below_alloc | apply pw_below_drewN | apply below_drew1 | refine below_set ?_ GE144.out) | exact HB.out)⟩
      · replace c10 := Bool.eq_false_iff.mpr c10
        subst c10
        have H1 : (if a0_1 = 0 then (if a0_2 = 0 then (if a0_1 > 0 then (if a0_2 < 1 then (duty_Validate.j1 kj1 true a0_0 a0_1 a0_2 a0_3 a0_4 a0_5 a0_6) else (duty_Validate.j1 kj1 (decide (a0_2 > 1000000)) a0_0 a0_1 a0_2 a0_3 a0_4 a0_5 a0_6)) else (duty_Validate.j1 kj1 false a0_0 a0_1 a0_2 a0_3 a0_4 a0_5 a0_6)) else (duty_Validate.j1 kj1 true a0_0 a0_1 a0_2 a0_3 a0_4 a0_5 a0_6)) else (if a0_1 > 0 then (if a0_2 < 1 then (duty_Validate.j1 kj1 true a0_0 a0_1 a0_2 a0_3 a0_4 a0_5 a0_6) else (duty_Validate.j1 kj1 (decide (a0_2 > 1000000)) a0_0 a0_1 a0_2 a0_3 a0_4 a0_5 a0_6)) else (duty_Validate.j1 kj1 false a0_0 a0_1 a0_2 a0_3 a0_4 a0_5 a0_6))) = some r := by rw [if_neg (show ¬ (false = true) by decide)] at H; exact H
        clear H
        have H := H1
        clear H1
        have HC11 := Aside0.mk H
        clear H
        go_upto_region 3 with (fail)
        go_cut [39] (fun v39 wc => ∃ (kq : Nat) (x39_10 : Bool), v39 = .bool x39_10 ∧ Aside0 (duty_Validate.j1 kq x39_10 a0_0 a0_1 a0_2 a0_3 a0_4 a0_5 a0_6 = some r) ∧ Aside0 (kq ≤ kj1) ∧ Aside0 (wc.heap[gb144]? = some (.cells #[.int .i64 a0_0, .int .i64 a0_1, .int .i64 a0_2, .bool a0_3, .int .i64 a0_4, .bool a0_5, .int .i64 a0_6] 23 (0, 0))) ∧ Aside0 (Below w.heap.size w wc))
        case first =>
          have H := HC11.out
          clear HC11
          by_cases c12 : a0_1 = 0
          · rw [if_pos c12] at H
            have c12b0 : (a0_1 == 0) = true := beq_iff_eq.mpr c12
            have c12b1 : (a0_1 != 0) = false := bne_eq_false_iff_eq.mpr c12
            clear c12
            (first | rw [c12b0] | (simp only [i64_w, i32_w]; rw [c12b0]) | skip)
            by_cases c13 : a0_2 = 0
            · rw [if_pos c13] at H
              have c13b0 : (a0_2 == 0) = true := beq_iff_eq.mpr c13
              have c13b1 : (a0_2 != 0) = false := bne_eq_false_iff_eq.mpr c13
              clear c13
              by_cases c14 : a0_1 > 0
              · rw [if_pos c14] at H
                have c14b0 : decide (0 < a0_1) = true := decide_eq_true c14
                clear c14
                by_cases c15 : a0_2 < 1
                · rw [if_pos c15] at H
                  have c15b0 : decide (a0_2 < 1) = true := decide_eq_true c15
                  clear c15
                  have H' := Aside0.mk H
                  clear H
                  have hcz16_0 : wc.cell? ⟨gb144, 0, none⟩ = some (.int .i64 a0_0) := (blk_cell BK144.out 0).trans rfl
                  have hcz16_1 : wc.cell? ⟨gb144, 1, none⟩ = some (.int .i64 a0_1) := (blk_cell BK144.out 1).trans rfl
                  have hcz16_2 : wc.cell? ⟨gb144, 2, none⟩ = some (.int .i64 a0_2) := (blk_cell BK144.out 2).trans rfl
                  have hcz16_3 : wc.cell? ⟨gb144, 3, none⟩ = some (.bool a0_3) := (blk_cell BK144.out 3).trans rfl
                  have hcz16_4 : wc.cell? ⟨gb144, 4, none⟩ = some (.int .i64 a0_4) := (blk_cell BK144.out 4).trans rfl
                  have hcz16_5 : wc.cell? ⟨gb144, 5, none⟩ = some (.bool a0_5) := (blk_cell BK144.out 5).trans rfl
                  have hcz16_6 : wc.cell? ⟨gb144, 6, none⟩ = some (.int .i64 a0_6) := (blk_cell BK144.out 6).trans rfl
                  have hfz16_0 := blk_frozen BK144.out 0
                  have hfz16_1 := blk_frozen BK144.out 1
                  have hfz16_2 := blk_frozen BK144.out 2
                  have hfz16_3 := blk_frozen BK144.out 3
                  have hfz16_4 := blk_frozen BK144.out 4
                  have hfz16_5 := blk_frozen BK144.out 5
                  have hfz16_6 := blk_frozen BK144.out 6
                  go_wp2
                  go_meet
                  case rel => exact ⟨_, (true), (by first | rfl | (simp; done) | (simp [*]; done)), H', ⟨by have := HJ1.out; first | omega | exact Nat.le_refl _⟩, ⟨by (with_reducible repeat (first | refine blk_drewN ?_ _ | refine blk_drew ?_ | refine blk_alloc ?_ _)); exact BK144.out⟩, ⟨by repeat (first | (with_reducible first | exact HB.out | apply below_alloc | apply pw_below_drewN | apply below_drew1 | refine below_set ?_ GE144.out) | exact HB.out)⟩⟩
                · rw [if_neg c15] at H
                  have c15b0 : decide (a0_2 < 1) = false := decide_eq_false c15
                  clear c15
                  have H' := Aside0.mk H
                  clear H
                  have hcz17_0 : wc.cell? ⟨gb144, 0, none⟩ = some (.int .i64 a0_0) := (blk_cell BK144.out 0).trans rfl
                  have hcz17_1 : wc.cell? ⟨gb144, 1, none⟩ = some (.int .i64 a0_1) := (blk_cell BK144.out 1).trans rfl
                  have hcz17_2 : wc.cell? ⟨gb144, 2, none⟩ = some (.int .i64 a0_2) := (blk_cell BK144.out 2).trans rfl
                  have hcz17_3 : wc.cell? ⟨gb144, 3, none⟩ = some (.bool a0_3) := (blk_cell BK144.out 3).trans rfl
                  have hcz17_4 : wc.cell? ⟨gb144, 4, none⟩ = some (.int .i64 a0_4) := (blk_cell BK144.out 4).trans rfl
                  have hcz17_5 : wc.cell? ⟨gb144, 5, none⟩ = some (.bool a0_5) := (blk_cell BK144.out 5).trans rfl
                  have hcz17_6 : wc.cell? ⟨gb144, 6, none⟩ = some (.int .i64 a0_6) := (blk_cell BK144.out 6).trans rfl
                  have hfz17_0 := blk_frozen BK144.out 0
                  have hfz17_1 := blk_frozen BK144.out 1
                  have hfz17_2 := blk_frozen BK144.out 2
                  have hfz17_3 := blk_frozen BK144.out 3
                  have hfz17_4 := blk_frozen BK144.out 4
                  have hfz17_5 := blk_frozen BK144.out 5
                  have hfz17_6 := blk_frozen BK144.out 6
                  go_wp2
                  go_meet
                  case rel => exact ⟨_, (decide (a0_2 > 1000000)), (by first | rfl | (simp; done) | (simp [*]; done)), H', ⟨by have := HJ1.out; first | omega | exact Nat.le_refl _⟩, ⟨by (with_reducible repeat (first | refine blk_drewN ?_ _ | refine blk_drew ?_ | refine blk_alloc ?_ _)); exact BK144.out⟩, ⟨by repeat (first | (with_reducible first | exact HB.out | apply below_alloc | apply pw_below_drewN | apply below_drew1 | refine below_set ?_ GE144.out) | exact HB.out)⟩⟩
              · rw [if_neg c14] at H
                have c14b0 : decide (0 < a0_1) = false := decide_eq_false c14
                clear c14
                have H' := Aside0.mk H
                clear H
                have hcz18_0 : wc.cell? ⟨gb144, 0, none⟩ = some (.int .i64 a0_0) := (blk_cell BK144.out 0).trans rfl
                have hcz18_1 : wc.cell? ⟨gb144, 1, none⟩ = some (.int .i64 a0_1) := (blk_cell BK144.out 1).trans rfl
                have hcz18_2 : wc.cell? ⟨gb144, 2, none⟩ = some (.int .i64 a0_2) := (blk_cell BK144.out 2).trans rfl
                have hcz18_3 : wc.cell? ⟨gb144, 3, none⟩ = some (.bool a0_3) := (blk_cell BK144.out 3).trans rfl
                have hcz18_4 : wc.cell? ⟨gb144, 4, none⟩ = some (.int .i64 a0_4) := (blk_cell BK144.out 4).trans rfl
                have hcz18_5 : wc.cell? ⟨gb144, 5, none⟩ = some (.bool a0_5) := (blk_cell BK144.out 5).trans rfl
                have hcz18_6 : wc.cell? ⟨gb144, 6, none⟩ = some (.int .i64 a0_6) := (blk_cell BK144.out 6).trans rfl
                have hfz18_0 := blk_frozen BK144.out 0
                have hfz18_1 := blk_frozen BK144.out 1
                have hfz18_2 := blk_frozen BK144.out 2
                have hfz18_3 := blk_frozen BK144.out 3
                have hfz18_4 := blk_frozen BK144.out 4
                have hfz18_5 := blk_frozen BK144.out 5
                have hfz18_6 := blk_frozen BK144.out 6
                go_wp2
                go_meet
                case rel => exact ⟨_, (false), (by first | rfl | (simp; done) | (simp [*]; done)), H', ⟨by have := HJ1.out; first | omega | exact Nat.le_refl _⟩, ⟨by (with_reducible repeat (first | refine blk_drewN ?_ _ | refine blk_drew ?_ | refine blk_alloc ?_ _)); exact BK144.out⟩, ⟨by repeat (first | (with_reducible first | exact HB.out | apply below_alloc | apply pw_below_drewN | apply below_drew1 | refine below_set ?_ GE144.out) | exact HB.out)⟩⟩
            · rw [if_neg c13] at H
              have c13b0 : (a0_2 == 0) = false := beq_eq_false_iff_ne.mpr c13
              have c13b1 : (a0_2 != 0) = true := bne_iff_ne.mpr c13
              have H' := Aside0.mk H
              clear H
              have hcz19_0 : wc.cell? ⟨gb144, 0, none⟩ = some (.int .i64 a0_0) := (blk_cell BK144.out 0).trans rfl
              have hcz19_1 : wc.cell? ⟨gb144, 1, none⟩ = some (.int .i64 a0_1) := (blk_cell BK144.out 1).trans rfl
              have hcz19_2 : wc.cell? ⟨gb144, 2, none⟩ = some (.int .i64 a0_2) := (blk_cell BK144.out 2).trans rfl
              have hcz19_3 : wc.cell? ⟨gb144, 3, none⟩ = some (.bool a0_3) := (blk_cell BK144.out 3).trans rfl
              have hcz19_4 : wc.cell? ⟨gb144, 4, none⟩ = some (.int .i64 a0_4) := (blk_cell BK144.out 4).trans rfl
              have hcz19_5 : wc.cell? ⟨gb144, 5, none⟩ = some (.bool a0_5) := (blk_cell BK144.out 5).trans rfl
              have hcz19_6 : wc.cell? ⟨gb144, 6, none⟩ = some (.int .i64 a0_6) := (blk_cell BK144.out 6).trans rfl
              have hfz19_0 := blk_frozen BK144.out 0
              have hfz19_1 := blk_frozen BK144.out 1
              have hfz19_2 := blk_frozen BK144.out 2
              have hfz19_3 := blk_frozen BK144.out 3
              have hfz19_4 := blk_frozen BK144.out 4
              have hfz19_5 := blk_frozen BK144.out 5
              have hfz19_6 := blk_frozen BK144.out 6
              go_wp2
              go_meet
              case rel => exact ⟨_, (true), (by first | rfl | (simp; done) | (simp [*]; done)), H', ⟨by have := HJ1.out; first | omega | exact Nat.le_refl _⟩, ⟨by (with_reducible repeat (first | refine blk_drewN ?_ _ | refine blk_drew ?_ | refine blk_alloc ?_ _)); exact BK144.out⟩, ⟨by repeat (first | (with_reducible first | exact HB.out | apply below_alloc | apply pw_below_drewN | apply below_drew1 | refine below_set ?_ GE144.out) | exact HB.out)⟩⟩
          · rw [if_neg c12] at H
            have c12b0 : (a0_1 == 0) = false := beq_eq_false_iff_ne.mpr c12
            have c12b1 : (a0_1 != 0) = true := bne_iff_ne.mpr c12
            (first | rw [c12b0] | (simp only [i64_w, i32_w]; rw [c12b0]) | skip)
            by_cases c20 : a0_1 > 0
            · rw [if_pos c20] at H
              have c20b0 : decide (0 < a0_1) = true := decide_eq_true c20
              clear c20
              by_cases c21 : a0_2 < 1
              · rw [if_pos c21] at H
                have c21b0 : decide (a0_2 < 1) = true := decide_eq_true c21
                clear c21
                have H' := Aside0.mk H
                clear H
                have hcz22_0 : wc.cell? ⟨gb144, 0, none⟩ = some (.int .i64 a0_0) := (blk_cell BK144.out 0).trans rfl
                have hcz22_1 : wc.cell? ⟨gb144, 1, none⟩ = some (.int .i64 a0_1) := (blk_cell BK144.out 1).trans rfl
                have hcz22_2 : wc.cell? ⟨gb144, 2, none⟩ = some (.int .i64 a0_2) := (blk_cell BK144.out 2).trans rfl
                have hcz22_3 : wc.cell? ⟨gb144, 3, none⟩ = some (.bool a0_3) := (blk_cell BK144.out 3).trans rfl
                have hcz22_4 : wc.cell? ⟨gb144, 4, none⟩ = some (.int .i64 a0_4) := (blk_cell BK144.out 4).trans rfl
                have hcz22_5 : wc.cell? ⟨gb144, 5, none⟩ = some (.bool a0_5) := (blk_cell BK144.out 5).trans rfl
                have hcz22_6 : wc.cell? ⟨gb144, 6, none⟩ = some (.int .i64 a0_6) := (blk_cell BK144.out 6).trans rfl
                have hfz22_0 := blk_frozen BK144.out 0
                have hfz22_1 := blk_frozen BK144.out 1
                have hfz22_2 := blk_frozen BK144.out 2
                have hfz22_3 := blk_frozen BK144.out 3
                have hfz22_4 := blk_frozen BK144.out 4
                have hfz22_5 := blk_frozen BK144.out 5
                have hfz22_6 := blk_frozen BK144.out 6
                go_wp2
                go_meet
                case rel => exact ⟨_, (true), (by first | rfl | (simp; done) | (simp [*]; done)), H', ⟨by have := HJ1.out; first | omega | exact Nat.le_refl _⟩, ⟨by (with_reducible repeat (first | refine blk_drewN ?_ _ | refine blk_drew ?_ | refine blk_alloc ?_ _)); exact BK144.out⟩, ⟨by repeat (first | (with_reducible first | exact HB.out | apply below_alloc | apply pw_below_drewN | apply below_drew1 | refine below_set ?_ GE144.out) | exact HB.out)⟩⟩
              · rw [if_neg c21] at H
                have c21b0 : decide (a0_2 < 1) = false := decide_eq_false c21
                clear c21
                have H' := Aside0.mk H
                clear H
                have hcz23_0 : wc.cell? ⟨gb144, 0, none⟩ = some (.int .i64 a0_0) := (blk_cell BK144.out 0).trans rfl
                have hcz23_1 : wc.cell? ⟨gb144, 1, none⟩ = some (.int .i64 a0_1) := (blk_cell BK144.out 1).trans rfl
                have hcz23_2 : wc.cell? ⟨gb144, 2, none⟩ = some (.int .i64 a0_2) := (blk_cell BK144.out 2).trans rfl
                have hcz23_3 : wc.cell? ⟨gb144, 3, none⟩ = some (.bool a0_3) := (blk_cell BK144.out 3).trans rfl
                have hcz23_4 : wc.cell? ⟨gb144, 4, none⟩ = some (.int .i64 a0_4) := (blk_cell BK144.out 4).trans rfl
                have hcz23_5 : wc.cell? ⟨gb144, 5, none⟩ = some (.bool a0_5) := (blk_cell BK144.out 5).trans rfl
                have hcz23_6 : wc.cell? ⟨gb144, 6, none⟩ = some (.int .i64 a0_6) := (blk_cell BK144.out 6).trans rfl
                have hfz23_0 := blk_frozen BK144.out 0
                have hfz23_1 := blk_frozen BK144.out 1
                have hfz23_2 := blk_frozen BK144.out 2
                have hfz23_3 := blk_frozen BK144.out 3
                have hfz23_4 := blk_frozen BK144.out 4
                have hfz23_5 := blk_frozen BK144.out 5
                have hfz23_6 := blk_frozen BK144.out 6
                go_wp2
                go_meet
                case rel => exact ⟨_, (decide (a0_2 > 1000000)), (by first | rfl | (simp; done) | (simp [*]; done)), H', ⟨by have := HJ1.out; first | omega | exact Nat.le_refl _⟩, ⟨by (with_reducible repeat (first | refine blk_drewN ?_ _ | refine blk_drew ?_ | refine blk_alloc ?_ _)); exact BK144.out⟩, ⟨by repeat (first | (with_reducible first | exact HB.out | apply below_alloc | apply pw_below_drewN | apply below_drew1 | refine below_set ?_ GE144.out) | exact HB.out)⟩⟩
            · rw [if_neg c20] at H
              have c20b0 : decide (0 < a0_1) = false := decide_eq_false c20
              clear c20
              have H' := Aside0.mk H
              clear H
              have hcz24_0 : wc.cell? ⟨gb144, 0, none⟩ = some (.int .i64 a0_0) := (blk_cell BK144.out 0).trans rfl
              have hcz24_1 : wc.cell? ⟨gb144, 1, none⟩ = some (.int .i64 a0_1) := (blk_cell BK144.out 1).trans rfl
              have hcz24_2 : wc.cell? ⟨gb144, 2, none⟩ = some (.int .i64 a0_2) := (blk_cell BK144.out 2).trans rfl
              have hcz24_3 : wc.cell? ⟨gb144, 3, none⟩ = some (.bool a0_3) := (blk_cell BK144.out 3).trans rfl
              have hcz24_4 : wc.cell? ⟨gb144, 4, none⟩ = some (.int .i64 a0_4) := (blk_cell BK144.out 4).trans rfl
              have hcz24_5 : wc.cell? ⟨gb144, 5, none⟩ = some (.bool a0_5) := (blk_cell BK144.out 5).trans rfl
              have hcz24_6 : wc.cell? ⟨gb144, 6, none⟩ = some (.int .i64 a0_6) := (blk_cell BK144.out 6).trans rfl
              have hfz24_0 := blk_frozen BK144.out 0
              have hfz24_1 := blk_frozen BK144.out 1
              have hfz24_2 := blk_frozen BK144.out 2
              have hfz24_3 := blk_frozen BK144.out 3
              have hfz24_4 := blk_frozen BK144.out 4
              have hfz24_5 := blk_frozen BK144.out 5
              have hfz24_6 := blk_frozen BK144.out 6
              go_wp2
              go_meet
              case rel => exact ⟨_, (false), (by first | rfl | (simp; done) | (simp [*]; done)), H', ⟨by have := HJ1.out; first | omega | exact Nat.le_refl _⟩, ⟨by (with_reducible repeat (first | refine blk_drewN ?_ _ | refine blk_drew ?_ | refine blk_alloc ?_ _)); exact BK144.out⟩, ⟨by repeat (first | (with_reducible first | exact HB.out | apply below_alloc | apply pw_below_drewN | apply below_drew1 | refine below_set ?_ GE144.out) | exact HB.out)⟩⟩
        case rest =>
          clear HC11
          try clear c1
          try clear c2
          try clear p2
          try clear c5
          try clear c6
          try clear c6b0
          try clear c10
          try clear c11
          try clear c12
          try clear c12b0
          try clear c12b1
          try clear c13
          try clear c13b0
          try clear c13b1
          try clear c14
          try clear c14b0
          try clear c15
          try clear c15b0
          try clear c20
          try clear c20b0
          try clear c21
          try clear c21b0
          try clear c24
          try clear hcz16_0
          try clear hcz16_1
          try clear hcz16_2
          try clear hcz16_3
          try clear hcz16_4
          try clear hcz16_5
          try clear hcz16_6
          try clear hcz17_0
          try clear hcz17_1
          try clear hcz17_2
          try clear hcz17_3
          try clear hcz17_4
          try clear hcz17_5
          try clear hcz17_6
          try clear hcz18_0
          try clear hcz18_1
          try clear hcz18_2
          try clear hcz18_3
          try clear hcz18_4
          try clear hcz18_5
          try clear hcz18_6
          try clear hcz19_0
          try clear hcz19_1
          try clear hcz19_2
          try clear hcz19_3
          try clear hcz19_4
          try clear hcz19_5
          try clear hcz19_6
          try clear hcz22_0
          try clear hcz22_1
          try clear hcz22_2
          try clear hcz22_3
          try clear hcz22_4
          try clear hcz22_5
          try clear hcz22_6
          try clear hcz23_0
          try clear hcz23_1
          try clear hcz23_2
          try clear hcz23_3
          try clear hcz23_4
          try clear hcz23_5
          try clear hcz23_6
          try clear hcz24_0
          try clear hcz24_1
          try clear hcz24_2
          try clear hcz24_3
          try clear hcz24_4
          try clear hcz24_5
          try clear hcz24_6
          try clear hcz7_0
          try clear hcz7_1
          try clear hcz7_2
          try clear hcz7_3
          try clear hcz7_4
          try clear hcz7_5
          try clear hcz7_6
          try clear hcz8_0
          try clear hcz8_1
          try clear hcz8_2
          try clear hcz8_3
          try clear hcz8_4
          try clear hcz8_5
          try clear hcz8_6
          try clear hcz9_0
          try clear hcz9_1
          try clear hcz9_2
          try clear hcz9_3
          try clear hcz9_4
          try clear hcz9_5
          try clear hcz9_6
          try clear hfz16_0
          try clear hfz16_1
          try clear hfz16_2
          try clear hfz16_3
          try clear hfz16_4
          try clear hfz16_5
          try clear hfz16_6
          try clear hfz17_0
          try clear hfz17_1
          try clear hfz17_2
          try clear hfz17_3
          try clear hfz17_4
          try clear hfz17_5
          try clear hfz17_6
          try clear hfz18_0
          try clear hfz18_1
          try clear hfz18_2
          try clear hfz18_3
          try clear hfz18_4
          try clear hfz18_5
          try clear hfz18_6
          try clear hfz19_0
          try clear hfz19_1
          try clear hfz19_2
          try clear hfz19_3
          try clear hfz19_4
          try clear hfz19_5
          try clear hfz19_6
          try clear hfz22_0
          try clear hfz22_1
          try clear hfz22_2
          try clear hfz22_3
          try clear hfz22_4
          try clear hfz22_5
          try clear hfz22_6
          try clear hfz23_0
          try clear hfz23_1
          try clear hfz23_2
          try clear hfz23_3
          try clear hfz23_4
          try clear hfz23_5
          try clear hfz23_6
          try clear hfz24_0
          try clear hfz24_1
          try clear hfz24_2
          try clear hfz24_3
          try clear hfz24_4
          try clear hfz24_5
          try clear hfz24_6
          try clear hfz7_0
          try clear hfz7_1
          try clear hfz7_2
          try clear hfz7_3
          try clear hfz7_4
          try clear hfz7_5
          try clear hfz7_6
          try clear hfz8_0
          try clear hfz8_1
          try clear hfz8_2
          try clear hfz8_3
          try clear hfz8_4
          try clear hfz8_5
          try clear hfz8_6
          try clear hfz9_0
          try clear hfz9_1
          try clear hfz9_2
          try clear hfz9_3
          try clear hfz9_4
          try clear hfz9_5
          try clear hfz9_6
          try clear p2
          obtain ⟨kq, x39_10, rfl, HA, HJ10, BK144, HB⟩ := hcut
          cases kq with
          | zero => exact absurd HA.out (by simp [duty_Validate.j1])
          | succ kj10 =>
            have H := HA.out
            clear HA
            simp only [duty_Validate.j1] at H
            by_cases c25 : x39_10 = true
            · subst c25
              have H1 : (some 2) = some r := by rw [if_pos rfl] at H; exact H
              clear H
              have H := H1
              clear H1
              obtain rfl := Option.some.inj H
              go_wp2
              go_ret
              exact ⟨by first | rfl | (simp [errW_none, errW_some] <;> rfl) | (simp [*, errW_none, errW_some] <;> rfl), by repeat (first | (with_reducible first | exact HB.out | apply below_alloc | apply pw_below_drewN | apply below_drew1 | refine below_set ?_ GE144.out) | exact HB.out)⟩
            · replace c25 := Bool.eq_false_iff.mpr c25
              subst c25
              have H1 : ((duty_rate.f a0_4).bind fun t146 => (if t146 = true then ((duty_rate.f a0_6).bind fun t147 => (duty_Validate.j2 kj10 (!t147) a0_0 a0_1 a0_2 a0_3 a0_4 a0_5 a0_6)) else (duty_Validate.j2 kj10 true a0_0 a0_1 a0_2 a0_3 a0_4 a0_5 a0_6))) = some r := by rw [if_neg (show ¬ (false = true) by decide)] at H; exact H
              clear H
              have H := H1
              clear H1
              have HC26 := Aside0.mk H
              clear H
              go_upto_region 5 with (fail)
              go_cut [49] (fun v49 wc => ∃ (kq : Nat) (x49_25 : Bool), v49 = .bool x49_25 ∧ Aside0 (duty_Validate.j2 kq x49_25 a0_0 a0_1 a0_2 a0_3 a0_4 a0_5 a0_6 = some r) ∧ Aside0 (kq ≤ kj10) ∧ Aside0 (wc.heap[gb144]? = some (.cells #[.int .i64 a0_0, .int .i64 a0_1, .int .i64 a0_2, .bool a0_3, .int .i64 a0_4, .bool a0_5, .int .i64 a0_6] 23 (0, 0))) ∧ Aside0 (Below w.heap.size w wc))
              case first =>
                have H := HC26.out
                clear HC26
                replace H := Option.bind_eq_some_iff.mp H
                obtain ⟨t146, A270, H⟩ := H
                replace H : (if t146 = true then ((duty_rate.f a0_6).bind fun t147 => (duty_Validate.j2 kj10 (!t147) a0_0 a0_1 a0_2 a0_3 a0_4 a0_5 a0_6)) else (duty_Validate.j2 kj10 true a0_0 a0_1 a0_2 a0_3 a0_4 a0_5 a0_6)) = some r := H
                have A27 := Aside0.mk A270
                clear A270
                by_cases c28 : t146 = true
                · subst c28
                  have H1 : ((duty_rate.f a0_6).bind fun t147 => (duty_Validate.j2 kj10 (!t147) a0_0 a0_1 a0_2 a0_3 a0_4 a0_5 a0_6)) = some r := by rw [if_pos rfl] at H; exact H
                  clear H
                  have H := H1
                  clear H1
                  replace H := Option.bind_eq_some_iff.mp H
                  obtain ⟨t147, A290, H⟩ := H
                  replace H : (duty_Validate.j2 kj10 (!t147) a0_0 a0_1 a0_2 a0_3 a0_4 a0_5 a0_6) = some r := H
                  have A29 := Aside0.mk A290
                  clear A290
                  have H' := Aside0.mk H
                  clear H
                  have hcz30_0 : wc.cell? ⟨gb144, 0, none⟩ = some (.int .i64 a0_0) := (blk_cell BK144.out 0).trans rfl
                  have hcz30_1 : wc.cell? ⟨gb144, 1, none⟩ = some (.int .i64 a0_1) := (blk_cell BK144.out 1).trans rfl
                  have hcz30_2 : wc.cell? ⟨gb144, 2, none⟩ = some (.int .i64 a0_2) := (blk_cell BK144.out 2).trans rfl
                  have hcz30_3 : wc.cell? ⟨gb144, 3, none⟩ = some (.bool a0_3) := (blk_cell BK144.out 3).trans rfl
                  have hcz30_4 : wc.cell? ⟨gb144, 4, none⟩ = some (.int .i64 a0_4) := (blk_cell BK144.out 4).trans rfl
                  have hcz30_5 : wc.cell? ⟨gb144, 5, none⟩ = some (.bool a0_5) := (blk_cell BK144.out 5).trans rfl
                  have hcz30_6 : wc.cell? ⟨gb144, 6, none⟩ = some (.int .i64 a0_6) := (blk_cell BK144.out 6).trans rfl
                  have hfz30_0 := blk_frozen BK144.out 0
                  have hfz30_1 := blk_frozen BK144.out 1
                  have hfz30_2 := blk_frozen BK144.out 2
                  have hfz30_3 := blk_frozen BK144.out 3
                  have hfz30_4 := blk_frozen BK144.out 4
                  have hfz30_5 := blk_frozen BK144.out 5
                  have hfz30_6 := blk_frozen BK144.out 6
                  go_wp2_with (first | ((with_reducible refine gate_callee (f := 24) rfl ?_); refine goesL_ (some 42) rfl rfl Tryd.func24 (by kernel_rfl) rfl #[.int .i64 a0_4] rfl (by (try simp only [List.map_toArray, List.map_cons, List.map_nil]); first | done | rfl | (simp only [List.length_drop, List.length_take]; rfl)) ?_; (with_reducible refine (duty_rate.calls a0_4 true _ A27.out).mono ?_); rintro e w' ⟨rfl, ⟨nd, rfl⟩⟩; refine ⟨_, rfl, ?_⟩) | (go_at_call 24; (with_reducible refine (duty_rate.calls a0_6 t147 _ A29.out).mono ?_); rintro e w' ⟨rfl, ⟨nd, rfl⟩⟩))
                  go_meet
                  case rel => exact ⟨_, (!t147), (by first | rfl | (simp; done) | (simp [*]; done)), H', ⟨by have := HJ1.out; have := HJ10.out; first | omega | exact Nat.le_refl _⟩, ⟨by (with_reducible repeat (first | refine blk_drewN ?_ _ | refine blk_drew ?_ | refine blk_alloc ?_ _)); exact BK144.out⟩, ⟨by repeat (first | (with_reducible first | exact HB.out | apply below_alloc | apply pw_below_drewN | apply below_drew1 | refine below_set ?_ GE144.out) | exact HB.out)⟩⟩
                · replace c28 := Bool.eq_false_iff.mpr c28
                  subst c28
                  have H1 : (duty_Validate.j2 kj10 true a0_0 a0_1 a0_2 a0_3 a0_4 a0_5 a0_6) = some r := by rw [if_neg (show ¬ (false = true) by decide)] at H; exact H
                  clear H
                  have H := H1
                  clear H1
                  have H' := Aside0.mk H
                  clear H
                  have hcz31_0 : wc.cell? ⟨gb144, 0, none⟩ = some (.int .i64 a0_0) := (blk_cell BK144.out 0).trans rfl
                  have hcz31_1 : wc.cell? ⟨gb144, 1, none⟩ = some (.int .i64 a0_1) := (blk_cell BK144.out 1).trans rfl
                  have hcz31_2 : wc.cell? ⟨gb144, 2, none⟩ = some (.int .i64 a0_2) := (blk_cell BK144.out 2).trans rfl
                  have hcz31_3 : wc.cell? ⟨gb144, 3, none⟩ = some (.bool a0_3) := (blk_cell BK144.out 3).trans rfl
                  have hcz31_4 : wc.cell? ⟨gb144, 4, none⟩ = some (.int .i64 a0_4) := (blk_cell BK144.out 4).trans rfl
                  have hcz31_5 : wc.cell? ⟨gb144, 5, none⟩ = some (.bool a0_5) := (blk_cell BK144.out 5).trans rfl
                  have hcz31_6 : wc.cell? ⟨gb144, 6, none⟩ = some (.int .i64 a0_6) := (blk_cell BK144.out 6).trans rfl
                  have hfz31_0 := blk_frozen BK144.out 0
                  have hfz31_1 := blk_frozen BK144.out 1
                  have hfz31_2 := blk_frozen BK144.out 2
                  have hfz31_3 := blk_frozen BK144.out 3
                  have hfz31_4 := blk_frozen BK144.out 4
                  have hfz31_5 := blk_frozen BK144.out 5
                  have hfz31_6 := blk_frozen BK144.out 6
                  go_wp2_with (first | ((with_reducible refine gate_callee (f := 24) rfl ?_); refine goesL_ (some 42) rfl rfl Tryd.func24 (by kernel_rfl) rfl #[.int .i64 a0_4] rfl (by (try simp only [List.map_toArray, List.map_cons, List.map_nil]); first | done | rfl | (simp only [List.length_drop, List.length_take]; rfl)) ?_; (with_reducible refine (duty_rate.calls a0_4 false _ A27.out).mono ?_); rintro e w' ⟨rfl, ⟨nd, rfl⟩⟩; refine ⟨_, rfl, ?_⟩))
                  go_meet
                  case rel => exact ⟨_, (true), (by first | rfl | (simp; done) | (simp [*]; done)), H', ⟨by have := HJ1.out; have := HJ10.out; first | omega | exact Nat.le_refl _⟩, ⟨by (with_reducible repeat (first | refine blk_drewN ?_ _ | refine blk_drew ?_ | refine blk_alloc ?_ _)); exact BK144.out⟩, ⟨by repeat (first | (with_reducible first | exact HB.out | apply below_alloc | apply pw_below_drewN | apply below_drew1 | refine below_set ?_ GE144.out) | exact HB.out)⟩⟩
              case rest =>
                clear HC26
                try clear c1
                try clear c2
                try clear p2
                try clear c5
                try clear c6
                try clear c6b0
                try clear c10
                try clear c11
                try clear c12
                try clear c12b0
                try clear c12b1
                try clear c13
                try clear c13b0
                try clear c13b1
                try clear c14
                try clear c14b0
                try clear c15
                try clear c15b0
                try clear c20
                try clear c20b0
                try clear c21
                try clear c21b0
                try clear c24
                try clear c25
                try clear c28
                try clear hcz16_0
                try clear hcz16_1
                try clear hcz16_2
                try clear hcz16_3
                try clear hcz16_4
                try clear hcz16_5
                try clear hcz16_6
                try clear hcz17_0
                try clear hcz17_1
                try clear hcz17_2
                try clear hcz17_3
                try clear hcz17_4
                try clear hcz17_5
                try clear hcz17_6
                try clear hcz18_0
                try clear hcz18_1
                try clear hcz18_2
                try clear hcz18_3
                try clear hcz18_4
                try clear hcz18_5
                try clear hcz18_6
                try clear hcz19_0
                try clear hcz19_1
                try clear hcz19_2
                try clear hcz19_3
                try clear hcz19_4
                try clear hcz19_5
                try clear hcz19_6
                try clear hcz22_0
                try clear hcz22_1
                try clear hcz22_2
                try clear hcz22_3
                try clear hcz22_4
                try clear hcz22_5
                try clear hcz22_6
                try clear hcz23_0
                try clear hcz23_1
                try clear hcz23_2
                try clear hcz23_3
                try clear hcz23_4
                try clear hcz23_5
                try clear hcz23_6
                try clear hcz24_0
                try clear hcz24_1
                try clear hcz24_2
                try clear hcz24_3
                try clear hcz24_4
                try clear hcz24_5
                try clear hcz24_6
                try clear hcz30_0
                try clear hcz30_1
                try clear hcz30_2
                try clear hcz30_3
                try clear hcz30_4
                try clear hcz30_5
                try clear hcz30_6
                try clear hcz31_0
                try clear hcz31_1
                try clear hcz31_2
                try clear hcz31_3
                try clear hcz31_4
                try clear hcz31_5
                try clear hcz31_6
                try clear hcz7_0
                try clear hcz7_1
                try clear hcz7_2
                try clear hcz7_3
                try clear hcz7_4
                try clear hcz7_5
                try clear hcz7_6
                try clear hcz8_0
                try clear hcz8_1
                try clear hcz8_2
                try clear hcz8_3
                try clear hcz8_4
                try clear hcz8_5
                try clear hcz8_6
                try clear hcz9_0
                try clear hcz9_1
                try clear hcz9_2
                try clear hcz9_3
                try clear hcz9_4
                try clear hcz9_5
                try clear hcz9_6
                try clear hfz16_0
                try clear hfz16_1
                try clear hfz16_2
                try clear hfz16_3
                try clear hfz16_4
                try clear hfz16_5
                try clear hfz16_6
                try clear hfz17_0
                try clear hfz17_1
                try clear hfz17_2
                try clear hfz17_3
                try clear hfz17_4
                try clear hfz17_5
                try clear hfz17_6
                try clear hfz18_0
                try clear hfz18_1
                try clear hfz18_2
                try clear hfz18_3
                try clear hfz18_4
                try clear hfz18_5
                try clear hfz18_6
                try clear hfz19_0
                try clear hfz19_1
                try clear hfz19_2
                try clear hfz19_3
                try clear hfz19_4
                try clear hfz19_5
                try clear hfz19_6
                try clear hfz22_0
                try clear hfz22_1
                try clear hfz22_2
                try clear hfz22_3
                try clear hfz22_4
                try clear hfz22_5
                try clear hfz22_6
                try clear hfz23_0
                try clear hfz23_1
                try clear hfz23_2
                try clear hfz23_3
                try clear hfz23_4
                try clear hfz23_5
                try clear hfz23_6
                try clear hfz24_0
                try clear hfz24_1
                try clear hfz24_2
                try clear hfz24_3
                try clear hfz24_4
                try clear hfz24_5
                try clear hfz24_6
                try clear hfz30_0
                try clear hfz30_1
                try clear hfz30_2
                try clear hfz30_3
                try clear hfz30_4
                try clear hfz30_5
                try clear hfz30_6
                try clear hfz31_0
                try clear hfz31_1
                try clear hfz31_2
                try clear hfz31_3
                try clear hfz31_4
                try clear hfz31_5
                try clear hfz31_6
                try clear hfz7_0
                try clear hfz7_1
                try clear hfz7_2
                try clear hfz7_3
                try clear hfz7_4
                try clear hfz7_5
                try clear hfz7_6
                try clear hfz8_0
                try clear hfz8_1
                try clear hfz8_2
                try clear hfz8_3
                try clear hfz8_4
                try clear hfz8_5
                try clear hfz8_6
                try clear hfz9_0
                try clear hfz9_1
                try clear hfz9_2
                try clear hfz9_3
                try clear hfz9_4
                try clear hfz9_5
                try clear hfz9_6
                try clear p2
                obtain ⟨kq, x49_25, rfl, HA, HJ25, BK144, HB⟩ := hcut
                cases kq with
                | zero => exact absurd HA.out (by simp [duty_Validate.j2])
                | succ kj25 =>
                  have H := HA.out
                  clear HA
                  simp only [duty_Validate.j2] at H
                  by_cases c32 : x49_25 = true
                  · subst c32
                    have H1 : (some 2) = some r := by rw [if_pos rfl] at H; exact H
                    clear H
                    have H := H1
                    clear H1
                    obtain rfl := Option.some.inj H
                    go_wp2
                    go_ret
                    exact ⟨by first | rfl | (simp [errW_none, errW_some] <;> rfl) | (simp [*, errW_none, errW_some] <;> rfl), by repeat (first | (with_reducible first | exact HB.out | apply below_alloc | apply pw_below_drewN | apply below_drew1 | refine below_set ?_ GE144.out) | exact HB.out)⟩
                  · replace c32 := Bool.eq_false_iff.mpr c32
                    subst c32
                    have H1 : (if a0_3 = true then (if a0_5 = true then (if a0_6 > a0_4 then (some 1) else (some 0)) else (if a0_6 = 0 then (some 0) else (some 1))) else (if a0_4 = 0 then (if a0_5 = true then (some 0) else (if a0_6 = 0 then (some 0) else (some 1))) else (some 1))) = some r := by rw [if_neg (show ¬ (false = true) by decide)] at H; exact H
                    clear H
                    have H := H1
                    clear H1
                    by_cases c33 : a0_3 = true
                    · subst c33
                      have H1 : (if a0_5 = true then (if a0_6 > a0_4 then (some 1) else (some 0)) else (if a0_6 = 0 then (some 0) else (some 1))) = some r := by rw [if_pos rfl] at H; exact H
                      clear H
                      have H := H1
                      clear H1
                      by_cases c34 : a0_5 = true
                      · subst c34
                        have H1 : (if a0_6 > a0_4 then (some 1) else (some 0)) = some r := by rw [if_pos rfl] at H; exact H
                        clear H
                        have H := H1
                        clear H1
                        by_cases c35 : a0_6 > a0_4
                        · rw [if_pos c35] at H
                          have c35b0 : decide (a0_4 < a0_6) = true := decide_eq_true c35
                          clear c35
                          obtain rfl := Option.some.inj H
                          have hcz36_0 : wc.cell? ⟨gb144, 0, none⟩ = some (.int .i64 a0_0) := (blk_cell BK144.out 0).trans rfl
                          have hcz36_1 : wc.cell? ⟨gb144, 1, none⟩ = some (.int .i64 a0_1) := (blk_cell BK144.out 1).trans rfl
                          have hcz36_2 : wc.cell? ⟨gb144, 2, none⟩ = some (.int .i64 a0_2) := (blk_cell BK144.out 2).trans rfl
                          have hcz36_3 : wc.cell? ⟨gb144, 3, none⟩ = some (.bool true) := (blk_cell BK144.out 3).trans rfl
                          have hcz36_4 : wc.cell? ⟨gb144, 4, none⟩ = some (.int .i64 a0_4) := (blk_cell BK144.out 4).trans rfl
                          have hcz36_5 : wc.cell? ⟨gb144, 5, none⟩ = some (.bool true) := (blk_cell BK144.out 5).trans rfl
                          have hcz36_6 : wc.cell? ⟨gb144, 6, none⟩ = some (.int .i64 a0_6) := (blk_cell BK144.out 6).trans rfl
                          have hfz36_0 := blk_frozen BK144.out 0
                          have hfz36_1 := blk_frozen BK144.out 1
                          have hfz36_2 := blk_frozen BK144.out 2
                          have hfz36_3 := blk_frozen BK144.out 3
                          have hfz36_4 := blk_frozen BK144.out 4
                          have hfz36_5 := blk_frozen BK144.out 5
                          have hfz36_6 := blk_frozen BK144.out 6
                          go_wp2
                          go_ret
                          exact ⟨by first | rfl | (simp [errW_none, errW_some] <;> rfl) | (simp [*, errW_none, errW_some] <;> rfl), by repeat (first | (with_reducible first | exact HB.out | apply below_alloc | apply pw_below_drewN | apply below_drew1 | refine below_set ?_ GE144.out) | exact HB.out)⟩
                        · rw [if_neg c35] at H
                          have c35b0 : decide (a0_4 < a0_6) = false := decide_eq_false c35
                          clear c35
                          obtain rfl := Option.some.inj H
                          have hcz37_0 : wc.cell? ⟨gb144, 0, none⟩ = some (.int .i64 a0_0) := (blk_cell BK144.out 0).trans rfl
                          have hcz37_1 : wc.cell? ⟨gb144, 1, none⟩ = some (.int .i64 a0_1) := (blk_cell BK144.out 1).trans rfl
                          have hcz37_2 : wc.cell? ⟨gb144, 2, none⟩ = some (.int .i64 a0_2) := (blk_cell BK144.out 2).trans rfl
                          have hcz37_3 : wc.cell? ⟨gb144, 3, none⟩ = some (.bool true) := (blk_cell BK144.out 3).trans rfl
                          have hcz37_4 : wc.cell? ⟨gb144, 4, none⟩ = some (.int .i64 a0_4) := (blk_cell BK144.out 4).trans rfl
                          have hcz37_5 : wc.cell? ⟨gb144, 5, none⟩ = some (.bool true) := (blk_cell BK144.out 5).trans rfl
                          have hcz37_6 : wc.cell? ⟨gb144, 6, none⟩ = some (.int .i64 a0_6) := (blk_cell BK144.out 6).trans rfl
                          have hfz37_0 := blk_frozen BK144.out 0
                          have hfz37_1 := blk_frozen BK144.out 1
                          have hfz37_2 := blk_frozen BK144.out 2
                          have hfz37_3 := blk_frozen BK144.out 3
                          have hfz37_4 := blk_frozen BK144.out 4
                          have hfz37_5 := blk_frozen BK144.out 5
                          have hfz37_6 := blk_frozen BK144.out 6
                          go_wp2
                          go_ret
                          exact ⟨by first | rfl | (simp [errW_none, errW_some] <;> rfl) | (simp [*, errW_none, errW_some] <;> rfl), by repeat (first | (with_reducible first | exact HB.out | apply below_alloc | apply pw_below_drewN | apply below_drew1 | refine below_set ?_ GE144.out) | exact HB.out)⟩
                      · replace c34 := Bool.eq_false_iff.mpr c34
                        subst c34
                        have H1 : (if a0_6 = 0 then (some 0) else (some 1)) = some r := by rw [if_neg (show ¬ (false = true) by decide)] at H; exact H
                        clear H
                        have H := H1
                        clear H1
                        by_cases c38 : a0_6 = 0
                        · rw [if_pos c38] at H
                          have c38b0 : (a0_6 == 0) = true := beq_iff_eq.mpr c38
                          have c38b1 : (a0_6 != 0) = false := bne_eq_false_iff_eq.mpr c38
                          clear c38
                          obtain rfl := Option.some.inj H
                          have hcz39_0 : wc.cell? ⟨gb144, 0, none⟩ = some (.int .i64 a0_0) := (blk_cell BK144.out 0).trans rfl
                          have hcz39_1 : wc.cell? ⟨gb144, 1, none⟩ = some (.int .i64 a0_1) := (blk_cell BK144.out 1).trans rfl
                          have hcz39_2 : wc.cell? ⟨gb144, 2, none⟩ = some (.int .i64 a0_2) := (blk_cell BK144.out 2).trans rfl
                          have hcz39_3 : wc.cell? ⟨gb144, 3, none⟩ = some (.bool true) := (blk_cell BK144.out 3).trans rfl
                          have hcz39_4 : wc.cell? ⟨gb144, 4, none⟩ = some (.int .i64 a0_4) := (blk_cell BK144.out 4).trans rfl
                          have hcz39_5 : wc.cell? ⟨gb144, 5, none⟩ = some (.bool false) := (blk_cell BK144.out 5).trans rfl
                          have hcz39_6 : wc.cell? ⟨gb144, 6, none⟩ = some (.int .i64 a0_6) := (blk_cell BK144.out 6).trans rfl
                          have hfz39_0 := blk_frozen BK144.out 0
                          have hfz39_1 := blk_frozen BK144.out 1
                          have hfz39_2 := blk_frozen BK144.out 2
                          have hfz39_3 := blk_frozen BK144.out 3
                          have hfz39_4 := blk_frozen BK144.out 4
                          have hfz39_5 := blk_frozen BK144.out 5
                          have hfz39_6 := blk_frozen BK144.out 6
                          go_wp2
                          go_ret
                          exact ⟨by first | rfl | (simp [errW_none, errW_some] <;> rfl) | (simp [*, errW_none, errW_some] <;> rfl), by repeat (first | (with_reducible first | exact HB.out | apply below_alloc | apply pw_below_drewN | apply below_drew1 | refine below_set ?_ GE144.out) | exact HB.out)⟩
                        · rw [if_neg c38] at H
                          have c38b0 : (a0_6 == 0) = false := beq_eq_false_iff_ne.mpr c38
                          have c38b1 : (a0_6 != 0) = true := bne_iff_ne.mpr c38
                          obtain rfl := Option.some.inj H
                          have hcz40_0 : wc.cell? ⟨gb144, 0, none⟩ = some (.int .i64 a0_0) := (blk_cell BK144.out 0).trans rfl
                          have hcz40_1 : wc.cell? ⟨gb144, 1, none⟩ = some (.int .i64 a0_1) := (blk_cell BK144.out 1).trans rfl
                          have hcz40_2 : wc.cell? ⟨gb144, 2, none⟩ = some (.int .i64 a0_2) := (blk_cell BK144.out 2).trans rfl
                          have hcz40_3 : wc.cell? ⟨gb144, 3, none⟩ = some (.bool true) := (blk_cell BK144.out 3).trans rfl
                          have hcz40_4 : wc.cell? ⟨gb144, 4, none⟩ = some (.int .i64 a0_4) := (blk_cell BK144.out 4).trans rfl
                          have hcz40_5 : wc.cell? ⟨gb144, 5, none⟩ = some (.bool false) := (blk_cell BK144.out 5).trans rfl
                          have hcz40_6 : wc.cell? ⟨gb144, 6, none⟩ = some (.int .i64 a0_6) := (blk_cell BK144.out 6).trans rfl
                          have hfz40_0 := blk_frozen BK144.out 0
                          have hfz40_1 := blk_frozen BK144.out 1
                          have hfz40_2 := blk_frozen BK144.out 2
                          have hfz40_3 := blk_frozen BK144.out 3
                          have hfz40_4 := blk_frozen BK144.out 4
                          have hfz40_5 := blk_frozen BK144.out 5
                          have hfz40_6 := blk_frozen BK144.out 6
                          go_wp2
                          go_ret
                          exact ⟨by first | rfl | (simp [errW_none, errW_some] <;> rfl) | (simp [*, errW_none, errW_some] <;> rfl), by repeat (first | (with_reducible first | exact HB.out | apply below_alloc | apply pw_below_drewN | apply below_drew1 | refine below_set ?_ GE144.out) | exact HB.out)⟩
                    · replace c33 := Bool.eq_false_iff.mpr c33
                      subst c33
                      have H1 : (if a0_4 = 0 then (if a0_5 = true then (some 0) else (if a0_6 = 0 then (some 0) else (some 1))) else (some 1)) = some r := by rw [if_neg (show ¬ (false = true) by decide)] at H; exact H
                      clear H
                      have H := H1
                      clear H1
                      by_cases c41 : a0_4 = 0
                      · rw [if_pos c41] at H
                        have c41b0 : (a0_4 == 0) = true := beq_iff_eq.mpr c41
                        have c41b1 : (a0_4 != 0) = false := bne_eq_false_iff_eq.mpr c41
                        clear c41
                        by_cases c42 : a0_5 = true
                        · subst c42
                          have H1 : (some 0) = some r := by rw [if_pos rfl] at H; exact H
                          clear H
                          have H := H1
                          clear H1
                          obtain rfl := Option.some.inj H
                          have hcz43_0 : wc.cell? ⟨gb144, 0, none⟩ = some (.int .i64 a0_0) := (blk_cell BK144.out 0).trans rfl
                          have hcz43_1 : wc.cell? ⟨gb144, 1, none⟩ = some (.int .i64 a0_1) := (blk_cell BK144.out 1).trans rfl
                          have hcz43_2 : wc.cell? ⟨gb144, 2, none⟩ = some (.int .i64 a0_2) := (blk_cell BK144.out 2).trans rfl
                          have hcz43_3 : wc.cell? ⟨gb144, 3, none⟩ = some (.bool false) := (blk_cell BK144.out 3).trans rfl
                          have hcz43_4 : wc.cell? ⟨gb144, 4, none⟩ = some (.int .i64 a0_4) := (blk_cell BK144.out 4).trans rfl
                          have hcz43_5 : wc.cell? ⟨gb144, 5, none⟩ = some (.bool true) := (blk_cell BK144.out 5).trans rfl
                          have hcz43_6 : wc.cell? ⟨gb144, 6, none⟩ = some (.int .i64 a0_6) := (blk_cell BK144.out 6).trans rfl
                          have hfz43_0 := blk_frozen BK144.out 0
                          have hfz43_1 := blk_frozen BK144.out 1
                          have hfz43_2 := blk_frozen BK144.out 2
                          have hfz43_3 := blk_frozen BK144.out 3
                          have hfz43_4 := blk_frozen BK144.out 4
                          have hfz43_5 := blk_frozen BK144.out 5
                          have hfz43_6 := blk_frozen BK144.out 6
                          go_wp2
                          go_ret
                          exact ⟨by first | rfl | (simp [errW_none, errW_some] <;> rfl) | (simp [*, errW_none, errW_some] <;> rfl), by repeat (first | (with_reducible first | exact HB.out | apply below_alloc | apply pw_below_drewN | apply below_drew1 | refine below_set ?_ GE144.out) | exact HB.out)⟩
                        · replace c42 := Bool.eq_false_iff.mpr c42
                          subst c42
                          have H1 : (if a0_6 = 0 then (some 0) else (some 1)) = some r := by rw [if_neg (show ¬ (false = true) by decide)] at H; exact H
                          clear H
                          have H := H1
                          clear H1
                          by_cases c44 : a0_6 = 0
                          · rw [if_pos c44] at H
                            have c44b0 : (a0_6 == 0) = true := beq_iff_eq.mpr c44
                            have c44b1 : (a0_6 != 0) = false := bne_eq_false_iff_eq.mpr c44
                            clear c44
                            obtain rfl := Option.some.inj H
                            have hcz45_0 : wc.cell? ⟨gb144, 0, none⟩ = some (.int .i64 a0_0) := (blk_cell BK144.out 0).trans rfl
                            have hcz45_1 : wc.cell? ⟨gb144, 1, none⟩ = some (.int .i64 a0_1) := (blk_cell BK144.out 1).trans rfl
                            have hcz45_2 : wc.cell? ⟨gb144, 2, none⟩ = some (.int .i64 a0_2) := (blk_cell BK144.out 2).trans rfl
                            have hcz45_3 : wc.cell? ⟨gb144, 3, none⟩ = some (.bool false) := (blk_cell BK144.out 3).trans rfl
                            have hcz45_4 : wc.cell? ⟨gb144, 4, none⟩ = some (.int .i64 a0_4) := (blk_cell BK144.out 4).trans rfl
                            have hcz45_5 : wc.cell? ⟨gb144, 5, none⟩ = some (.bool false) := (blk_cell BK144.out 5).trans rfl
                            have hcz45_6 : wc.cell? ⟨gb144, 6, none⟩ = some (.int .i64 a0_6) := (blk_cell BK144.out 6).trans rfl
                            have hfz45_0 := blk_frozen BK144.out 0
                            have hfz45_1 := blk_frozen BK144.out 1
                            have hfz45_2 := blk_frozen BK144.out 2
                            have hfz45_3 := blk_frozen BK144.out 3
                            have hfz45_4 := blk_frozen BK144.out 4
                            have hfz45_5 := blk_frozen BK144.out 5
                            have hfz45_6 := blk_frozen BK144.out 6
                            go_wp2
                            go_ret
                            exact ⟨by first | rfl | (simp [errW_none, errW_some] <;> rfl) | (simp [*, errW_none, errW_some] <;> rfl), by repeat (first | (with_reducible first | exact HB.out | apply below_alloc | apply pw_below_drewN | apply below_drew1 | refine below_set ?_ GE144.out) | exact HB.out)⟩
                          · rw [if_neg c44] at H
                            have c44b0 : (a0_6 == 0) = false := beq_eq_false_iff_ne.mpr c44
                            have c44b1 : (a0_6 != 0) = true := bne_iff_ne.mpr c44
                            obtain rfl := Option.some.inj H
                            have hcz46_0 : wc.cell? ⟨gb144, 0, none⟩ = some (.int .i64 a0_0) := (blk_cell BK144.out 0).trans rfl
                            have hcz46_1 : wc.cell? ⟨gb144, 1, none⟩ = some (.int .i64 a0_1) := (blk_cell BK144.out 1).trans rfl
                            have hcz46_2 : wc.cell? ⟨gb144, 2, none⟩ = some (.int .i64 a0_2) := (blk_cell BK144.out 2).trans rfl
                            have hcz46_3 : wc.cell? ⟨gb144, 3, none⟩ = some (.bool false) := (blk_cell BK144.out 3).trans rfl
                            have hcz46_4 : wc.cell? ⟨gb144, 4, none⟩ = some (.int .i64 a0_4) := (blk_cell BK144.out 4).trans rfl
                            have hcz46_5 : wc.cell? ⟨gb144, 5, none⟩ = some (.bool false) := (blk_cell BK144.out 5).trans rfl
                            have hcz46_6 : wc.cell? ⟨gb144, 6, none⟩ = some (.int .i64 a0_6) := (blk_cell BK144.out 6).trans rfl
                            have hfz46_0 := blk_frozen BK144.out 0
                            have hfz46_1 := blk_frozen BK144.out 1
                            have hfz46_2 := blk_frozen BK144.out 2
                            have hfz46_3 := blk_frozen BK144.out 3
                            have hfz46_4 := blk_frozen BK144.out 4
                            have hfz46_5 := blk_frozen BK144.out 5
                            have hfz46_6 := blk_frozen BK144.out 6
                            go_wp2
                            go_ret
                            exact ⟨by first | rfl | (simp [errW_none, errW_some] <;> rfl) | (simp [*, errW_none, errW_some] <;> rfl), by repeat (first | (with_reducible first | exact HB.out | apply below_alloc | apply pw_below_drewN | apply below_drew1 | refine below_set ?_ GE144.out) | exact HB.out)⟩
                      · rw [if_neg c41] at H
                        have c41b0 : (a0_4 == 0) = false := beq_eq_false_iff_ne.mpr c41
                        have c41b1 : (a0_4 != 0) = true := bne_iff_ne.mpr c41
                        obtain rfl := Option.some.inj H
                        have hcz47_0 : wc.cell? ⟨gb144, 0, none⟩ = some (.int .i64 a0_0) := (blk_cell BK144.out 0).trans rfl
                        have hcz47_1 : wc.cell? ⟨gb144, 1, none⟩ = some (.int .i64 a0_1) := (blk_cell BK144.out 1).trans rfl
                        have hcz47_2 : wc.cell? ⟨gb144, 2, none⟩ = some (.int .i64 a0_2) := (blk_cell BK144.out 2).trans rfl
                        have hcz47_3 : wc.cell? ⟨gb144, 3, none⟩ = some (.bool false) := (blk_cell BK144.out 3).trans rfl
                        have hcz47_4 : wc.cell? ⟨gb144, 4, none⟩ = some (.int .i64 a0_4) := (blk_cell BK144.out 4).trans rfl
                        have hcz47_5 : wc.cell? ⟨gb144, 5, none⟩ = some (.bool a0_5) := (blk_cell BK144.out 5).trans rfl
                        have hcz47_6 : wc.cell? ⟨gb144, 6, none⟩ = some (.int .i64 a0_6) := (blk_cell BK144.out 6).trans rfl
                        have hfz47_0 := blk_frozen BK144.out 0
                        have hfz47_1 := blk_frozen BK144.out 1
                        have hfz47_2 := blk_frozen BK144.out 2
                        have hfz47_3 := blk_frozen BK144.out 3
                        have hfz47_4 := blk_frozen BK144.out 4
                        have hfz47_5 := blk_frozen BK144.out 5
                        have hfz47_6 := blk_frozen BK144.out 6
                        go_wp2
                        go_ret
                        exact ⟨by first | rfl | (simp [errW_none, errW_some] <;> rfl) | (simp [*, errW_none, errW_some] <;> rfl), by repeat (first | (with_reducible first | exact HB.out | apply below_alloc | apply pw_below_drewN | apply below_drew1 | refine below_set ?_ GE144.out) | exact HB.out)⟩

end Go.Proofs.YtfpkgdkcllobiaaDoor.F
end
