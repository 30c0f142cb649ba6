import Derived.Test.YthdahpnjiighfaaProg
import Derived.Test.YthdahpnjiighfaaWWords
import Derived.Test.YthdahpnjiighfaaWLast
namespace Go.Proofs.Ythdahpnjiighfaa.F
open Go.RowKit Go.Proofs.YthdahpnjiighfaaW.PrintWords Go.Proofs.YthdahpnjiighfaaW.PrintLast
theorem cut_C {w : World} {A : Option Addr} {l : List Int} (m : Nat) (h : Kd.C (Kd.int .i64) w A l.length l) : Kd.C (Kd.int .i64) w A (l.take m).length (l.take m) := by
  have h1 : ReadsOf (Value.int .i64) 0 w A l.length l := Kd.reads_of_C h
  refine Kd.C_of_reads (h1 := fun _ => rfl) (d := 0) ?_
  by_cases hm : m ≤ l.length
  · have h2 := h1.take_ m hm
    rwa [show (l.take m).length = m by rw [List.length_take]; omega]
  · rwa [List.take_of_length_le (by omega)]
theorem cut_cap {c : Nat} {l : List Int} (m : Nat) (h : l.length ≤ c) : (l.take m).length ≤ c := by
  rw [List.length_take]
  omega
theorem customsmade_Cut.cut (A : Option Addr) (c : Nat) (l : List Int) (k : Int) (m : Nat) (hk : k = m) (w : World) (hc : l.length ≤ c) :
    Calls Try.prog 23 #[.slice A l.length c, .int .i64 k] w fun e w' => e = .returned (.slice A (l.take m).length c) ∧ ∃ nd, w' = w.drewN nd := by
  have hinfo : (Try.prog.info? 3).map (fun i => (i.zero, i.size, i.bytes)) = some (some (.int .i64 0), 1, 8) := by kernel_rfl
  by_cases hgt : (l.length : Int) > k
  · obtain ⟨i0, hi0, _, hsz, _⟩ := info_parts hinfo
    obtain ⟨hcut, _, _⟩ := print_take_of (P := Try.prog) (Value.int .i64) 0 29 3 .i64 Try.underlying29 hi0 hsz A c l k (by omega) (by omega) hc
    have e1 : k.toNat = m := by omega
    rw [e1] at hcut
    have hb : decide ((l.length : Int) > k) = true := decide_eq_true hgt
    clear hk e1 hgt hinfo hi0 hsz hc
    go_enter Try.func23, Try.ntmps23
    go_wp2
    go_ret
    exact ⟨by rw [List.length_take]; rfl, 0, rfl⟩
  · have hb : decide ((l.length : Int) > k) = false := decide_eq_false hgt
    rw [List.take_of_length_le (by omega)]
    clear hk hgt hinfo hc
    go_enter Try.func23, Try.ntmps23
    go_wp2
    go_ret
    exact ⟨rfl, 0, rfl⟩
end Go.Proofs.Ythdahpnjiighfaa.F
