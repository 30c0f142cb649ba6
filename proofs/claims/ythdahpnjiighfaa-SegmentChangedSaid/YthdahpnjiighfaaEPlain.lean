import Derived.Test.YthdahpnjiighfaaF0
import Derived.Test.YthdahpnjiighfaaShelf
namespace Go.Proofs.Ythdahpnjiighfaa.F
open Go.RowKit Go.Proofs.YthdahpnjiighfaaW.PrintWords Go.Proofs.YthdahpnjiighfaaW.PrintLast Go.Proofs.YthdahpnjiighfaaW.PrintMore
def plainL : List UInt8 → List UInt8
  | [] => []
  | [c] => [c]
  | c :: d :: r => if c = 63 then d :: plainL r else c :: plainL (d :: r)
theorem plainL_esc (d : UInt8) (r : List UInt8) : plainL (63 :: d :: r) = d :: plainL r := by rw [plainL, if_pos rfl]
theorem plainL_cons {c : UInt8} {r : List UInt8} (h : c ≠ 63 ∨ r = []) : plainL (c :: r) = c :: plainL r := by
  cases r with
  | nil => rw [plainL, plainL]
  | cons d r => rw [plainL, if_neg (h.resolve_right (by simp))]
def segment_plain.f (a0 : ByteArray) : Option ByteArray := if a0.size ≤ 70368744177664 then some ⟨(plainL a0.data.toList).toArray⟩ else none
theorem plain_step (l b : List UInt8) (i : Nat) (h : i < l.length) (hp : b ++ plainL (l.drop i) = plainL l) :
    if (l[i].toNat : Int) = 63 ∧ i + 1 < l.length then ∃ h2 : i + 1 < l.length, (b ++ [l[i + 1]]) ++ plainL (l.drop (i + 2)) = plainL l else (b ++ [l[i]]) ++ plainL (l.drop (i + 1)) = plainL l := by
  rw [List.drop_eq_getElem_cons h] at hp
  split
  · rename_i hc
    refine ⟨hc.2, ?_⟩
    rw [List.drop_eq_getElem_cons hc.2] at hp
    have h63 : l[i] = 63 := by
      have h1 := hc.1
      apply UInt8.toNat_inj.mp
      show l[i].toNat = 63
      omega
    have key : ∀ c : UInt8, c = 63 → plainL (c :: l[i + 1] :: l.drop (i + 1 + 1)) = l[i + 1] :: plainL (l.drop (i + 1 + 1)) := by
      rintro c rfl
      exact plainL_esc _ _
    rw [key _ h63] at hp
    rw [← hp, List.append_assoc]
    rfl
  · rename_i hc
    rw [plainL_cons ?_] at hp
    · rw [← hp, List.append_assoc]
      rfl
    · by_cases h1 : i + 1 < l.length
      · refine Or.inl (fun h63 => hc ⟨?_, h1⟩)
        rw [h63]
        rfl
      · exact Or.inr (List.drop_eq_nil_of_le (by omega))
set_option maxHeartbeats 8000000 in
set_option maxRecDepth 100000 in
theorem segment_plain.calls (a0 : ByteArray) (r : ByteArray) (w : World) (h : segment_plain.f a0 = some r) :
    Calls Try.prog 35 #[.string a0] w fun e w' => e = .returned (.string r) ∧ Below w.heap.size w w' := by
  unfold segment_plain.f at h
  split at h
  · rename_i hs0
    have HS := Aside0.mk hs0
    obtain rfl := Option.some.inj h
    clear h hs0
    have hlen : a0.data.toList.length = a0.size := by rw [Array.length_toList]; rfl
    have HL := Aside0.mk hlen
    clear hlen
    go_enter Try.func35, Try.ntmps35
    go_wp2
    go_loopg [4] (a0.size + 1) (fun kq v4 w' => ∃ (i : Nat) (b : List UInt8), v4 = .int .i64 (i : Int) ∧ Aside0 (i ≤ a0.size ∧ b.length ≤ i ∧ a0.size + 1 ≤ kq + i ∧ b ++ plainL (a0.data.toList.drop i) = plainL a0.data.toList) ∧ Aside0 (Lib.IsBuilder 65 5 w.heap.size w.heap.size (Lib.byteCells b) w') ∧ Aside0 (Below w.heap.size w w'))
    case atStart => exact ⟨0, [], rfl, ⟨Nat.zero_le _, Nat.le_refl _, by omega, rfl⟩, ⟨Or.inl ⟨Nat.le_refl _, .slice none 0 0, heap_alloc_new _ _, World.ownsRow_nil _ _ _ _, by simp [Value.ownBlock]⟩⟩, ⟨(Below.refl _ w).alloc (Nat.le_refl _) _⟩⟩
    case round =>
      obtain ⟨i, b, rfl, HA, HBu, HB⟩ := hrel
      have hi := HA.out
      have hlen := HL.out
      by_cases c1 : (i : Int) < (a0.size : Int)
      · have hlt : i < a0.data.toList.length := by omega
        have hg : i < a0.size := by omega
        have hst := plain_step a0.data.toList b i hlt hi.2.2.2
        have hget : a0.data.toList[i] = a0[i]'hg := rfl
        rw [hget] at hst
        have hsz := HS.out
        cases gk with
        | zero => exact absurd hi.2.2.1 (by omega)
        | succ k1 =>
        have c1b : decide ((i : Int) < (a0.size : Int)) = true := decide_eq_true c1
        have p1 : (0 ≤ (i : Int)) = True := eq_true (by omega)
        have q1 := eq_true c1
        have hw : wrap64 ((i : Int) + 1) = (i : Int) + 1 := by unfold wrap64; omega
        by_cases c2 : ((a0[i]'hg).toNat : Int) = 63
        · have c2b : (((a0[i]'hg).toNat : Int) == 63) = true := beq_iff_eq.mpr c2
          by_cases c3 : (i : Int) + 1 < (a0.size : Int)
          · have c3b : decide ((i : Int) + 1 < (a0.size : Int)) = true := decide_eq_true c3
            have hg2 : i + 1 < a0.size := by omega
            have p2 : (0 ≤ (i : Int) + 1) = True := eq_true (by omega)
            have q2 := eq_true c3
            rw [if_pos ⟨c2, by omega⟩] at hst
            obtain ⟨h2, hst⟩ := hst
            have hget2 : a0.data.toList[i + 1] = a0[i + 1]'hg2 := rfl
            rw [hget2] at hst
            have HST := Aside0.mk hst
            clear hst
            go_wp2_with (first | ((with_reducible refine gate_callee (f := 36) rfl ?_); refine goesL_ (some 27) rfl rfl Try.func36 (by kernel_rfl) rfl #[.pointer (some ⟨w.heap.size, 0, none⟩), .int .u8 (((a0[i + 1]'hg2).toNat : Int))] rfl (by (try simp only [List.map_toArray, List.map_cons, List.map_nil]); first | done | rfl) ?_; (with_reducible refine (Try.Builder_WriteByte w.heap.size w.heap.size _ (((a0[i + 1]'hg2).toNat : Int)) _ HBu.out ?hl ?hb).mono ?_); (case hl => rw [Lib.byteCells_length]; omega); (case hb => exact HB.out.size); rintro e w2 ⟨rfl, hbu, hb⟩; refine ⟨_, rfl, ?_⟩))
            go_roundg k1
            case measure => omega
            case rel => exact ⟨i + 2, b ++ [a0[i + 1]'hg2], (by first | rfl | (congr 1; unfold wrap64; omega)), ⟨by omega, by rw [List.length_append]; simp; omega, by omega, HST.out⟩, ⟨Or.inr (by simpa [Lib.byteCells] using hbu)⟩, ⟨HB.out.trans hb⟩⟩
          · have c3b : decide ((i : Int) + 1 < (a0.size : Int)) = false := decide_eq_false c3
            rw [if_neg (fun h => c3 (by omega))] at hst
            have HST := Aside0.mk hst
            clear hst
            go_wp2_with (first | ((with_reducible refine gate_callee (f := 36) rfl ?_); refine goesL_ (some 27) rfl rfl Try.func36 (by kernel_rfl) rfl #[.pointer (some ⟨w.heap.size, 0, none⟩), .int .u8 (63)] rfl (by (try simp only [List.map_toArray, List.map_cons, List.map_nil]); first | done | rfl) ?_; (with_reducible refine (Try.Builder_WriteByte w.heap.size w.heap.size _ (63) _ HBu.out ?hl ?hb).mono ?_); (case hl => rw [Lib.byteCells_length]; omega); (case hb => exact HB.out.size); rintro e w2 ⟨rfl, hbu, hb⟩; refine ⟨_, rfl, ?_⟩))
            go_roundg k1
            case measure => omega
            case rel => exact ⟨i + 1, b ++ [a0[i]'hg], (by first | rfl | (congr 1; unfold wrap64; omega)), ⟨by omega, by rw [List.length_append]; simp; omega, by omega, HST.out⟩, ⟨Or.inr (by simpa [Lib.byteCells, c2] using hbu)⟩, ⟨HB.out.trans hb⟩⟩
        · have c2b : (((a0[i]'hg).toNat : Int) == 63) = false := beq_eq_false_iff_ne.mpr c2
          rw [if_neg (fun h => c2 h.1)] at hst
          have HST := Aside0.mk hst
          clear hst
          go_wp2_with (first | ((with_reducible refine gate_callee (f := 36) rfl ?_); refine goesL_ (some 27) rfl rfl Try.func36 (by kernel_rfl) rfl #[.pointer (some ⟨w.heap.size, 0, none⟩), .int .u8 (((a0[i]'hg).toNat : Int))] rfl (by (try simp only [List.map_toArray, List.map_cons, List.map_nil]); first | done | rfl) ?_; (with_reducible refine (Try.Builder_WriteByte w.heap.size w.heap.size _ (((a0[i]'hg).toNat : Int)) _ HBu.out ?hl ?hb).mono ?_); (case hl => rw [Lib.byteCells_length]; omega); (case hb => exact HB.out.size); rintro e w2 ⟨rfl, hbu, hb⟩; refine ⟨_, rfl, ?_⟩))
          go_roundg k1
          case measure => omega
          case rel => exact ⟨i + 1, b ++ [a0[i]'hg], (by first | rfl | (congr 1; unfold wrap64; omega)), ⟨by omega, by rw [List.length_append]; simp; omega, by omega, HST.out⟩, ⟨Or.inr (by simpa [Lib.byteCells] using hbu)⟩, ⟨HB.out.trans hb⟩⟩
      · have c1b : decide ((i : Int) < (a0.size : Int)) = false := decide_eq_false c1
        have hend : b = plainL a0.data.toList := by
          have h4 := hi.2.2.2
          rw [List.drop_eq_nil_of_le (by omega), plainL, List.append_nil] at h4
          exact h4
        have HE := Aside0.mk hend
        clear hend
        go_wp2_with (first | ((with_reducible refine gate_callee (f := 37) rfl ?_); refine goesL_ (some 28) rfl rfl Try.func37 (by kernel_rfl) rfl #[.pointer (some ⟨w.heap.size, 0, none⟩)] rfl (by (try simp only [List.map_toArray, List.map_cons, List.map_nil]); first | done | rfl) ?_; (with_reducible refine (Try.Builder_String_any w.heap.size w.heap.size b _ HBu.out ?hb).mono ?_); (case hb => exact HB.out.size); rintro e w2 ⟨rfl, hb⟩; refine ⟨_, rfl, ?_⟩))
        go_ret
        exact ⟨by rw [← HE.out]; rfl, HB.out.trans hb⟩
  · cases h
end Go.Proofs.Ythdahpnjiighfaa.F
