import Derived.Test.YthdahpnjiighfaaProg
import Derived.Below
import Derived.Deep.Draws
import Derived.Deep.AppendLies
import Derived.Maps.AppendAt
import Derived.OwnWalk
import Derived.Laws.BytesArg
import Derived.Laws.MakeOwn
import Derived.Laws.OwnMore
import Derived.Deep.OwnRows
import Derived.Tactics
import Derived.Lib.ConvBytes
import Derived.Laws.Slices
import Derived.WalkKit
import Derived.KernelRfl
import Derived.RowKit3
import Derived.Deep.LoopGhost
import Derived.Deep.QuietTactic
import Derived.BigQuiet
import Derived.WideLaws
import Derived.Deep.DeepCutAuto
import Derived.Deep.CutBlock
import Derived.Deep.RegionHeld3
import Derived.Laws.Rows
import Derived.Lib.AppendStr
import Derived.ArgAppend
import Derived.Laws.IdiomCopy
import Derived.OrdersHeld
import Derived.Laws.BitsLemmas
import Derived.RowKit
import Derived.Test.YthdahpnjiighfaaConv
import Derived.Test.YthdahpnjiighfaaApps
import Derived.Test.YthdahpnjiighfaaWWords
import Derived.Test.YthdahpnjiighfaaWLast
import Derived.Test.YthdahpnjiighfaaWTab
import Derived.Test.YthdahpnjiighfaaWFour
import Derived.Test.YthdahpnjiighfaaWQPut
import Derived.Test.YthdahpnjiighfaaWApart
import Derived.Test.YthdahpnjiighfaaWArr
import Derived.Test.YthdahpnjiighfaaWZeros
import Derived.Test.YthdahpnjiighfaaWFoot
import Derived.Test.YthdahpnjiighfaaWKept
import Derived.Test.YthdahpnjiighfaaWShare
import Derived.Test.YthdahpnjiighfaaWN
import Derived.Test.YthdahpnjiighfaaWFootNe
import Derived.Test.YthdahpnjiighfaaWAt
import Derived.Test.YthdahpnjiighfaaWEqStruct
import Derived.Test.YthdahpnjiighfaaWRepsOne
import Derived.Test.YthdahpnjiighfaaWInv
import Derived.Test.YthdahpnjiighfaaWInvWords
import Derived.Test.YthdahpnjiighfaaWGuard
import Derived.Test.YthdahpnjiighfaaWNEv
import Derived.Test.YthdahpnjiighfaaWMore
namespace Go.Proofs.Ythdahpnjiighfaa.F
open Go.RowKit Go.Proofs.YthdahpnjiighfaaW.PrintWords Go.Proofs.YthdahpnjiighfaaW.PrintLast Go.Proofs.YthdahpnjiighfaaW.PrintMore
attribute [local go_sem] max2_int min2_int max_two min_two max_three min_three max_four min_four
set_option linter.unusedVariables false
set_option linter.unusedSimpArgs false
def errW : Option Int → Value
  | none => .nilIface
  | some c => .iface 0 (.pointer (some ⟨c.toNat, 0, none⟩))
theorem errW_none : errW none = .nilIface := rfl
theorem errW_some (c : Int) : errW (some c) = .iface 0 (.pointer (some ⟨c.toNat, 0, none⟩)) := rfl
theorem info5 : (Try.prog.info? 5).map (fun i => (i.zero, i.size, i.bytes)) = some (some (.int .u8 0), 1, 1) := by kernel_rfl
theorem info9 : (Try.prog.info? 9).map (fun i => (i.zero, i.size, i.bytes)) = some (some (.string ⟨#[]⟩), 1, 16) := by kernel_rfl
theorem info24 : (Try.prog.info? 24).map (fun i => (i.zero, i.size, i.bytes)) = some (some (.agg #[(.string ⟨#[]⟩), (.slice none 0 0)]), 2, 40) := by kernel_rfl
theorem info48 : (Try.prog.info? 48).map (fun i => (i.zero, i.size, i.bytes)) = some (some (.slice none 0 0), 1, 24) := by kernel_rfl
def rd_L1 (xs : List (List ByteArray)) (i : Int) : (List ByteArray) := xs.getD i.toNat ([] : List ByteArray)
theorem at_L1 {w : World} {A : Option Addr} {n : Nat} {xs : List (List ByteArray)} (h : Kd.C (Kd.slice 9 Kd.string) w A n xs) (i : Int) (h0 : 0 ≤ i) (h1 : i < n) : ∃ ad A0 c0, A = some ad ∧ w.cell? (ad.add i.toNat) = some (.slice A0 (rd_L1 xs i).length c0) ∧ (rd_L1 xs i).length ≤ c0 ∧ Kd.string.C w A0 (rd_L1 xs i).length (rd_L1 xs i) := by
  (obtain ⟨ad, c, e, _, hK, hc0⟩ := Kd.C_get h ([] : List ByteArray) i h0 h1); (have hc : ∀ j u, c[j]? = some u → w.cell? (ad.add (i.toNat * 1 + j)) = some u := hc0); (obtain ⟨A0, c0, rfl, l0, g0⟩ := hK); (exact ⟨ad, A0, c0, e, by have hq := hc 0 _ rfl; rwa [Nat.mul_one, Nat.add_zero] at hq, l0, g0⟩)
structure S24 where
  f0 : ByteArray
  f1 : (List (List ByteArray))
def z24 : S24 := ⟨(⟨#[]⟩ : ByteArray), ([] : List (List ByteArray))⟩
def k24 : Kd S24 := Kd.iso (Kd.pair Kd.string (Kd.slice 48 (Kd.slice 9 Kd.string))) (fun x : S24 => (x.f0, x.f1))
theorem k24_open {w : World} {x : S24} {cs : List Value} (h : k24.K w x cs) : ∃ A1 c1, cs = [.string x.f0, .slice A1 x.f1.length c1] ∧ x.f1.length ≤ c1 ∧ (Kd.slice 9 Kd.string).C w A1 x.f1.length x.f1 := by
  (obtain ⟨_, _, rfl, rfl, ⟨A1, c1, rfl, l1, g1⟩⟩ := h); (exact ⟨A1, c1, rfl, l1, g1⟩)
theorem k24_mk (w : World) (x : S24) {A1 : Option Addr} {c1 : Nat} (l1 : x.f1.length ≤ c1) (g1 : (Kd.slice 9 Kd.string).C w A1 x.f1.length x.f1) : k24.K w x [.string x.f0, .slice A1 x.f1.length c1] := ⟨[.string x.f0], [.slice A1 x.f1.length c1], rfl, rfl, ⟨A1, c1, rfl, l1, g1⟩⟩
theorem k24_mkM (w : World) (base : Nat) (ok : Nat → Prop) (x : S24) {v1 : Value} (g1 : (Kd.slice 9 Kd.string).R 48 w base ok v1 x.f1) : k24.M w base ok x [.string x.f0, v1] := ⟨[.string x.f0], [v1], rfl, rfl, ⟨v1, rfl, g1⟩⟩
theorem k24_mkF (W : World) (ok : Nat → Prop) (x : S24) {A1 : Option Addr} {c1 : Nat} (l1 : x.f1.length ≤ c1) (g1 : Kd.F (Kd.slice 9 Kd.string) W ok A1 x.f1.length x.f1) : Kd.FK k24 W ok x [.string x.f0, .slice A1 x.f1.length c1] := fun W2 hW => k24_mk W2 x l1 (g1 W2 hW)
def rd_T24 (xs : List S24) (i : Int) : S24 := xs.getD i.toNat z24
theorem at_T24 {w : World} {A : Option Addr} {n : Nat} {xs : List S24} (h : Kd.C k24 w A n xs) (i : Int) (h0 : 0 ≤ i) (h1 : i < n) : ∃ ad A1 c1, A = some ad ∧ w.cell? (ad.add (i.toNat * 2)) = some (.string (rd_T24 xs i).f0) ∧ w.cell? ⟨(ad.add (i.toNat * 2)).block, (ad.add (i.toNat * 2)).off + 1, none⟩ = some (.slice A1 (rd_T24 xs i).f1.length c1) ∧ (rd_T24 xs i).f1.length ≤ c1 ∧ (Kd.slice 9 Kd.string).C w A1 (rd_T24 xs i).f1.length (rd_T24 xs i).f1 := by
  (obtain ⟨ad, c, e, _, hK, hc0⟩ := Kd.C_get h z24 i h0 h1); (have hc : ∀ j u, c[j]? = some u → w.cell? (ad.add (i.toNat * 2 + j)) = some u := hc0); (obtain ⟨A1, c1, rfl, l1, g1⟩ := k24_open hK); (exact ⟨ad, A1, c1, e, hc 0 _ rfl, by rw [← add_field _ _ 1 (by omega)]; exact hc 1 _ rfl, l1, g1⟩)
end Go.Proofs.Ythdahpnjiighfaa.F
