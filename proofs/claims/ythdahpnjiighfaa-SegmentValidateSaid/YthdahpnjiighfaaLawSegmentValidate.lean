/- The law SegmentValidate holds, whatever its arguments: the printed walk, its arguments opened, and the plain law. Conditions: none beyond the statement's own. -/
import Derived.Test.YthdahpnjiighfaaRows
import Derived.Test.YthdahpnjiighfaaF12 -- customslaw06_SegmentValidate
import Derived.Test.YthdahpnjiighfaaOpen
import Derived.Test.YthdahpnjiighfaaPureSegmentValidate
import Derived.WalkKit
import Derived.ProofKit
import Derived.OpenShut
import Derived.ShutString
import Derived.ChangeOld
import Derived.Below
import Derived.SizedLaws
import Derived.Test.YthdahpnjiighfaaWSized
namespace Go.Proofs.Ythdahpnjiighfaa.segmentValidate
open Go.Proofs.YthdahpnjiighfaaW.PrintWords
open Go.ChangeShapes Go.WideShapes Go.ChangeAt Go.RowKit
open Go.ChangeMaps (open_string shut_string)
set_option linter.unusedVariables false
theorem own : ownKnob Try.prog.godebug = none := by kernel_rfl
theorem laidOut : laidOutB Try.prog = true := by kernel_rfl
def IsRow (k : IntKind) (w : World) (a : Option Addr) (len cap : Nat) (zs : List Int) : Prop :=
  (a = none ∧ len = 0 ∧ cap = 0 ∧ zs = []) ∨
  ∃ x, a = some x ∧ len ≤ cap ∧ cap ≤ maxLen ∧ zs.length = cap ∧ (∀ i, i < zs.length → w.cell? (x.add i) = some (.int k (zs.getD i 0))) ∧ ∀ n ∈ zs, (Lit.int k n).wf = true
set_option maxRecDepth 100000 in
theorem lifted (os : Os) (started : os.Started) (H : Type) (enc : TypeId × Value → H) :
    ReturnsInHanded {} Try.checked os 3 .any (Rows.segmentValidateSpec.pre6 enc Try.prog Try.f3 Rows.segmentValidateRow.domain false) (Rows.segmentValidateSpec.post enc Try.prog Try.f3 false true false false) := by
  refine returnsInHanded_of_change_sized (C := Try.checked) own started (by kernel_rfl) Try.func3
    (ChangeSpec.witness6 (enc := enc) (C := Try.checked) false ⟨#[], #[.agg #[.string ⟨#[]⟩, .slice none 0 0]], []⟩ 8 (by kernel_rfl) (by kernel_rfl) (by kernel_rfl) (by kernel_rfl)) ?_
  intro W base args ds gs before hval0 hW hcnd hsz0 _
  have hsz : (DataW.weightsEach Try.prog (Try.f3.params.toList ++ Rows.segmentValidateSpec.plain.varTypes Try.prog) (ds ++ gs)).all (· ≤ reachBytes) = true := hsz0
  have hval : ∀ (j : Nat) t v, Try.f3.params[j]? = some t → args[j]? = some v → Value.okWide Try.prog W .any base t v := hval0
  have hW' := hW
  obtain ⟨p, q, hA0, hV, rfl, hfz, hnd⟩ := hW
  have hA : DataW.TrodAll enc Try.prog W 0 (fun _ => true) true Try.f3.params.toList args.toList ds p := hA0
  rw [Try.params3] at hA hval hsz
  obtain ⟨v0, vs0, d0, ds0, p0, q0, hargs, rfl, rfl, h0, r0⟩ := trodAll_cons hA
  obtain ⟨rfl, rfl, rfl⟩ := trodAll_nil r0
  obtain rfl : args = #[v0] := by cases args; simp_all
  obtain ⟨rfl, rfl⟩ := trodVars_none hV
  have k0 := h0
  have lt0 : ∀ x ∈ p0, x.block < W.heap.size := by obtain ⟨m, hm⟩ := k0; exact DataW.trod_lt m _ _ _ hm
  obtain ⟨v00_, v01_, yv00, yv01, nv0, rfl, rfl, rfl, gv00, gv01⟩ := Go.Joins.open_agg2 Try.underlying24 (by kernel_rfl) (by kernel_rfl) (hval 0 24 v0 rfl rfl) h0
  obtain ⟨sv0, zv01, zv02, zv03⟩ := DataW.trod_string Try.underlying9 gv00
  obtain rfl : v00_ = .string sv0 := by simpa using zv01
  obtain ⟨Av0, cv0, xv0, ev0, lv0, mv0, qv0, fv0⟩ := D.open_row (d := Kd.slice 9 Kd.string) (Q := fun xs : List ByteArray => xs.length ≤ maxLen ∧ ∀ x ∈ xs, x.size ≤ maxLen) Try.underlying22 (by kernel_rfl) (D.opens_row (d := Kd.string) Try.underlying48 (by kernel_rfl) (D.opens_string Try.underlying9)) gv01
  obtain rfl : v01_ = .slice Av0 xv0.length cv0 := by simpa using ev0
  have fitsv0 : D.fits xv0 := ⟨by have := Nat.le_trans lv0 mv0; exact this, fun e he => (qv0 e he).1, fun e he c hc => (qv0 e he).2 c hc⟩
  clear hA0 hval0 hsz0 hsz
  obtain ⟨k, hk⟩ := Pure.SegmentValidate sv0 xv0 fitsv0
  refine (F.customslaw06_SegmentValidate.calls k sv0 Av0 cv0 xv0 true W (fv0 W (fun _ _ => rfl)) lv0 hk rfl).mono fun e W' ⟨he, bel⟩ => ?_
  subst he
  exact ⟨_, rfl, _, _, _, [], _, [], hW', trodAll_mk1 (shut_bool Try.underlying4 _), (trodAll_cons_mk (Below.trod laidOut (by kernel_rfl) (of_decide_eq_true (by kernel_rfl)) k0 bel lt0) trodAll_mk0), rfl, bel.frame _, fun h => by cases h⟩
theorem over : Rows.segmentValidateRow.holds Try.pinned (OpenSpec.ofChange Rows.segmentValidateSpec) :=
  OpenClaim.holds_of_wide 3 Try.f3 rfl rfl rfl rfl rfl rfl rfl ⟨rfl, rfl, rfl, rfl, rfl⟩ rfl rfl rfl rfl rfl (by kernel_rfl) Try.func3 (by kernel_rfl)
    (of_decide_eq_true (by kernel_rfl)) (by unfold Func.isWrapper; first | (rw [if_pos (by decide +kernel)]; kernel_rfl) | (rw [if_neg (by decide +kernel)]; exact ⟨rfl, rfl⟩))
    (fun os started H enc _ => lifted os started H enc)
theorem proved : Rows.SegmentValidateSaid := over
#print axioms proved
end Go.Proofs.Ythdahpnjiighfaa.segmentValidate
namespace Go.Proofs.Ythdahpnjiighfaa
/-- The row, under a short name, for the claim. -/
theorem segmentValidate_holds : Rows.SegmentValidateSaid := segmentValidate.proved
end Go.Proofs.Ythdahpnjiighfaa
