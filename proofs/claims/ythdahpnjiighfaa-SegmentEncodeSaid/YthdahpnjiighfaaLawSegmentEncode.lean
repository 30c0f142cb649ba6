/- The law SegmentEncode holds, whatever its arguments: the printed walk, its arguments opened, and the plain law. Conditions: none beyond the statement's own. -/
import Derived.Test.YthdahpnjiighfaaRows
import Derived.Test.YthdahpnjiighfaaF18 -- customslaw06_SegmentEncode
import Derived.Test.YthdahpnjiighfaaOpen
import Derived.Test.YthdahpnjiighfaaPureSegmentValidate
import Derived.WalkKit
import Derived.ProofKit
import Derived.OpenShut
import Derived.ShutString
import Derived.ChangeOld
import Derived.Below
import Derived.SizedLaws
import Derived.Test.YthdahpnjiighfaaWSized
namespace Go.Proofs.Ythdahpnjiighfaa.segmentEncode
open Go.Proofs.YthdahpnjiighfaaW.PrintWords
open Go.ChangeShapes Go.WideShapes Go.ChangeAt Go.RowKit
open Go.ChangeMaps (open_string shut_string)
set_option linter.unusedVariables false
theorem own : ownKnob Try.prog.godebug = none := by kernel_rfl
theorem laidOut : laidOutB Try.prog = true := by kernel_rfl
def IsRow (k : IntKind) (w : World) (a : Option Addr) (len cap : Nat) (zs : List Int) : Prop :=
  (a = none ∧ len = 0 ∧ cap = 0 ∧ zs = []) ∨
  ∃ x, a = some x ∧ len ≤ cap ∧ cap ≤ maxLen ∧ zs.length = cap ∧ (∀ i, i < zs.length → w.cell? (x.add i) = some (.int k (zs.getD i 0))) ∧ ∀ n ∈ zs, (Lit.int k n).wf = true
set_option maxRecDepth 100000 in
theorem lifted (os : Os) (started : os.Started) (H : Type) (enc : TypeId × Value → H) :
    ReturnsInHanded {} Try.checked os 4 .any (Rows.segmentEncodeSpec.pre6 enc Try.prog Try.f4 Rows.segmentEncodeRow.domain false) (Rows.segmentEncodeSpec.post enc Try.prog Try.f4 false true false false) := by
  refine returnsInHanded_of_change_sized (C := Try.checked) own started (by kernel_rfl) Try.func4
    (ChangeSpec.witness6 (enc := enc) (C := Try.checked) false ⟨#[], #[.slice none 0 0, .agg #[.string ⟨#[]⟩, .slice none 0 0], .int .i64 0], []⟩ 8 (by kernel_rfl) (by kernel_rfl) (by kernel_rfl) (by kernel_rfl)) ?_
  intro W base args ds gs before hval0 hW hcnd hsz0 _
  have hsz : (DataW.weightsEach Try.prog (Try.f4.params.toList ++ Rows.segmentEncodeSpec.plain.varTypes Try.prog) (ds ++ gs)).all (· ≤ reachBytes) = true := hsz0
  have hval : ∀ (j : Nat) t v, Try.f4.params[j]? = some t → args[j]? = some v → Value.okWide Try.prog W .any base t v := hval0
  have hW' := hW
  obtain ⟨p, q, hA0, hV, rfl, hfz, hnd⟩ := hW
  have hA : DataW.TrodAll enc Try.prog W 0 (fun _ => true) true Try.f4.params.toList args.toList ds p := hA0
  rw [Try.params4] at hA hval hsz
  obtain ⟨v0, vs0, d0, ds0, p0, q0, hargs, rfl, rfl, h0, r0⟩ := trodAll_cons hA
  obtain ⟨v1, vs1, d1, ds1, p1, q1, rfl, rfl, rfl, h1, r1⟩ := trodAll_cons r0
  obtain ⟨v2, vs2, d2, ds2, p2, q2, rfl, rfl, rfl, h2, r2⟩ := trodAll_cons r1
  obtain ⟨rfl, rfl, rfl⟩ := trodAll_nil r2
  obtain rfl : args = #[v0, v1, v2] := by cases args; simp_all
  obtain ⟨rfl, rfl⟩ := trodVars_none hV
  obtain ⟨a0, len0, cap0, rfl⟩ := okWide_slice Try.underlying29 (hval 0 29 v0 rfl rfl)
  have k0 := h0
  have lt0 : ∀ x ∈ p0, x.block < W.heap.size := by obtain ⟨m, hm⟩ := k0; exact DataW.trod_lt m _ _ _ hm
  obtain ⟨z0, w0⟩ : ∃ zs, IsRow .i64 W a0 len0 cap0 zs := by
    obtain ⟨fuel, hf⟩ := h0
    rcases open_ints Try.underlying29 Try.underlying3 (by kernel_rfl) hf with ⟨hcs, _⟩ | ⟨x, l, c, zs, hcs, _, hl, hm, hz, _, hcell, hwz⟩
    · simp [Value.cells] at hcs
      obtain ⟨rfl, rfl, rfl⟩ := hcs
      exact ⟨[], .inl ⟨rfl, rfl, rfl, rfl⟩⟩
    · simp [Value.cells] at hcs
      obtain ⟨rfl, rfl, rfl⟩ := hcs
      exact ⟨zs, .inr ⟨_, rfl, hl, hm, by simpa using hz, hcell, hwz⟩⟩
  have k1 := h1
  have lt1 : ∀ x ∈ p1, x.block < W.heap.size := by obtain ⟨m, hm⟩ := k1; exact DataW.trod_lt m _ _ _ hm
  obtain ⟨v10_, v11_, yv10, yv11, nv1, rfl, rfl, rfl, gv10, gv11⟩ := Go.Joins.open_agg2 Try.underlying24 (by kernel_rfl) (by kernel_rfl) (hval 1 24 v1 rfl rfl) h1
  obtain ⟨sv1, zv11, zv12, zv13⟩ := DataW.trod_string Try.underlying9 gv10
  obtain rfl : v10_ = .string sv1 := by simpa using zv11
  obtain ⟨Av1, cv1, xv1, ev1, lv1, mv1, qv1, fv1⟩ := D.open_row (d := Kd.slice 9 Kd.string) (Q := fun xs : List ByteArray => xs.length ≤ maxLen ∧ ∀ x ∈ xs, x.size ≤ maxLen) Try.underlying22 (by kernel_rfl) (D.opens_row (d := Kd.string) Try.underlying48 (by kernel_rfl) (D.opens_string Try.underlying9)) gv11
  obtain rfl : v11_ = .slice Av1 xv1.length cv1 := by simpa using ev1
  have fitsv1 : D.fits xv1 := ⟨by have := Nat.le_trans lv1 mv1; exact this, fun e he => (qv1 e he).1, fun e he c hc => (qv1 e he).2 c hc⟩
  have k2 := h2
  have lt2 : ∀ x ∈ p2, x.block < W.heap.size := by obtain ⟨m, hm⟩ := k2; exact DataW.trod_lt m _ _ _ hm
  obtain ⟨n2, rfl, rfl, rfl, w2⟩ := open_int Try.underlying3 (hval 2 3 v2 rfl rfl) h2
  clear hA0 hval0 hsz0 hsz
  obtain ⟨l0, rfl, hr0, hm0, hw0, hc0⟩ := Go.Proofs.YthdahpnjiighfaaW.PrintWords.ReadsInt.ofRowC w0
  obtain ⟨k, hk⟩ := Pure.SegmentEncode l0 sv1 xv1 n2 fitsv1
  refine (F.customslaw06_SegmentEncode.calls k _ _ l0 sv1 (fun _ => True) Av1 cv1 xv1 n2 true W (Kd.C_of_reads (d := (0 : Int)) (h1 := fun _ => rfl) hr0) hc0 (Kd.V_mk lv1 (fun W' hW' => fv1 W' (fun k hk => hW' k trivial hk))) hk rfl).mono fun e W' ⟨he, bel⟩ => ?_
  subst he
  exact ⟨_, rfl, _, _, _, [], _, [], hW', trodAll_mk1 (shut_bool Try.underlying4 _), (trodAll_cons_mk (Below.trod laidOut (by kernel_rfl) (of_decide_eq_true (by kernel_rfl)) k0 bel lt0) (trodAll_cons_mk (Below.trod laidOut (by kernel_rfl) (of_decide_eq_true (by kernel_rfl)) k1 bel lt1) (trodAll_cons_mk (Below.trod laidOut (by kernel_rfl) (of_decide_eq_true (by kernel_rfl)) k2 bel lt2) trodAll_mk0))), rfl, bel.frame _, fun h => by cases h⟩
theorem over : Rows.segmentEncodeRow.holds Try.pinned (OpenSpec.ofChange Rows.segmentEncodeSpec) :=
  OpenClaim.holds_of_wide 4 Try.f4 rfl rfl rfl rfl rfl rfl rfl ⟨rfl, rfl, rfl, rfl, rfl⟩ rfl rfl rfl rfl rfl (by kernel_rfl) Try.func4 (by kernel_rfl)
    (of_decide_eq_true (by kernel_rfl)) (by unfold Func.isWrapper; first | (rw [if_pos (by decide +kernel)]; kernel_rfl) | (rw [if_neg (by decide +kernel)]; exact ⟨rfl, rfl⟩))
    (fun os started H enc _ => lifted os started H enc)
theorem proved : Rows.SegmentEncodeSaid := over
#print axioms proved
end Go.Proofs.Ythdahpnjiighfaa.segmentEncode
namespace Go.Proofs.Ythdahpnjiighfaa
/-- The row, under a short name, for the claim. -/
theorem segmentEncode_holds : Rows.SegmentEncodeSaid := segmentEncode.proved
end Go.Proofs.Ythdahpnjiighfaa
