/-
  No cell of these rows narrows 'for every input' (looked for: loops, veiled, ifaces, maps, wideKeys, modest, calm, conditions, laid).
  DERIVED. THE GIVEN ROWS OF THIS SEAT. 6 by the template 'for every input the law returns true; each argument reads behind the call as it read before'; 0 by the template 'total and deterministic' (their statements: YthdahpnjiighfaaTotals.lean).
  GIVEN WITH THE SEED: the statements are not yours to turn. If you find one false, say at which input.
  Laid BY PROGRAM, IN A SANDBOX (cutbox-rows.mjs): the forced cells as the released guide's own fill.sh prints them over the translation 6f442019bf596f88… (all of the seat's roots in one cut). By AI agents, Wed Nov 11 2026. No macro, syntax, notation, axiom, sorry.
-/
import Derived.Test.YthdahpnjiighfaaChecked
import GoSem.Claim
import GoSem.ClaimJoined
import GoSem.ClaimMapViews
import Derived.JoinedTies
import Derived.KernelRfl
namespace Go.Proofs.Ythdahpnjiighfaa
/- THE CELL 'sum', in the pinned program and in every row, IS THE sha256 OF THE DUMP (.gsa) THAT YthdahpnjiighfaaProg.lean LOADS. Nothing in Lean hashes anything: it is a label: what it is worth is what the hold of that sum in a sandbox is worth. -/
noncomputable def Try.pinned : Pinned := { name := "ythdahpnjiighfaa", sum := "6f442019bf596f88da9288f01625fcd83f2f5307afb63471aa78c4065ffcd299", checked := Try.checked }
namespace Rows
def none {H : Type} : Left H := { results := [], args := [] }

/-- 'customslaw06.SegmentValidate': WHATEVER THE INPUT: true; the input reads as it did. -/
def segmentValidateSpec : ChangeSpec := { name := "segmentValidate", fn := fun _ => fun
  | [d] => { results := [.lit (.bool true)], args := [d] }
  | _ => none }
def segmentValidateRow : OpenClaim := { program := "ythdahpnjiighfaa", sum := "6f442019bf596f88da9288f01625fcd83f2f5307afb63471aa78c4065ffcd299", func := "customs/customslaw06.SegmentValidate", spec := "segmentValidate", inPlace := ["internal/abi.NoEscape"], apart := false }
def SegmentValidateSaid : Prop := segmentValidateRow.holds Try.pinned (OpenSpec.ofChange segmentValidateSpec)

/-- ITS FALSE NEIGHBOUR: 'it returns false'. Refute it at one input. -/
def segmentValidateWrong : ChangeSpec := { name := "segmentValidate", fn := fun _ => fun
  | [d] => { results := [.lit (.bool false)], args := [d] }
  | _ => none }
def SegmentValidateWrongFalsely : Prop := segmentValidateRow.holds Try.pinned (OpenSpec.ofChange segmentValidateWrong)

/-- 'customslaw06.SegmentEncode': WHATEVER THE INPUT: true; the input reads as it did. -/
def segmentEncodeSpec : ChangeSpec := { name := "segmentEncode", fn := fun _ => fun
  | [d1, d2, d3] => { results := [.lit (.bool true)], args := [d1, d2, d3] }
  | _ => none }
def segmentEncodeRow : OpenClaim := { program := "ythdahpnjiighfaa", sum := "6f442019bf596f88da9288f01625fcd83f2f5307afb63471aa78c4065ffcd299", func := "customs/customslaw06.SegmentEncode", spec := "segmentEncode", inPlace := ["internal/abi.NoEscape"], apart := false }
def SegmentEncodeSaid : Prop := segmentEncodeRow.holds Try.pinned (OpenSpec.ofChange segmentEncodeSpec)

/-- ITS FALSE NEIGHBOUR: 'it returns false'. Refute it at one input. -/
def segmentEncodeWrong : ChangeSpec := { name := "segmentEncode", fn := fun _ => fun
  | [d1, d2, d3] => { results := [.lit (.bool false)], args := [d1, d2, d3] }
  | _ => none }
def SegmentEncodeWrongFalsely : Prop := segmentEncodeRow.holds Try.pinned (OpenSpec.ofChange segmentEncodeWrong)

/-- 'customslaw06.SegmentRoundTrip': WHATEVER THE INPUT: true; the input reads as it did. -/
def segmentRoundTripSpec : ChangeSpec := { name := "segmentRoundTrip", fn := fun _ => fun
  | [d] => { results := [.lit (.bool true)], args := [d] }
  | _ => none }
def segmentRoundTripRow : OpenClaim := { program := "ythdahpnjiighfaa", sum := "6f442019bf596f88da9288f01625fcd83f2f5307afb63471aa78c4065ffcd299", func := "customs/customslaw06.SegmentRoundTrip", spec := "segmentRoundTrip", inPlace := ["internal/abi.NoEscape"], apart := false }
def SegmentRoundTripSaid : Prop := segmentRoundTripRow.holds Try.pinned (OpenSpec.ofChange segmentRoundTripSpec)

/-- ITS FALSE NEIGHBOUR: 'it returns false'. Refute it at one input. -/
def segmentRoundTripWrong : ChangeSpec := { name := "segmentRoundTrip", fn := fun _ => fun
  | [d] => { results := [.lit (.bool false)], args := [d] }
  | _ => none }
def SegmentRoundTripWrongFalsely : Prop := segmentRoundTripRow.holds Try.pinned (OpenSpec.ofChange segmentRoundTripWrong)

/-- 'customslaw06.SegmentDecode': WHATEVER THE INPUT: true; the input reads as it did. -/
def segmentDecodeSpec : ChangeSpec := { name := "segmentDecode", fn := fun _ => fun
  | [d] => { results := [.lit (.bool true)], args := [d] }
  | _ => none }
def segmentDecodeRow : OpenClaim := { program := "ythdahpnjiighfaa", sum := "6f442019bf596f88da9288f01625fcd83f2f5307afb63471aa78c4065ffcd299", func := "customs/customslaw06.SegmentDecode", spec := "segmentDecode", inPlace := ["internal/abi.NoEscape"], apart := false }
def SegmentDecodeSaid : Prop := segmentDecodeRow.holds Try.pinned (OpenSpec.ofChange segmentDecodeSpec)

/-- ITS FALSE NEIGHBOUR: 'it returns false'. Refute it at one input. -/
def segmentDecodeWrong : ChangeSpec := { name := "segmentDecode", fn := fun _ => fun
  | [d] => { results := [.lit (.bool false)], args := [d] }
  | _ => none }
def SegmentDecodeWrongFalsely : Prop := segmentDecodeRow.holds Try.pinned (OpenSpec.ofChange segmentDecodeWrong)

/-- 'customslaw06.SegmentChanged': WHATEVER THE INPUT: true; the input reads as it did. -/
def segmentChangedSpec : ChangeSpec := { name := "segmentChanged", fn := fun _ => fun
  | [d1, d2, d3, d4] => { results := [.lit (.bool true)], args := [d1, d2, d3, d4] }
  | _ => none }
def segmentChangedRow : OpenClaim := { program := "ythdahpnjiighfaa", sum := "6f442019bf596f88da9288f01625fcd83f2f5307afb63471aa78c4065ffcd299", func := "customs/customslaw06.SegmentChanged", spec := "segmentChanged", inPlace := ["internal/abi.NoEscape"], apart := false }
def SegmentChangedSaid : Prop := segmentChangedRow.holds Try.pinned (OpenSpec.ofChange segmentChangedSpec)

/-- ITS FALSE NEIGHBOUR: 'it returns false'. Refute it at one input. -/
def segmentChangedWrong : ChangeSpec := { name := "segmentChanged", fn := fun _ => fun
  | [d1, d2, d3, d4] => { results := [.lit (.bool false)], args := [d1, d2, d3, d4] }
  | _ => none }
def SegmentChangedWrongFalsely : Prop := segmentChangedRow.holds Try.pinned (OpenSpec.ofChange segmentChangedWrong)

/-- 'customslaw06.SegmentConcatenation': WHATEVER THE INPUT: true; the input reads as it did. -/
def segmentConcatenationSpec : ChangeSpec := { name := "segmentConcatenation", fn := fun _ => fun
  | [d1, d2, d3] => { results := [.lit (.bool true)], args := [d1, d2, d3] }
  | _ => none }
def segmentConcatenationRow : OpenClaim := { program := "ythdahpnjiighfaa", sum := "6f442019bf596f88da9288f01625fcd83f2f5307afb63471aa78c4065ffcd299", func := "customs/customslaw06.SegmentConcatenation", spec := "segmentConcatenation", inPlace := ["internal/abi.NoEscape"], apart := false }
def SegmentConcatenationSaid : Prop := segmentConcatenationRow.holds Try.pinned (OpenSpec.ofChange segmentConcatenationSpec)

/-- ITS FALSE NEIGHBOUR: 'it returns false'. Refute it at one input. -/
def segmentConcatenationWrong : ChangeSpec := { name := "segmentConcatenation", fn := fun _ => fun
  | [d1, d2, d3] => { results := [.lit (.bool false)], args := [d1, d2, d3] }
  | _ => none }
def SegmentConcatenationWrongFalsely : Prop := segmentConcatenationRow.holds Try.pinned (OpenSpec.ofChange segmentConcatenationWrong)

/- THE SECOND FORM. 'bulk': how many values and letters a reading holds, each counted each time it is reached (what is shared counts as often as it is met; a slice's spare places count too). A statement '..UptoSaid' is the law's where the arguments, and the package variables that the reading takes, are together of bulk at most 1048576: NARROWER than '..Said'. Prove '..Said' where nothing that the law and all that it calls make is longer than what came in: it says more and counts as full. Else prove '..UptoSaid'. A law counts once. -/
mutual
def uptoBulk {H : Type} : DataW H → Nat
  | .lit (.string bytes) => bytes.length + 1
  | .lit _ => 1
  | .nil => 1
  | .ptr d => uptoBulk d + 1
  | .slice elems spare => uptoBulkAll elems + uptoBulkAll spare + 1
  | .agg parts => uptoBulkAll parts + 1
  | .iface _ d => uptoBulk d + 1
  | .map entries => uptoBulkEntries entries + 1
  | .held _ => 1
def uptoBulkAll {H : Type} : List (DataW H) → Nat
  | [] => 0
  | d :: r => uptoBulk d + uptoBulkAll r
def uptoBulkEntries {H : Type} : List (Lit × DataW H) → Nat
  | [] => 0
  | x :: r => uptoBulkEntry x + uptoBulkEntries r
def uptoBulkEntry {H : Type} : Lit × DataW H → Nat
  | (.string bytes, d) => bytes.length + uptoBulk d + 1
  | (_, d) => uptoBulk d + 1
 end
def uptoSmall : (H : Type) → List (DataW H) → Bool := fun _ ds => decide (uptoBulkAll ds ≤ 1048576)
def OpenSpec.upto (s : _root_.Go.ChangeSpec) : _root_.Go.OpenSpec := { _root_.Go.OpenSpec.ofChange s with cond := some uptoSmall }

/-- 'customslaw06.SegmentValidate', WHERE WHAT IT READS IS OF BULK AT MOST 1048576: true; the input reads as it did. -/
def segmentValidateUptoRow : OpenClaim := { program := "ythdahpnjiighfaa", sum := "6f442019bf596f88da9288f01625fcd83f2f5307afb63471aa78c4065ffcd299", func := "customs/customslaw06.SegmentValidate", spec := "segmentValidate", inPlace := ["internal/abi.NoEscape"], apart := false, narrowed := true }
def SegmentValidateUptoSaid : Prop := segmentValidateUptoRow.holds Try.pinned (OpenSpec.upto segmentValidateSpec)

/-- 'customslaw06.SegmentEncode', WHERE WHAT IT READS IS OF BULK AT MOST 1048576: true; the input reads as it did. -/
def segmentEncodeUptoRow : OpenClaim := { program := "ythdahpnjiighfaa", sum := "6f442019bf596f88da9288f01625fcd83f2f5307afb63471aa78c4065ffcd299", func := "customs/customslaw06.SegmentEncode", spec := "segmentEncode", inPlace := ["internal/abi.NoEscape"], apart := false, narrowed := true }
def SegmentEncodeUptoSaid : Prop := segmentEncodeUptoRow.holds Try.pinned (OpenSpec.upto segmentEncodeSpec)

/-- 'customslaw06.SegmentRoundTrip', WHERE WHAT IT READS IS OF BULK AT MOST 1048576: true; the input reads as it did. -/
def segmentRoundTripUptoRow : OpenClaim := { program := "ythdahpnjiighfaa", sum := "6f442019bf596f88da9288f01625fcd83f2f5307afb63471aa78c4065ffcd299", func := "customs/customslaw06.SegmentRoundTrip", spec := "segmentRoundTrip", inPlace := ["internal/abi.NoEscape"], apart := false, narrowed := true }
def SegmentRoundTripUptoSaid : Prop := segmentRoundTripUptoRow.holds Try.pinned (OpenSpec.upto segmentRoundTripSpec)

/-- 'customslaw06.SegmentDecode', WHERE WHAT IT READS IS OF BULK AT MOST 1048576: true; the input reads as it did. -/
def segmentDecodeUptoRow : OpenClaim := { program := "ythdahpnjiighfaa", sum := "6f442019bf596f88da9288f01625fcd83f2f5307afb63471aa78c4065ffcd299", func := "customs/customslaw06.SegmentDecode", spec := "segmentDecode", inPlace := ["internal/abi.NoEscape"], apart := false, narrowed := true }
def SegmentDecodeUptoSaid : Prop := segmentDecodeUptoRow.holds Try.pinned (OpenSpec.upto segmentDecodeSpec)

/-- 'customslaw06.SegmentChanged', WHERE WHAT IT READS IS OF BULK AT MOST 1048576: true; the input reads as it did. -/
def segmentChangedUptoRow : OpenClaim := { program := "ythdahpnjiighfaa", sum := "6f442019bf596f88da9288f01625fcd83f2f5307afb63471aa78c4065ffcd299", func := "customs/customslaw06.SegmentChanged", spec := "segmentChanged", inPlace := ["internal/abi.NoEscape"], apart := false, narrowed := true }
def SegmentChangedUptoSaid : Prop := segmentChangedUptoRow.holds Try.pinned (OpenSpec.upto segmentChangedSpec)

/-- 'customslaw06.SegmentConcatenation', WHERE WHAT IT READS IS OF BULK AT MOST 1048576: true; the input reads as it did. -/
def segmentConcatenationUptoRow : OpenClaim := { program := "ythdahpnjiighfaa", sum := "6f442019bf596f88da9288f01625fcd83f2f5307afb63471aa78c4065ffcd299", func := "customs/customslaw06.SegmentConcatenation", spec := "segmentConcatenation", inPlace := ["internal/abi.NoEscape"], apart := false, narrowed := true }
def SegmentConcatenationUptoSaid : Prop := segmentConcatenationUptoRow.holds Try.pinned (OpenSpec.upto segmentConcatenationSpec)

end Rows
end Go.Proofs.Ythdahpnjiighfaa
