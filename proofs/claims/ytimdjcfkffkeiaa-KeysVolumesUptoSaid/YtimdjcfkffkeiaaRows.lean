/-
  No cell of these rows narrows 'for every input' (looked for: loops, veiled, ifaces, maps, wideKeys, modest, calm, conditions, laid).
  DERIVED. THE GIVEN ROWS OF THIS SEAT. 5 by the template 'for every input the law returns true; each argument reads behind the call as it read before'; 0 by the template 'total and deterministic' (their statements: YtimdjcfkffkeiaaTotals.lean).
  GIVEN WITH THE SEED: the statements are not yours to turn. If you find one false, say at which input.
  Laid BY PROGRAM, IN A SANDBOX (cutbox-rows.mjs): the forced cells as the released guide's own fill.sh prints them over the translation 70ddad672d79d40c… (all of the seat's roots in one cut). By AI agents, Wed Nov 11 2026. No macro, syntax, notation, axiom, sorry.
-/
import Derived.Test.YtimdjcfkffkeiaaChecked
import GoSem.Claim
import GoSem.ClaimJoined
import GoSem.ClaimMapViews
import Derived.JoinedTies
import Derived.KernelRfl
namespace Go.Proofs.Ytimdjcfkffkeiaa
/- THE CELL 'sum', in the pinned program and in every row, IS THE sha256 OF THE DUMP (.gsa) THAT YtimdjcfkffkeiaaProg.lean LOADS. Nothing in Lean hashes anything: it is a label: what it is worth is what the hold of that sum in a sandbox is worth. -/
noncomputable def Try.pinned : Pinned := { name := "ytimdjcfkffkeiaa", sum := "70ddad672d79d40ceaf00d85d167a938d611b4d95e4b83a0b9201aa21b45ba26", checked := Try.checked }
namespace Rows
def none {H : Type} : Left H := { results := [], args := [] }

/-- 'countersignlaw04.KeysSteps': WHATEVER THE INPUT: true; the input reads as it did. -/
def keysStepsSpec : ChangeSpec := { name := "keysSteps", fn := fun _ => fun
  | [d1, d2, d3] => { results := [.lit (.bool true)], args := [d1, d2, d3] }
  | _ => none }
def keysStepsRow : OpenClaim := { program := "ytimdjcfkffkeiaa", sum := "70ddad672d79d40ceaf00d85d167a938d611b4d95e4b83a0b9201aa21b45ba26", func := "countersign/countersignlaw04.KeysSteps", spec := "keysSteps", plainKeys := false, apart := false }
def KeysStepsSaid : Prop := keysStepsRow.holds Try.pinned (OpenSpec.ofChange keysStepsSpec)

/-- ITS FALSE NEIGHBOUR: 'it returns false'. Refute it at one input. -/
def keysStepsWrong : ChangeSpec := { name := "keysSteps", fn := fun _ => fun
  | [d1, d2, d3] => { results := [.lit (.bool false)], args := [d1, d2, d3] }
  | _ => none }
def KeysStepsWrongFalsely : Prop := keysStepsRow.holds Try.pinned (OpenSpec.ofChange keysStepsWrong)

/-- 'countersignlaw04.KeysCount': WHATEVER THE INPUT: true; the input reads as it did. -/
def keysCountSpec : ChangeSpec := { name := "keysCount", fn := fun _ => fun
  | [d1, d2, d3] => { results := [.lit (.bool true)], args := [d1, d2, d3] }
  | _ => none }
def keysCountRow : OpenClaim := { program := "ytimdjcfkffkeiaa", sum := "70ddad672d79d40ceaf00d85d167a938d611b4d95e4b83a0b9201aa21b45ba26", func := "countersign/countersignlaw04.KeysCount", spec := "keysCount", plainKeys := false, apart := false }
def KeysCountSaid : Prop := keysCountRow.holds Try.pinned (OpenSpec.ofChange keysCountSpec)

/-- ITS FALSE NEIGHBOUR: 'it returns false'. Refute it at one input. -/
def keysCountWrong : ChangeSpec := { name := "keysCount", fn := fun _ => fun
  | [d1, d2, d3] => { results := [.lit (.bool false)], args := [d1, d2, d3] }
  | _ => none }
def KeysCountWrongFalsely : Prop := keysCountRow.holds Try.pinned (OpenSpec.ofChange keysCountWrong)

/-- 'countersignlaw04.KeysApart': WHATEVER THE INPUT: true; the input reads as it did. -/
def keysApartSpec : ChangeSpec := { name := "keysApart", fn := fun _ => fun
  | [d1, d2, d3] => { results := [.lit (.bool true)], args := [d1, d2, d3] }
  | _ => none }
def keysApartRow : OpenClaim := { program := "ytimdjcfkffkeiaa", sum := "70ddad672d79d40ceaf00d85d167a938d611b4d95e4b83a0b9201aa21b45ba26", func := "countersign/countersignlaw04.KeysApart", spec := "keysApart", plainKeys := false, apart := false }
def KeysApartSaid : Prop := keysApartRow.holds Try.pinned (OpenSpec.ofChange keysApartSpec)

/-- ITS FALSE NEIGHBOUR: 'it returns false'. Refute it at one input. -/
def keysApartWrong : ChangeSpec := { name := "keysApart", fn := fun _ => fun
  | [d1, d2, d3] => { results := [.lit (.bool false)], args := [d1, d2, d3] }
  | _ => none }
def KeysApartWrongFalsely : Prop := keysApartRow.holds Try.pinned (OpenSpec.ofChange keysApartWrong)

/-- 'countersignlaw04.KeysDerive': WHATEVER THE INPUT: true; the input reads as it did. -/
def keysDeriveSpec : ChangeSpec := { name := "keysDerive", fn := fun _ => fun
  | [d1, d2, d3] => { results := [.lit (.bool true)], args := [d1, d2, d3] }
  | _ => none }
def keysDeriveRow : OpenClaim := { program := "ytimdjcfkffkeiaa", sum := "70ddad672d79d40ceaf00d85d167a938d611b4d95e4b83a0b9201aa21b45ba26", func := "countersign/countersignlaw04.KeysDerive", spec := "keysDerive", plainKeys := false, apart := false }
def KeysDeriveSaid : Prop := keysDeriveRow.holds Try.pinned (OpenSpec.ofChange keysDeriveSpec)

/-- ITS FALSE NEIGHBOUR: 'it returns false'. Refute it at one input. -/
def keysDeriveWrong : ChangeSpec := { name := "keysDerive", fn := fun _ => fun
  | [d1, d2, d3] => { results := [.lit (.bool false)], args := [d1, d2, d3] }
  | _ => none }
def KeysDeriveWrongFalsely : Prop := keysDeriveRow.holds Try.pinned (OpenSpec.ofChange keysDeriveWrong)

/-- 'countersignlaw04.KeysVolumes': WHATEVER THE INPUT: true; the input reads as it did. -/
def keysVolumesSpec : ChangeSpec := { name := "keysVolumes", fn := fun _ => fun
  | [d1, d2, d3] => { results := [.lit (.bool true)], args := [d1, d2, d3] }
  | _ => none }
def keysVolumesRow : OpenClaim := { program := "ytimdjcfkffkeiaa", sum := "70ddad672d79d40ceaf00d85d167a938d611b4d95e4b83a0b9201aa21b45ba26", func := "countersign/countersignlaw04.KeysVolumes", spec := "keysVolumes", plainKeys := false, apart := false }
def KeysVolumesSaid : Prop := keysVolumesRow.holds Try.pinned (OpenSpec.ofChange keysVolumesSpec)

/-- ITS FALSE NEIGHBOUR: 'it returns false'. Refute it at one input. -/
def keysVolumesWrong : ChangeSpec := { name := "keysVolumes", fn := fun _ => fun
  | [d1, d2, d3] => { results := [.lit (.bool false)], args := [d1, d2, d3] }
  | _ => none }
def KeysVolumesWrongFalsely : Prop := keysVolumesRow.holds Try.pinned (OpenSpec.ofChange keysVolumesWrong)

/- THE SECOND FORM. 'bulk': how many values and letters a reading holds, each counted each time it is reached (what is shared counts as often as it is met; a slice's spare places count too). A statement '..UptoSaid' is the law's where the arguments, and the package variables that the reading takes, are together of bulk at most 1048576: NARROWER than '..Said'. Prove '..Said' where nothing that the law and all that it calls make is longer than what came in: it says more and counts as full. Else prove '..UptoSaid'. A law counts once. -/
mutual
def uptoBulk {H : Type} : DataW H → Nat
  | .lit (.string bytes) => bytes.length + 1
  | .lit _ => 1
  | .nil => 1
  | .ptr d => uptoBulk d + 1
  | .slice elems spare => uptoBulkAll elems + uptoBulkAll spare + 1
  | .agg parts => uptoBulkAll parts + 1
  | .iface _ d => uptoBulk d + 1
  | .map entries => uptoBulkEntries entries + 1
  | .held _ => 1
def uptoBulkAll {H : Type} : List (DataW H) → Nat
  | [] => 0
  | d :: r => uptoBulk d + uptoBulkAll r
def uptoBulkEntries {H : Type} : List (Lit × DataW H) → Nat
  | [] => 0
  | x :: r => uptoBulkEntry x + uptoBulkEntries r
def uptoBulkEntry {H : Type} : Lit × DataW H → Nat
  | (.string bytes, d) => bytes.length + uptoBulk d + 1
  | (_, d) => uptoBulk d + 1
 end
def uptoSmall : (H : Type) → List (DataW H) → Bool := fun _ ds => decide (uptoBulkAll ds ≤ 1048576)
def OpenSpec.upto (s : _root_.Go.ChangeSpec) : _root_.Go.OpenSpec := { _root_.Go.OpenSpec.ofChange s with cond := some uptoSmall }

/-- 'countersignlaw04.KeysSteps', WHERE WHAT IT READS IS OF BULK AT MOST 1048576: true; the input reads as it did. -/
def keysStepsUptoRow : OpenClaim := { program := "ytimdjcfkffkeiaa", sum := "70ddad672d79d40ceaf00d85d167a938d611b4d95e4b83a0b9201aa21b45ba26", func := "countersign/countersignlaw04.KeysSteps", spec := "keysSteps", plainKeys := false, apart := false, narrowed := true }
def KeysStepsUptoSaid : Prop := keysStepsUptoRow.holds Try.pinned (OpenSpec.upto keysStepsSpec)

/-- 'countersignlaw04.KeysCount', WHERE WHAT IT READS IS OF BULK AT MOST 1048576: true; the input reads as it did. -/
def keysCountUptoRow : OpenClaim := { program := "ytimdjcfkffkeiaa", sum := "70ddad672d79d40ceaf00d85d167a938d611b4d95e4b83a0b9201aa21b45ba26", func := "countersign/countersignlaw04.KeysCount", spec := "keysCount", plainKeys := false, apart := false, narrowed := true }
def KeysCountUptoSaid : Prop := keysCountUptoRow.holds Try.pinned (OpenSpec.upto keysCountSpec)

/-- 'countersignlaw04.KeysApart', WHERE WHAT IT READS IS OF BULK AT MOST 1048576: true; the input reads as it did. -/
def keysApartUptoRow : OpenClaim := { program := "ytimdjcfkffkeiaa", sum := "70ddad672d79d40ceaf00d85d167a938d611b4d95e4b83a0b9201aa21b45ba26", func := "countersign/countersignlaw04.KeysApart", spec := "keysApart", plainKeys := false, apart := false, narrowed := true }
def KeysApartUptoSaid : Prop := keysApartUptoRow.holds Try.pinned (OpenSpec.upto keysApartSpec)

/-- 'countersignlaw04.KeysDerive', WHERE WHAT IT READS IS OF BULK AT MOST 1048576: true; the input reads as it did. -/
def keysDeriveUptoRow : OpenClaim := { program := "ytimdjcfkffkeiaa", sum := "70ddad672d79d40ceaf00d85d167a938d611b4d95e4b83a0b9201aa21b45ba26", func := "countersign/countersignlaw04.KeysDerive", spec := "keysDerive", plainKeys := false, apart := false, narrowed := true }
def KeysDeriveUptoSaid : Prop := keysDeriveUptoRow.holds Try.pinned (OpenSpec.upto keysDeriveSpec)

/-- 'countersignlaw04.KeysVolumes', WHERE WHAT IT READS IS OF BULK AT MOST 1048576: true; the input reads as it did. -/
def keysVolumesUptoRow : OpenClaim := { program := "ytimdjcfkffkeiaa", sum := "70ddad672d79d40ceaf00d85d167a938d611b4d95e4b83a0b9201aa21b45ba26", func := "countersign/countersignlaw04.KeysVolumes", spec := "keysVolumes", plainKeys := false, apart := false, narrowed := true }
def KeysVolumesUptoSaid : Prop := keysVolumesUptoRow.holds Try.pinned (OpenSpec.upto keysVolumesSpec)

end Rows
end Go.Proofs.Ytimdjcfkffkeiaa
