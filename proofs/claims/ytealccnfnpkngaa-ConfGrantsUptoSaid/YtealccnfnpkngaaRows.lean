/-
  No cell of these rows narrows 'for every input' (looked for: loops, veiled, ifaces, maps, wideKeys, modest, calm, conditions, laid).
  DERIVED. THE GIVEN ROWS OF THIS SEAT. 5 by the template 'for every input the law returns true; each argument reads behind the call as it read before'; 0 by the template 'total and deterministic' (their statements: YtealccnfnpkngaaTotals.lean).
  GIVEN WITH THE SEED: the statements are not yours to turn. If you find one false, say at which input.
  Laid BY PROGRAM, IN A SANDBOX (cutbox-rows.mjs): the forced cells as the released guide's own fill.sh prints them over the translation 8847e6ad5e4fd347… (all of the seat's roots in one cut). By AI agents, Wed Nov 11 2026. No macro, syntax, notation, axiom, sorry.
-/
import Derived.Test.YtealccnfnpkngaaChecked
import GoSem.Claim
import GoSem.ClaimJoined
import GoSem.ClaimMapViews
import Derived.JoinedTies
import Derived.KernelRfl
namespace Go.Proofs.Ytealccnfnpkngaa
/- THE CELL 'sum', in the pinned program and in every row, IS THE sha256 OF THE DUMP (.gsa) THAT YtealccnfnpkngaaProg.lean LOADS. Nothing in Lean hashes anything: it is a label: what it is worth is what the hold of that sum in a sandbox is worth. -/
noncomputable def Try.pinned : Pinned := { name := "ytealccnfnpkngaa", sum := "8847e6ad5e4fd3472f1f8cd41378c80e7616d9036afa028c17f7f66e3bc8c9f2", checked := Try.checked }
namespace Rows
def none {H : Type} : Left H := { results := [], args := [] }

/-- 'countersignlaw14.ConfRuns': WHATEVER THE INPUT: true; the input reads as it did. -/
def confRunsSpec : ChangeSpec := { name := "confRuns", fn := fun _ => fun
  | [d1, d2, d3] => { results := [.lit (.bool true)], args := [d1, d2, d3] }
  | _ => none }
def confRunsRow : OpenClaim := { program := "ytealccnfnpkngaa", sum := "8847e6ad5e4fd3472f1f8cd41378c80e7616d9036afa028c17f7f66e3bc8c9f2", func := "countersign/countersignlaw14.ConfRuns", spec := "confRuns", unfollowed := true, recurses := true, plainKeys := false, apart := false }
def ConfRunsSaid : Prop := confRunsRow.holds Try.pinned (OpenSpec.ofChange confRunsSpec)

/-- ITS FALSE NEIGHBOUR: 'it returns false'. Refute it at one input. -/
def confRunsWrong : ChangeSpec := { name := "confRuns", fn := fun _ => fun
  | [d1, d2, d3] => { results := [.lit (.bool false)], args := [d1, d2, d3] }
  | _ => none }
def ConfRunsWrongFalsely : Prop := confRunsRow.holds Try.pinned (OpenSpec.ofChange confRunsWrong)

/-- 'countersignlaw14.ConfBalanced': WHATEVER THE INPUT: true; the input reads as it did. -/
def confBalancedSpec : ChangeSpec := { name := "confBalanced", fn := fun _ => fun
  | [d1, d2] => { results := [.lit (.bool true)], args := [d1, d2] }
  | _ => none }
def confBalancedRow : OpenClaim := { program := "ytealccnfnpkngaa", sum := "8847e6ad5e4fd3472f1f8cd41378c80e7616d9036afa028c17f7f66e3bc8c9f2", func := "countersign/countersignlaw14.ConfBalanced", spec := "confBalanced", unfollowed := true, recurses := true, plainKeys := false, apart := false }
def ConfBalancedSaid : Prop := confBalancedRow.holds Try.pinned (OpenSpec.ofChange confBalancedSpec)

/-- ITS FALSE NEIGHBOUR: 'it returns false'. Refute it at one input. -/
def confBalancedWrong : ChangeSpec := { name := "confBalanced", fn := fun _ => fun
  | [d1, d2] => { results := [.lit (.bool false)], args := [d1, d2] }
  | _ => none }
def ConfBalancedWrongFalsely : Prop := confBalancedRow.holds Try.pinned (OpenSpec.ofChange confBalancedWrong)

/-- 'countersignlaw14.ConfNumbers': WHATEVER THE INPUT: true; the input reads as it did. -/
def confNumbersSpec : ChangeSpec := { name := "confNumbers", fn := fun _ => fun
  | [d] => { results := [.lit (.bool true)], args := [d] }
  | _ => none }
def confNumbersRow : OpenClaim := { program := "ytealccnfnpkngaa", sum := "8847e6ad5e4fd3472f1f8cd41378c80e7616d9036afa028c17f7f66e3bc8c9f2", func := "countersign/countersignlaw14.ConfNumbers", spec := "confNumbers", unfollowed := true, recurses := true, plainKeys := false, apart := false }
def ConfNumbersSaid : Prop := confNumbersRow.holds Try.pinned (OpenSpec.ofChange confNumbersSpec)

/-- ITS FALSE NEIGHBOUR: 'it returns false'. Refute it at one input. -/
def confNumbersWrong : ChangeSpec := { name := "confNumbers", fn := fun _ => fun
  | [d] => { results := [.lit (.bool false)], args := [d] }
  | _ => none }
def ConfNumbersWrongFalsely : Prop := confNumbersRow.holds Try.pinned (OpenSpec.ofChange confNumbersWrong)

/-- 'countersignlaw14.ConfGrants': WHATEVER THE INPUT: true; the input reads as it did. -/
def confGrantsSpec : ChangeSpec := { name := "confGrants", fn := fun _ => fun
  | [d1, d2, d3] => { results := [.lit (.bool true)], args := [d1, d2, d3] }
  | _ => none }
def confGrantsRow : OpenClaim := { program := "ytealccnfnpkngaa", sum := "8847e6ad5e4fd3472f1f8cd41378c80e7616d9036afa028c17f7f66e3bc8c9f2", func := "countersign/countersignlaw14.ConfGrants", spec := "confGrants", unfollowed := true, recurses := true, plainKeys := false, apart := false }
def ConfGrantsSaid : Prop := confGrantsRow.holds Try.pinned (OpenSpec.ofChange confGrantsSpec)

/-- ITS FALSE NEIGHBOUR: 'it returns false'. Refute it at one input. -/
def confGrantsWrong : ChangeSpec := { name := "confGrants", fn := fun _ => fun
  | [d1, d2, d3] => { results := [.lit (.bool false)], args := [d1, d2, d3] }
  | _ => none }
def ConfGrantsWrongFalsely : Prop := confGrantsRow.holds Try.pinned (OpenSpec.ofChange confGrantsWrong)

/-- 'countersignlaw14.ConfTexts': WHATEVER THE INPUT: true; the input reads as it did. -/
def confTextsSpec : ChangeSpec := { name := "confTexts", fn := fun _ => fun
  | [d1, d2, d3] => { results := [.lit (.bool true)], args := [d1, d2, d3] }
  | _ => none }
def confTextsRow : OpenClaim := { program := "ytealccnfnpkngaa", sum := "8847e6ad5e4fd3472f1f8cd41378c80e7616d9036afa028c17f7f66e3bc8c9f2", func := "countersign/countersignlaw14.ConfTexts", spec := "confTexts", inPlace := ["internal/abi.NoEscape"], unfollowed := true, recurses := true, plainKeys := false, apart := false }
def ConfTextsSaid : Prop := confTextsRow.holds Try.pinned (OpenSpec.ofChange confTextsSpec)

/-- ITS FALSE NEIGHBOUR: 'it returns false'. Refute it at one input. -/
def confTextsWrong : ChangeSpec := { name := "confTexts", fn := fun _ => fun
  | [d1, d2, d3] => { results := [.lit (.bool false)], args := [d1, d2, d3] }
  | _ => none }
def ConfTextsWrongFalsely : Prop := confTextsRow.holds Try.pinned (OpenSpec.ofChange confTextsWrong)

/- THE SECOND FORM. 'bulk': how many values and letters a reading holds, each counted each time it is reached (what is shared counts as often as it is met; a slice's spare places count too). A statement '..UptoSaid' is the law's where the arguments, and the package variables that the reading takes, are together of bulk at most 1048576: NARROWER than '..Said'. Prove '..Said' where nothing that the law and all that it calls make is longer than what came in: it says more and counts as full. Else prove '..UptoSaid'. A law counts once. -/
mutual
def uptoBulk {H : Type} : DataW H → Nat
  | .lit (.string bytes) => bytes.length + 1
  | .lit _ => 1
  | .nil => 1
  | .ptr d => uptoBulk d + 1
  | .slice elems spare => uptoBulkAll elems + uptoBulkAll spare + 1
  | .agg parts => uptoBulkAll parts + 1
  | .iface _ d => uptoBulk d + 1
  | .map entries => uptoBulkEntries entries + 1
  | .held _ => 1
def uptoBulkAll {H : Type} : List (DataW H) → Nat
  | [] => 0
  | d :: r => uptoBulk d + uptoBulkAll r
def uptoBulkEntries {H : Type} : List (Lit × DataW H) → Nat
  | [] => 0
  | x :: r => uptoBulkEntry x + uptoBulkEntries r
def uptoBulkEntry {H : Type} : Lit × DataW H → Nat
  | (.string bytes, d) => bytes.length + uptoBulk d + 1
  | (_, d) => uptoBulk d + 1
 end
def uptoSmall : (H : Type) → List (DataW H) → Bool := fun _ ds => decide (uptoBulkAll ds ≤ 1048576)
def OpenSpec.upto (s : _root_.Go.ChangeSpec) : _root_.Go.OpenSpec := { _root_.Go.OpenSpec.ofChange s with cond := some uptoSmall }

/-- 'countersignlaw14.ConfRuns', WHERE WHAT IT READS IS OF BULK AT MOST 1048576: true; the input reads as it did. -/
def confRunsUptoRow : OpenClaim := { program := "ytealccnfnpkngaa", sum := "8847e6ad5e4fd3472f1f8cd41378c80e7616d9036afa028c17f7f66e3bc8c9f2", func := "countersign/countersignlaw14.ConfRuns", spec := "confRuns", unfollowed := true, recurses := true, plainKeys := false, apart := false, narrowed := true }
def ConfRunsUptoSaid : Prop := confRunsUptoRow.holds Try.pinned (OpenSpec.upto confRunsSpec)

/-- 'countersignlaw14.ConfBalanced', WHERE WHAT IT READS IS OF BULK AT MOST 1048576: true; the input reads as it did. -/
def confBalancedUptoRow : OpenClaim := { program := "ytealccnfnpkngaa", sum := "8847e6ad5e4fd3472f1f8cd41378c80e7616d9036afa028c17f7f66e3bc8c9f2", func := "countersign/countersignlaw14.ConfBalanced", spec := "confBalanced", unfollowed := true, recurses := true, plainKeys := false, apart := false, narrowed := true }
def ConfBalancedUptoSaid : Prop := confBalancedUptoRow.holds Try.pinned (OpenSpec.upto confBalancedSpec)

/-- 'countersignlaw14.ConfNumbers', WHERE WHAT IT READS IS OF BULK AT MOST 1048576: true; the input reads as it did. -/
def confNumbersUptoRow : OpenClaim := { program := "ytealccnfnpkngaa", sum := "8847e6ad5e4fd3472f1f8cd41378c80e7616d9036afa028c17f7f66e3bc8c9f2", func := "countersign/countersignlaw14.ConfNumbers", spec := "confNumbers", unfollowed := true, recurses := true, plainKeys := false, apart := false, narrowed := true }
def ConfNumbersUptoSaid : Prop := confNumbersUptoRow.holds Try.pinned (OpenSpec.upto confNumbersSpec)

/-- 'countersignlaw14.ConfGrants', WHERE WHAT IT READS IS OF BULK AT MOST 1048576: true; the input reads as it did. -/
def confGrantsUptoRow : OpenClaim := { program := "ytealccnfnpkngaa", sum := "8847e6ad5e4fd3472f1f8cd41378c80e7616d9036afa028c17f7f66e3bc8c9f2", func := "countersign/countersignlaw14.ConfGrants", spec := "confGrants", unfollowed := true, recurses := true, plainKeys := false, apart := false, narrowed := true }
def ConfGrantsUptoSaid : Prop := confGrantsUptoRow.holds Try.pinned (OpenSpec.upto confGrantsSpec)

/-- 'countersignlaw14.ConfTexts', WHERE WHAT IT READS IS OF BULK AT MOST 1048576: true; the input reads as it did. -/
def confTextsUptoRow : OpenClaim := { program := "ytealccnfnpkngaa", sum := "8847e6ad5e4fd3472f1f8cd41378c80e7616d9036afa028c17f7f66e3bc8c9f2", func := "countersign/countersignlaw14.ConfTexts", spec := "confTexts", inPlace := ["internal/abi.NoEscape"], unfollowed := true, recurses := true, plainKeys := false, apart := false, narrowed := true }
def ConfTextsUptoSaid : Prop := confTextsUptoRow.holds Try.pinned (OpenSpec.upto confTextsSpec)

end Rows
end Go.Proofs.Ytealccnfnpkngaa
