/-
  No cell of these rows narrows 'for every input' (looked for: loops, veiled, ifaces, maps, wideKeys, modest, calm, conditions, laid).
  DERIVED. THE GIVEN ROWS OF THIS SEAT. 7 by the template 'for every input the law returns true; each argument reads behind the call as it read before'; 0 by the template 'total and deterministic' (their statements: YtkjlbmdcaehgiaaTotals.lean).
  GIVEN WITH THE SEED: the statements are not yours to turn. If you find one false, say at which input.
  Laid BY PROGRAM, IN A SANDBOX (cutbox-rows.mjs): the forced cells as the released guide's own fill.sh prints them over the translation f6375204e4ee61e8… (all of the seat's roots in one cut). By AI agents, Wed Nov 11 2026. No macro, syntax, notation, axiom, sorry.
-/
import Derived.Test.YtkjlbmdcaehgiaaChecked
import GoSem.Claim
import GoSem.ClaimJoined
import GoSem.ClaimMapViews
import Derived.JoinedTies
import Derived.KernelRfl
namespace Go.Proofs.Ytkjlbmdcaehgiaa
/- THE CELL 'sum', in the pinned program and in every row, IS THE sha256 OF THE DUMP (.gsa) THAT YtkjlbmdcaehgiaaProg.lean LOADS. Nothing in Lean hashes anything: it is a label: what it is worth is what the hold of that sum in a sandbox is worth. -/
noncomputable def Try.pinned : Pinned := { name := "ytkjlbmdcaehgiaa", sum := "f6375204e4ee61e8b3b9a9beb8f9cf29d8ffc5aff14b5b0387363c962d6d2b8b", checked := Try.checked }
namespace Rows
def none {H : Type} : Left H := { results := [], args := [] }

/-- 'countersignlaw01.WirePuts': WHATEVER THE INPUT: true; the input reads as it did. -/
def wirePutsSpec : ChangeSpec := { name := "wirePuts", fn := fun _ => fun
  | [d1, d2, d3] => { results := [.lit (.bool true)], args := [d1, d2, d3] }
  | _ => none }
def wirePutsRow : OpenClaim := { program := "ytkjlbmdcaehgiaa", sum := "f6375204e4ee61e8b3b9a9beb8f9cf29d8ffc5aff14b5b0387363c962d6d2b8b", func := "countersign/countersignlaw01.WirePuts", spec := "wirePuts", inPlace := ["internal/abi.NoEscape"], apart := false }
def WirePutsSaid : Prop := wirePutsRow.holds Try.pinned (OpenSpec.ofChange wirePutsSpec)

/-- ITS FALSE NEIGHBOUR: 'it returns false'. Refute it at one input. -/
def wirePutsWrong : ChangeSpec := { name := "wirePuts", fn := fun _ => fun
  | [d1, d2, d3] => { results := [.lit (.bool false)], args := [d1, d2, d3] }
  | _ => none }
def WirePutsWrongFalsely : Prop := wirePutsRow.holds Try.pinned (OpenSpec.ofChange wirePutsWrong)

/-- 'countersignlaw01.WireLengths': WHATEVER THE INPUT: true; the input reads as it did. -/
def wireLengthsSpec : ChangeSpec := { name := "wireLengths", fn := fun _ => fun
  | [d1, d2] => { results := [.lit (.bool true)], args := [d1, d2] }
  | _ => none }
def wireLengthsRow : OpenClaim := { program := "ytkjlbmdcaehgiaa", sum := "f6375204e4ee61e8b3b9a9beb8f9cf29d8ffc5aff14b5b0387363c962d6d2b8b", func := "countersign/countersignlaw01.WireLengths", spec := "wireLengths", inPlace := ["internal/abi.NoEscape"], apart := false }
def WireLengthsSaid : Prop := wireLengthsRow.holds Try.pinned (OpenSpec.ofChange wireLengthsSpec)

/-- ITS FALSE NEIGHBOUR: 'it returns false'. Refute it at one input. -/
def wireLengthsWrong : ChangeSpec := { name := "wireLengths", fn := fun _ => fun
  | [d1, d2] => { results := [.lit (.bool false)], args := [d1, d2] }
  | _ => none }
def WireLengthsWrongFalsely : Prop := wireLengthsRow.holds Try.pinned (OpenSpec.ofChange wireLengthsWrong)

/-- 'countersignlaw01.WireApart': WHATEVER THE INPUT: true; the input reads as it did. -/
def wireApartSpec : ChangeSpec := { name := "wireApart", fn := fun _ => fun
  | [d1, d2, d3] => { results := [.lit (.bool true)], args := [d1, d2, d3] }
  | _ => none }
def wireApartRow : OpenClaim := { program := "ytkjlbmdcaehgiaa", sum := "f6375204e4ee61e8b3b9a9beb8f9cf29d8ffc5aff14b5b0387363c962d6d2b8b", func := "countersign/countersignlaw01.WireApart", spec := "wireApart", inPlace := ["internal/abi.NoEscape"], apart := false }
def WireApartSaid : Prop := wireApartRow.holds Try.pinned (OpenSpec.ofChange wireApartSpec)

/-- ITS FALSE NEIGHBOUR: 'it returns false'. Refute it at one input. -/
def wireApartWrong : ChangeSpec := { name := "wireApart", fn := fun _ => fun
  | [d1, d2, d3] => { results := [.lit (.bool false)], args := [d1, d2, d3] }
  | _ => none }
def WireApartWrongFalsely : Prop := wireApartRow.holds Try.pinned (OpenSpec.ofChange wireApartWrong)

/-- 'countersignlaw01.WireJoins': WHATEVER THE INPUT: true; the input reads as it did. -/
def wireJoinsSpec : ChangeSpec := { name := "wireJoins", fn := fun _ => fun
  | [d1, d2] => { results := [.lit (.bool true)], args := [d1, d2] }
  | _ => none }
def wireJoinsRow : OpenClaim := { program := "ytkjlbmdcaehgiaa", sum := "f6375204e4ee61e8b3b9a9beb8f9cf29d8ffc5aff14b5b0387363c962d6d2b8b", func := "countersign/countersignlaw01.WireJoins", spec := "wireJoins", inPlace := ["internal/abi.NoEscape"], apart := false }
def WireJoinsSaid : Prop := wireJoinsRow.holds Try.pinned (OpenSpec.ofChange wireJoinsSpec)

/-- ITS FALSE NEIGHBOUR: 'it returns false'. Refute it at one input. -/
def wireJoinsWrong : ChangeSpec := { name := "wireJoins", fn := fun _ => fun
  | [d1, d2] => { results := [.lit (.bool false)], args := [d1, d2] }
  | _ => none }
def WireJoinsWrongFalsely : Prop := wireJoinsRow.holds Try.pinned (OpenSpec.ofChange wireJoinsWrong)

/-- 'countersignlaw01.WireTakes': WHATEVER THE INPUT: true; the input reads as it did. -/
def wireTakesSpec : ChangeSpec := { name := "wireTakes", fn := fun _ => fun
  | [d1, d2] => { results := [.lit (.bool true)], args := [d1, d2] }
  | _ => none }
def wireTakesRow : OpenClaim := { program := "ytkjlbmdcaehgiaa", sum := "f6375204e4ee61e8b3b9a9beb8f9cf29d8ffc5aff14b5b0387363c962d6d2b8b", func := "countersign/countersignlaw01.WireTakes", spec := "wireTakes", inPlace := ["internal/abi.NoEscape"], apart := false }
def WireTakesSaid : Prop := wireTakesRow.holds Try.pinned (OpenSpec.ofChange wireTakesSpec)

/-- ITS FALSE NEIGHBOUR: 'it returns false'. Refute it at one input. -/
def wireTakesWrong : ChangeSpec := { name := "wireTakes", fn := fun _ => fun
  | [d1, d2] => { results := [.lit (.bool false)], args := [d1, d2] }
  | _ => none }
def WireTakesWrongFalsely : Prop := wireTakesRow.holds Try.pinned (OpenSpec.ofChange wireTakesWrong)

/-- 'countersignlaw01.WireBack': WHATEVER THE INPUT: true; the input reads as it did. -/
def wireBackSpec : ChangeSpec := { name := "wireBack", fn := fun _ => fun
  | [d1, d2] => { results := [.lit (.bool true)], args := [d1, d2] }
  | _ => none }
def wireBackRow : OpenClaim := { program := "ytkjlbmdcaehgiaa", sum := "f6375204e4ee61e8b3b9a9beb8f9cf29d8ffc5aff14b5b0387363c962d6d2b8b", func := "countersign/countersignlaw01.WireBack", spec := "wireBack", inPlace := ["internal/abi.NoEscape"], apart := false }
def WireBackSaid : Prop := wireBackRow.holds Try.pinned (OpenSpec.ofChange wireBackSpec)

/-- ITS FALSE NEIGHBOUR: 'it returns false'. Refute it at one input. -/
def wireBackWrong : ChangeSpec := { name := "wireBack", fn := fun _ => fun
  | [d1, d2] => { results := [.lit (.bool false)], args := [d1, d2] }
  | _ => none }
def WireBackWrongFalsely : Prop := wireBackRow.holds Try.pinned (OpenSpec.ofChange wireBackWrong)

/-- 'countersignlaw01.WireOnce': WHATEVER THE INPUT: true; the input reads as it did. -/
def wireOnceSpec : ChangeSpec := { name := "wireOnce", fn := fun _ => fun
  | [d1, d2] => { results := [.lit (.bool true)], args := [d1, d2] }
  | _ => none }
def wireOnceRow : OpenClaim := { program := "ytkjlbmdcaehgiaa", sum := "f6375204e4ee61e8b3b9a9beb8f9cf29d8ffc5aff14b5b0387363c962d6d2b8b", func := "countersign/countersignlaw01.WireOnce", spec := "wireOnce", inPlace := ["internal/abi.NoEscape"], apart := false }
def WireOnceSaid : Prop := wireOnceRow.holds Try.pinned (OpenSpec.ofChange wireOnceSpec)

/-- ITS FALSE NEIGHBOUR: 'it returns false'. Refute it at one input. -/
def wireOnceWrong : ChangeSpec := { name := "wireOnce", fn := fun _ => fun
  | [d1, d2] => { results := [.lit (.bool false)], args := [d1, d2] }
  | _ => none }
def WireOnceWrongFalsely : Prop := wireOnceRow.holds Try.pinned (OpenSpec.ofChange wireOnceWrong)

/- THE SECOND FORM. 'bulk': how many values and letters a reading holds, each counted each time it is reached (what is shared counts as often as it is met; a slice's spare places count too). A statement '..UptoSaid' is the law's where the arguments, and the package variables that the reading takes, are together of bulk at most 1048576: NARROWER than '..Said'. Prove '..Said' where nothing that the law and all that it calls make is longer than what came in: it says more and counts as full. Else prove '..UptoSaid'. A law counts once. -/
mutual
def uptoBulk {H : Type} : DataW H → Nat
  | .lit (.string bytes) => bytes.length + 1
  | .lit _ => 1
  | .nil => 1
  | .ptr d => uptoBulk d + 1
  | .slice elems spare => uptoBulkAll elems + uptoBulkAll spare + 1
  | .agg parts => uptoBulkAll parts + 1
  | .iface _ d => uptoBulk d + 1
  | .map entries => uptoBulkEntries entries + 1
  | .held _ => 1
def uptoBulkAll {H : Type} : List (DataW H) → Nat
  | [] => 0
  | d :: r => uptoBulk d + uptoBulkAll r
def uptoBulkEntries {H : Type} : List (Lit × DataW H) → Nat
  | [] => 0
  | x :: r => uptoBulkEntry x + uptoBulkEntries r
def uptoBulkEntry {H : Type} : Lit × DataW H → Nat
  | (.string bytes, d) => bytes.length + uptoBulk d + 1
  | (_, d) => uptoBulk d + 1
 end
def uptoSmall : (H : Type) → List (DataW H) → Bool := fun _ ds => decide (uptoBulkAll ds ≤ 1048576)
def OpenSpec.upto (s : _root_.Go.ChangeSpec) : _root_.Go.OpenSpec := { _root_.Go.OpenSpec.ofChange s with cond := some uptoSmall }

/-- 'countersignlaw01.WirePuts', WHERE WHAT IT READS IS OF BULK AT MOST 1048576: true; the input reads as it did. -/
def wirePutsUptoRow : OpenClaim := { program := "ytkjlbmdcaehgiaa", sum := "f6375204e4ee61e8b3b9a9beb8f9cf29d8ffc5aff14b5b0387363c962d6d2b8b", func := "countersign/countersignlaw01.WirePuts", spec := "wirePuts", inPlace := ["internal/abi.NoEscape"], apart := false, narrowed := true }
def WirePutsUptoSaid : Prop := wirePutsUptoRow.holds Try.pinned (OpenSpec.upto wirePutsSpec)

/-- 'countersignlaw01.WireLengths', WHERE WHAT IT READS IS OF BULK AT MOST 1048576: true; the input reads as it did. -/
def wireLengthsUptoRow : OpenClaim := { program := "ytkjlbmdcaehgiaa", sum := "f6375204e4ee61e8b3b9a9beb8f9cf29d8ffc5aff14b5b0387363c962d6d2b8b", func := "countersign/countersignlaw01.WireLengths", spec := "wireLengths", inPlace := ["internal/abi.NoEscape"], apart := false, narrowed := true }
def WireLengthsUptoSaid : Prop := wireLengthsUptoRow.holds Try.pinned (OpenSpec.upto wireLengthsSpec)

/-- 'countersignlaw01.WireApart', WHERE WHAT IT READS IS OF BULK AT MOST 1048576: true; the input reads as it did. -/
def wireApartUptoRow : OpenClaim := { program := "ytkjlbmdcaehgiaa", sum := "f6375204e4ee61e8b3b9a9beb8f9cf29d8ffc5aff14b5b0387363c962d6d2b8b", func := "countersign/countersignlaw01.WireApart", spec := "wireApart", inPlace := ["internal/abi.NoEscape"], apart := false, narrowed := true }
def WireApartUptoSaid : Prop := wireApartUptoRow.holds Try.pinned (OpenSpec.upto wireApartSpec)

/-- 'countersignlaw01.WireJoins', WHERE WHAT IT READS IS OF BULK AT MOST 1048576: true; the input reads as it did. -/
def wireJoinsUptoRow : OpenClaim := { program := "ytkjlbmdcaehgiaa", sum := "f6375204e4ee61e8b3b9a9beb8f9cf29d8ffc5aff14b5b0387363c962d6d2b8b", func := "countersign/countersignlaw01.WireJoins", spec := "wireJoins", inPlace := ["internal/abi.NoEscape"], apart := false, narrowed := true }
def WireJoinsUptoSaid : Prop := wireJoinsUptoRow.holds Try.pinned (OpenSpec.upto wireJoinsSpec)

/-- 'countersignlaw01.WireTakes', WHERE WHAT IT READS IS OF BULK AT MOST 1048576: true; the input reads as it did. -/
def wireTakesUptoRow : OpenClaim := { program := "ytkjlbmdcaehgiaa", sum := "f6375204e4ee61e8b3b9a9beb8f9cf29d8ffc5aff14b5b0387363c962d6d2b8b", func := "countersign/countersignlaw01.WireTakes", spec := "wireTakes", inPlace := ["internal/abi.NoEscape"], apart := false, narrowed := true }
def WireTakesUptoSaid : Prop := wireTakesUptoRow.holds Try.pinned (OpenSpec.upto wireTakesSpec)

/-- 'countersignlaw01.WireBack', WHERE WHAT IT READS IS OF BULK AT MOST 1048576: true; the input reads as it did. -/
def wireBackUptoRow : OpenClaim := { program := "ytkjlbmdcaehgiaa", sum := "f6375204e4ee61e8b3b9a9beb8f9cf29d8ffc5aff14b5b0387363c962d6d2b8b", func := "countersign/countersignlaw01.WireBack", spec := "wireBack", inPlace := ["internal/abi.NoEscape"], apart := false, narrowed := true }
def WireBackUptoSaid : Prop := wireBackUptoRow.holds Try.pinned (OpenSpec.upto wireBackSpec)

/-- 'countersignlaw01.WireOnce', WHERE WHAT IT READS IS OF BULK AT MOST 1048576: true; the input reads as it did. -/
def wireOnceUptoRow : OpenClaim := { program := "ytkjlbmdcaehgiaa", sum := "f6375204e4ee61e8b3b9a9beb8f9cf29d8ffc5aff14b5b0387363c962d6d2b8b", func := "countersign/countersignlaw01.WireOnce", spec := "wireOnce", inPlace := ["internal/abi.NoEscape"], apart := false, narrowed := true }
def WireOnceUptoSaid : Prop := wireOnceUptoRow.holds Try.pinned (OpenSpec.upto wireOnceSpec)

end Rows
end Go.Proofs.Ytkjlbmdcaehgiaa
