/-
  No cell of these rows narrows 'for every input' (looked for: loops, veiled, ifaces, maps, wideKeys, modest, calm, conditions, laid).
  DERIVED. THE GIVEN ROWS OF THIS SEAT. 5 by the template 'for every input the law returns true; each argument reads behind the call as it read before'; 0 by the template 'total and deterministic' (their statements: YtoljfmghcfdbpaaTotals.lean).
  GIVEN WITH THE SEED: the statements are not yours to turn. If you find one false, say at which input.
  Laid BY PROGRAM, IN A SANDBOX (cutbox-rows.mjs): the forced cells as the released guide's own fill.sh prints them over the translation 0a7fc700f3cb9702… (all of the seat's roots in one cut). By AI agents, Wed Nov 11 2026. No macro, syntax, notation, axiom, sorry.
-/
import Derived.Test.YtoljfmghcfdbpaaChecked
import GoSem.Claim
import GoSem.ClaimJoined
import GoSem.ClaimMapViews
import Derived.JoinedTies
import Derived.KernelRfl
namespace Go.Proofs.Ytoljfmghcfdbpaa
/- THE CELL 'sum', in the pinned program and in every row, IS THE sha256 OF THE DUMP (.gsa) THAT YtoljfmghcfdbpaaProg.lean LOADS. Nothing in Lean hashes anything: it is a label: what it is worth is what the hold of that sum in a sandbox is worth. -/
noncomputable def Try.pinned : Pinned := { name := "ytoljfmghcfdbpaa", sum := "0a7fc700f3cb9702da08cac7bc9f019d83285ff741d44833e21d6e744dcbd423", checked := Try.checked }
namespace Rows
def none {H : Type} : Left H := { results := [], args := [] }

/-- 'countersignlaw07.TokenTexts': WHATEVER THE INPUT: true; the input reads as it did. -/
def tokenTextsSpec : ChangeSpec := { name := "tokenTexts", fn := fun _ => fun
  | [d1, d2] => { results := [.lit (.bool true)], args := [d1, d2] }
  | _ => none }
def tokenTextsRow : OpenClaim := { program := "ytoljfmghcfdbpaa", sum := "0a7fc700f3cb9702da08cac7bc9f019d83285ff741d44833e21d6e744dcbd423", func := "countersign/countersignlaw07.TokenTexts", spec := "tokenTexts", plainKeys := false, apart := false }
def TokenTextsSaid : Prop := tokenTextsRow.holds Try.pinned (OpenSpec.ofChange tokenTextsSpec)

/-- ITS FALSE NEIGHBOUR: 'it returns false'. Refute it at one input. -/
def tokenTextsWrong : ChangeSpec := { name := "tokenTexts", fn := fun _ => fun
  | [d1, d2] => { results := [.lit (.bool false)], args := [d1, d2] }
  | _ => none }
def TokenTextsWrongFalsely : Prop := tokenTextsRow.holds Try.pinned (OpenSpec.ofChange tokenTextsWrong)

/-- 'countersignlaw07.TokenEpochs': WHATEVER THE INPUT: true; the input reads as it did. -/
def tokenEpochsSpec : ChangeSpec := { name := "tokenEpochs", fn := fun _ => fun
  | [d] => { results := [.lit (.bool true)], args := [d] }
  | _ => none }
def tokenEpochsRow : OpenClaim := { program := "ytoljfmghcfdbpaa", sum := "0a7fc700f3cb9702da08cac7bc9f019d83285ff741d44833e21d6e744dcbd423", func := "countersign/countersignlaw07.TokenEpochs", spec := "tokenEpochs", plainKeys := false, apart := false }
def TokenEpochsSaid : Prop := tokenEpochsRow.holds Try.pinned (OpenSpec.ofChange tokenEpochsSpec)

/-- ITS FALSE NEIGHBOUR: 'it returns false'. Refute it at one input. -/
def tokenEpochsWrong : ChangeSpec := { name := "tokenEpochs", fn := fun _ => fun
  | [d] => { results := [.lit (.bool false)], args := [d] }
  | _ => none }
def TokenEpochsWrongFalsely : Prop := tokenEpochsRow.holds Try.pinned (OpenSpec.ofChange tokenEpochsWrong)

/-- 'countersignlaw07.TokenForged': WHATEVER THE INPUT: true; the input reads as it did. -/
def tokenForgedSpec : ChangeSpec := { name := "tokenForged", fn := fun _ => fun
  | [d1, d2] => { results := [.lit (.bool true)], args := [d1, d2] }
  | _ => none }
def tokenForgedRow : OpenClaim := { program := "ytoljfmghcfdbpaa", sum := "0a7fc700f3cb9702da08cac7bc9f019d83285ff741d44833e21d6e744dcbd423", func := "countersign/countersignlaw07.TokenForged", spec := "tokenForged", plainKeys := false, apart := false }
def TokenForgedSaid : Prop := tokenForgedRow.holds Try.pinned (OpenSpec.ofChange tokenForgedSpec)

/-- ITS FALSE NEIGHBOUR: 'it returns false'. Refute it at one input. -/
def tokenForgedWrong : ChangeSpec := { name := "tokenForged", fn := fun _ => fun
  | [d1, d2] => { results := [.lit (.bool false)], args := [d1, d2] }
  | _ => none }
def TokenForgedWrongFalsely : Prop := tokenForgedRow.holds Try.pinned (OpenSpec.ofChange tokenForgedWrong)

/-- 'countersignlaw07.TokenApart': WHATEVER THE INPUT: true; the input reads as it did. -/
def tokenApartSpec : ChangeSpec := { name := "tokenApart", fn := fun _ => fun
  | [d] => { results := [.lit (.bool true)], args := [d] }
  | _ => none }
def tokenApartRow : OpenClaim := { program := "ytoljfmghcfdbpaa", sum := "0a7fc700f3cb9702da08cac7bc9f019d83285ff741d44833e21d6e744dcbd423", func := "countersign/countersignlaw07.TokenApart", spec := "tokenApart", plainKeys := false, apart := false }
def TokenApartSaid : Prop := tokenApartRow.holds Try.pinned (OpenSpec.ofChange tokenApartSpec)

/-- ITS FALSE NEIGHBOUR: 'it returns false'. Refute it at one input. -/
def tokenApartWrong : ChangeSpec := { name := "tokenApart", fn := fun _ => fun
  | [d] => { results := [.lit (.bool false)], args := [d] }
  | _ => none }
def TokenApartWrongFalsely : Prop := tokenApartRow.holds Try.pinned (OpenSpec.ofChange tokenApartWrong)

/-- 'countersignlaw07.TokenChecks': WHATEVER THE INPUT: true; the input reads as it did. -/
def tokenChecksSpec : ChangeSpec := { name := "tokenChecks", fn := fun _ => fun
  | [d1, d2] => { results := [.lit (.bool true)], args := [d1, d2] }
  | _ => none }
def tokenChecksRow : OpenClaim := { program := "ytoljfmghcfdbpaa", sum := "0a7fc700f3cb9702da08cac7bc9f019d83285ff741d44833e21d6e744dcbd423", func := "countersign/countersignlaw07.TokenChecks", spec := "tokenChecks", plainKeys := false, apart := false }
def TokenChecksSaid : Prop := tokenChecksRow.holds Try.pinned (OpenSpec.ofChange tokenChecksSpec)

/-- ITS FALSE NEIGHBOUR: 'it returns false'. Refute it at one input. -/
def tokenChecksWrong : ChangeSpec := { name := "tokenChecks", fn := fun _ => fun
  | [d1, d2] => { results := [.lit (.bool false)], args := [d1, d2] }
  | _ => none }
def TokenChecksWrongFalsely : Prop := tokenChecksRow.holds Try.pinned (OpenSpec.ofChange tokenChecksWrong)

/- THE SECOND FORM. 'bulk': how many values and letters a reading holds, each counted each time it is reached (what is shared counts as often as it is met; a slice's spare places count too). A statement '..UptoSaid' is the law's where the arguments, and the package variables that the reading takes, are together of bulk at most 1048576: NARROWER than '..Said'. Prove '..Said' where nothing that the law and all that it calls make is longer than what came in: it says more and counts as full. Else prove '..UptoSaid'. A law counts once. -/
mutual
def uptoBulk {H : Type} : DataW H → Nat
  | .lit (.string bytes) => bytes.length + 1
  | .lit _ => 1
  | .nil => 1
  | .ptr d => uptoBulk d + 1
  | .slice elems spare => uptoBulkAll elems + uptoBulkAll spare + 1
  | .agg parts => uptoBulkAll parts + 1
  | .iface _ d => uptoBulk d + 1
  | .map entries => uptoBulkEntries entries + 1
  | .held _ => 1
def uptoBulkAll {H : Type} : List (DataW H) → Nat
  | [] => 0
  | d :: r => uptoBulk d + uptoBulkAll r
def uptoBulkEntries {H : Type} : List (Lit × DataW H) → Nat
  | [] => 0
  | x :: r => uptoBulkEntry x + uptoBulkEntries r
def uptoBulkEntry {H : Type} : Lit × DataW H → Nat
  | (.string bytes, d) => bytes.length + uptoBulk d + 1
  | (_, d) => uptoBulk d + 1
 end
def uptoSmall : (H : Type) → List (DataW H) → Bool := fun _ ds => decide (uptoBulkAll ds ≤ 1048576)
def OpenSpec.upto (s : _root_.Go.ChangeSpec) : _root_.Go.OpenSpec := { _root_.Go.OpenSpec.ofChange s with cond := some uptoSmall }

/-- 'countersignlaw07.TokenTexts', WHERE WHAT IT READS IS OF BULK AT MOST 1048576: true; the input reads as it did. -/
def tokenTextsUptoRow : OpenClaim := { program := "ytoljfmghcfdbpaa", sum := "0a7fc700f3cb9702da08cac7bc9f019d83285ff741d44833e21d6e744dcbd423", func := "countersign/countersignlaw07.TokenTexts", spec := "tokenTexts", plainKeys := false, apart := false, narrowed := true }
def TokenTextsUptoSaid : Prop := tokenTextsUptoRow.holds Try.pinned (OpenSpec.upto tokenTextsSpec)

/-- 'countersignlaw07.TokenEpochs', WHERE WHAT IT READS IS OF BULK AT MOST 1048576: true; the input reads as it did. -/
def tokenEpochsUptoRow : OpenClaim := { program := "ytoljfmghcfdbpaa", sum := "0a7fc700f3cb9702da08cac7bc9f019d83285ff741d44833e21d6e744dcbd423", func := "countersign/countersignlaw07.TokenEpochs", spec := "tokenEpochs", plainKeys := false, apart := false, narrowed := true }
def TokenEpochsUptoSaid : Prop := tokenEpochsUptoRow.holds Try.pinned (OpenSpec.upto tokenEpochsSpec)

/-- 'countersignlaw07.TokenForged', WHERE WHAT IT READS IS OF BULK AT MOST 1048576: true; the input reads as it did. -/
def tokenForgedUptoRow : OpenClaim := { program := "ytoljfmghcfdbpaa", sum := "0a7fc700f3cb9702da08cac7bc9f019d83285ff741d44833e21d6e744dcbd423", func := "countersign/countersignlaw07.TokenForged", spec := "tokenForged", plainKeys := false, apart := false, narrowed := true }
def TokenForgedUptoSaid : Prop := tokenForgedUptoRow.holds Try.pinned (OpenSpec.upto tokenForgedSpec)

/-- 'countersignlaw07.TokenApart', WHERE WHAT IT READS IS OF BULK AT MOST 1048576: true; the input reads as it did. -/
def tokenApartUptoRow : OpenClaim := { program := "ytoljfmghcfdbpaa", sum := "0a7fc700f3cb9702da08cac7bc9f019d83285ff741d44833e21d6e744dcbd423", func := "countersign/countersignlaw07.TokenApart", spec := "tokenApart", plainKeys := false, apart := false, narrowed := true }
def TokenApartUptoSaid : Prop := tokenApartUptoRow.holds Try.pinned (OpenSpec.upto tokenApartSpec)

/-- 'countersignlaw07.TokenChecks', WHERE WHAT IT READS IS OF BULK AT MOST 1048576: true; the input reads as it did. -/
def tokenChecksUptoRow : OpenClaim := { program := "ytoljfmghcfdbpaa", sum := "0a7fc700f3cb9702da08cac7bc9f019d83285ff741d44833e21d6e744dcbd423", func := "countersign/countersignlaw07.TokenChecks", spec := "tokenChecks", plainKeys := false, apart := false, narrowed := true }
def TokenChecksUptoSaid : Prop := tokenChecksUptoRow.holds Try.pinned (OpenSpec.upto tokenChecksSpec)

end Rows
end Go.Proofs.Ytoljfmghcfdbpaa
