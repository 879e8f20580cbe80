/-
  No cell of these rows narrows 'for every input' (looked for: loops, veiled, ifaces, maps, wideKeys, modest, calm, conditions, laid).
  DERIVED. THE GIVEN ROWS OF THIS SEAT. 6 by the template 'for every input the law returns true; each argument reads behind the call as it read before'; 0 by the template 'total and deterministic' (their statements: YtofeelhaifeenaaTotals.lean).
  GIVEN WITH THE SEED: the statements are not yours to turn. If you find one false, say at which input.
  Laid BY PROGRAM, IN A SANDBOX (cutbox-rows.mjs): the forced cells as the released guide's own fill.sh prints them over the translation ddc25333182a1ffa… (all of the seat's roots in one cut). By AI agents, Wed Nov 11 2026. No macro, syntax, notation, axiom, sorry.
-/
import Derived.Test.YtofeelhaifeenaaChecked
import GoSem.Claim
import GoSem.ClaimJoined
import GoSem.ClaimMapViews
import Derived.JoinedTies
import Derived.KernelRfl
namespace Go.Proofs.Ytofeelhaifeenaa
/- THE CELL 'sum', in the pinned program and in every row, IS THE sha256 OF THE DUMP (.gsa) THAT YtofeelhaifeenaaProg.lean LOADS. Nothing in Lean hashes anything: it is a label: what it is worth is what the hold of that sum in a sandbox is worth. -/
noncomputable def Try.pinned : Pinned := { name := "ytofeelhaifeenaa", sum := "ddc25333182a1ffa70144bf3fc5f1e7b2a13b1302a3fc9302bfb4549524024f5", checked := Try.checked }
namespace Rows
def none {H : Type} : Left H := { results := [], args := [] }

/-- 'countersignlaw03.IdealPlays': WHATEVER THE INPUT: true; the input reads as it did. -/
def idealPlaysSpec : ChangeSpec := { name := "idealPlays", fn := fun _ => fun
  | [d1, d2] => { results := [.lit (.bool true)], args := [d1, d2] }
  | _ => none }
def idealPlaysRow : OpenClaim := { program := "ytofeelhaifeenaa", sum := "ddc25333182a1ffa70144bf3fc5f1e7b2a13b1302a3fc9302bfb4549524024f5", func := "countersign/countersignlaw03.IdealPlays", spec := "idealPlays", plainKeys := false, apart := false }
def IdealPlaysSaid : Prop := idealPlaysRow.holds Try.pinned (OpenSpec.ofChange idealPlaysSpec)

/-- ITS FALSE NEIGHBOUR: 'it returns false'. Refute it at one input. -/
def idealPlaysWrong : ChangeSpec := { name := "idealPlays", fn := fun _ => fun
  | [d1, d2] => { results := [.lit (.bool false)], args := [d1, d2] }
  | _ => none }
def IdealPlaysWrongFalsely : Prop := idealPlaysRow.holds Try.pinned (OpenSpec.ofChange idealPlaysWrong)

/-- 'countersignlaw03.IdealApart': WHATEVER THE INPUT: true; the input reads as it did. -/
def idealApartSpec : ChangeSpec := { name := "idealApart", fn := fun _ => fun
  | [d1, d2, d3] => { results := [.lit (.bool true)], args := [d1, d2, d3] }
  | _ => none }
def idealApartRow : OpenClaim := { program := "ytofeelhaifeenaa", sum := "ddc25333182a1ffa70144bf3fc5f1e7b2a13b1302a3fc9302bfb4549524024f5", func := "countersign/countersignlaw03.IdealApart", spec := "idealApart", plainKeys := false, apart := false }
def IdealApartSaid : Prop := idealApartRow.holds Try.pinned (OpenSpec.ofChange idealApartSpec)

/-- ITS FALSE NEIGHBOUR: 'it returns false'. Refute it at one input. -/
def idealApartWrong : ChangeSpec := { name := "idealApart", fn := fun _ => fun
  | [d1, d2, d3] => { results := [.lit (.bool false)], args := [d1, d2, d3] }
  | _ => none }
def IdealApartWrongFalsely : Prop := idealApartRow.holds Try.pinned (OpenSpec.ofChange idealApartWrong)

/-- 'countersignlaw03.IdealOpens': WHATEVER THE INPUT: true; the input reads as it did. -/
def idealOpensSpec : ChangeSpec := { name := "idealOpens", fn := fun _ => fun
  | [d1, d2, d3] => { results := [.lit (.bool true)], args := [d1, d2, d3] }
  | _ => none }
def idealOpensRow : OpenClaim := { program := "ytofeelhaifeenaa", sum := "ddc25333182a1ffa70144bf3fc5f1e7b2a13b1302a3fc9302bfb4549524024f5", func := "countersign/countersignlaw03.IdealOpens", spec := "idealOpens", plainKeys := false, apart := false }
def IdealOpensSaid : Prop := idealOpensRow.holds Try.pinned (OpenSpec.ofChange idealOpensSpec)

/-- ITS FALSE NEIGHBOUR: 'it returns false'. Refute it at one input. -/
def idealOpensWrong : ChangeSpec := { name := "idealOpens", fn := fun _ => fun
  | [d1, d2, d3] => { results := [.lit (.bool false)], args := [d1, d2, d3] }
  | _ => none }
def IdealOpensWrongFalsely : Prop := idealOpensRow.holds Try.pinned (OpenSpec.ofChange idealOpensWrong)

/-- 'countersignlaw03.IdealAgain': WHATEVER THE INPUT: true; the input reads as it did. -/
def idealAgainSpec : ChangeSpec := { name := "idealAgain", fn := fun _ => fun
  | [d1, d2, d3] => { results := [.lit (.bool true)], args := [d1, d2, d3] }
  | _ => none }
def idealAgainRow : OpenClaim := { program := "ytofeelhaifeenaa", sum := "ddc25333182a1ffa70144bf3fc5f1e7b2a13b1302a3fc9302bfb4549524024f5", func := "countersign/countersignlaw03.IdealAgain", spec := "idealAgain", plainKeys := false, apart := false }
def IdealAgainSaid : Prop := idealAgainRow.holds Try.pinned (OpenSpec.ofChange idealAgainSpec)

/-- ITS FALSE NEIGHBOUR: 'it returns false'. Refute it at one input. -/
def idealAgainWrong : ChangeSpec := { name := "idealAgain", fn := fun _ => fun
  | [d1, d2, d3] => { results := [.lit (.bool false)], args := [d1, d2, d3] }
  | _ => none }
def IdealAgainWrongFalsely : Prop := idealAgainRow.holds Try.pinned (OpenSpec.ofChange idealAgainWrong)

/-- 'countersignlaw03.IdealShown': WHATEVER THE INPUT: true; the input reads as it did. -/
def idealShownSpec : ChangeSpec := { name := "idealShown", fn := fun _ => fun
  | [d1, d2, d3] => { results := [.lit (.bool true)], args := [d1, d2, d3] }
  | _ => none }
def idealShownRow : OpenClaim := { program := "ytofeelhaifeenaa", sum := "ddc25333182a1ffa70144bf3fc5f1e7b2a13b1302a3fc9302bfb4549524024f5", func := "countersign/countersignlaw03.IdealShown", spec := "idealShown", plainKeys := false, apart := false }
def IdealShownSaid : Prop := idealShownRow.holds Try.pinned (OpenSpec.ofChange idealShownSpec)

/-- ITS FALSE NEIGHBOUR: 'it returns false'. Refute it at one input. -/
def idealShownWrong : ChangeSpec := { name := "idealShown", fn := fun _ => fun
  | [d1, d2, d3] => { results := [.lit (.bool false)], args := [d1, d2, d3] }
  | _ => none }
def IdealShownWrongFalsely : Prop := idealShownRow.holds Try.pinned (OpenSpec.ofChange idealShownWrong)

/-- 'countersignlaw03.IdealDraws': WHATEVER THE INPUT: true; the input reads as it did. -/
def idealDrawsSpec : ChangeSpec := { name := "idealDraws", fn := fun _ => fun
  | [d1, d2, d3] => { results := [.lit (.bool true)], args := [d1, d2, d3] }
  | _ => none }
def idealDrawsRow : OpenClaim := { program := "ytofeelhaifeenaa", sum := "ddc25333182a1ffa70144bf3fc5f1e7b2a13b1302a3fc9302bfb4549524024f5", func := "countersign/countersignlaw03.IdealDraws", spec := "idealDraws", plainKeys := false, apart := false }
def IdealDrawsSaid : Prop := idealDrawsRow.holds Try.pinned (OpenSpec.ofChange idealDrawsSpec)

/-- ITS FALSE NEIGHBOUR: 'it returns false'. Refute it at one input. -/
def idealDrawsWrong : ChangeSpec := { name := "idealDraws", fn := fun _ => fun
  | [d1, d2, d3] => { results := [.lit (.bool false)], args := [d1, d2, d3] }
  | _ => none }
def IdealDrawsWrongFalsely : Prop := idealDrawsRow.holds Try.pinned (OpenSpec.ofChange idealDrawsWrong)

/- THE SECOND FORM. 'bulk': how many values and letters a reading holds, each counted each time it is reached (what is shared counts as often as it is met; a slice's spare places count too). A statement '..UptoSaid' is the law's where the arguments, and the package variables that the reading takes, are together of bulk at most 1048576: NARROWER than '..Said'. Prove '..Said' where nothing that the law and all that it calls make is longer than what came in: it says more and counts as full. Else prove '..UptoSaid'. A law counts once. -/
mutual
def uptoBulk {H : Type} : DataW H → Nat
  | .lit (.string bytes) => bytes.length + 1
  | .lit _ => 1
  | .nil => 1
  | .ptr d => uptoBulk d + 1
  | .slice elems spare => uptoBulkAll elems + uptoBulkAll spare + 1
  | .agg parts => uptoBulkAll parts + 1
  | .iface _ d => uptoBulk d + 1
  | .map entries => uptoBulkEntries entries + 1
  | .held _ => 1
def uptoBulkAll {H : Type} : List (DataW H) → Nat
  | [] => 0
  | d :: r => uptoBulk d + uptoBulkAll r
def uptoBulkEntries {H : Type} : List (Lit × DataW H) → Nat
  | [] => 0
  | x :: r => uptoBulkEntry x + uptoBulkEntries r
def uptoBulkEntry {H : Type} : Lit × DataW H → Nat
  | (.string bytes, d) => bytes.length + uptoBulk d + 1
  | (_, d) => uptoBulk d + 1
 end
def uptoSmall : (H : Type) → List (DataW H) → Bool := fun _ ds => decide (uptoBulkAll ds ≤ 1048576)
def OpenSpec.upto (s : _root_.Go.ChangeSpec) : _root_.Go.OpenSpec := { _root_.Go.OpenSpec.ofChange s with cond := some uptoSmall }

/-- 'countersignlaw03.IdealPlays', WHERE WHAT IT READS IS OF BULK AT MOST 1048576: true; the input reads as it did. -/
def idealPlaysUptoRow : OpenClaim := { program := "ytofeelhaifeenaa", sum := "ddc25333182a1ffa70144bf3fc5f1e7b2a13b1302a3fc9302bfb4549524024f5", func := "countersign/countersignlaw03.IdealPlays", spec := "idealPlays", plainKeys := false, apart := false, narrowed := true }
def IdealPlaysUptoSaid : Prop := idealPlaysUptoRow.holds Try.pinned (OpenSpec.upto idealPlaysSpec)

/-- 'countersignlaw03.IdealApart', WHERE WHAT IT READS IS OF BULK AT MOST 1048576: true; the input reads as it did. -/
def idealApartUptoRow : OpenClaim := { program := "ytofeelhaifeenaa", sum := "ddc25333182a1ffa70144bf3fc5f1e7b2a13b1302a3fc9302bfb4549524024f5", func := "countersign/countersignlaw03.IdealApart", spec := "idealApart", plainKeys := false, apart := false, narrowed := true }
def IdealApartUptoSaid : Prop := idealApartUptoRow.holds Try.pinned (OpenSpec.upto idealApartSpec)

/-- 'countersignlaw03.IdealOpens', WHERE WHAT IT READS IS OF BULK AT MOST 1048576: true; the input reads as it did. -/
def idealOpensUptoRow : OpenClaim := { program := "ytofeelhaifeenaa", sum := "ddc25333182a1ffa70144bf3fc5f1e7b2a13b1302a3fc9302bfb4549524024f5", func := "countersign/countersignlaw03.IdealOpens", spec := "idealOpens", plainKeys := false, apart := false, narrowed := true }
def IdealOpensUptoSaid : Prop := idealOpensUptoRow.holds Try.pinned (OpenSpec.upto idealOpensSpec)

/-- 'countersignlaw03.IdealAgain', WHERE WHAT IT READS IS OF BULK AT MOST 1048576: true; the input reads as it did. -/
def idealAgainUptoRow : OpenClaim := { program := "ytofeelhaifeenaa", sum := "ddc25333182a1ffa70144bf3fc5f1e7b2a13b1302a3fc9302bfb4549524024f5", func := "countersign/countersignlaw03.IdealAgain", spec := "idealAgain", plainKeys := false, apart := false, narrowed := true }
def IdealAgainUptoSaid : Prop := idealAgainUptoRow.holds Try.pinned (OpenSpec.upto idealAgainSpec)

/-- 'countersignlaw03.IdealShown', WHERE WHAT IT READS IS OF BULK AT MOST 1048576: true; the input reads as it did. -/
def idealShownUptoRow : OpenClaim := { program := "ytofeelhaifeenaa", sum := "ddc25333182a1ffa70144bf3fc5f1e7b2a13b1302a3fc9302bfb4549524024f5", func := "countersign/countersignlaw03.IdealShown", spec := "idealShown", plainKeys := false, apart := false, narrowed := true }
def IdealShownUptoSaid : Prop := idealShownUptoRow.holds Try.pinned (OpenSpec.upto idealShownSpec)

/-- 'countersignlaw03.IdealDraws', WHERE WHAT IT READS IS OF BULK AT MOST 1048576: true; the input reads as it did. -/
def idealDrawsUptoRow : OpenClaim := { program := "ytofeelhaifeenaa", sum := "ddc25333182a1ffa70144bf3fc5f1e7b2a13b1302a3fc9302bfb4549524024f5", func := "countersign/countersignlaw03.IdealDraws", spec := "idealDraws", plainKeys := false, apart := false, narrowed := true }
def IdealDrawsUptoSaid : Prop := idealDrawsUptoRow.holds Try.pinned (OpenSpec.upto idealDrawsSpec)

end Rows
end Go.Proofs.Ytofeelhaifeenaa
