/-
  No cell of these rows narrows 'for every input' (looked for: loops, veiled, ifaces, maps, wideKeys, modest, calm, conditions, laid).
  DERIVED. THE GIVEN ROWS OF THIS SEAT. 5 by the template 'for every input the law returns true; each argument reads behind the call as it read before'; 0 by the template 'total and deterministic' (their statements: YtbnljfnmojendaaTotals.lean).
  GIVEN WITH THE SEED: the statements are not yours to turn. If you find one false, say at which input.
  Laid BY PROGRAM, IN A SANDBOX (cutbox-rows.mjs): the forced cells as the released guide's own fill.sh prints them over the translation 839043bad51cc87f… (all of the seat's roots in one cut). By AI agents, Wed Nov 11 2026. No macro, syntax, notation, axiom, sorry.
-/
import Derived.Test.YtbnljfnmojendaaChecked
import GoSem.Claim
import GoSem.ClaimJoined
import GoSem.ClaimMapViews
import Derived.JoinedTies
import Derived.KernelRfl
namespace Go.Proofs.Ytbnljfnmojendaa
/- THE CELL 'sum', in the pinned program and in every row, IS THE sha256 OF THE DUMP (.gsa) THAT YtbnljfnmojendaaProg.lean LOADS. Nothing in Lean hashes anything: it is a label: what it is worth is what the hold of that sum in a sandbox is worth. -/
noncomputable def Try.pinned : Pinned := { name := "ytbnljfnmojendaa", sum := "839043bad51cc87fd654bf7c2871def45ff94eee76a072fbd210d656b61eefb6", checked := Try.checked }
namespace Rows
def none {H : Type} : Left H := { results := [], args := [] }

/-- 'countersignlaw02.MsgEncodes': WHATEVER THE INPUT: true; the input reads as it did. -/
def msgEncodesSpec : ChangeSpec := { name := "msgEncodes", fn := fun _ => fun
  | [d] => { results := [.lit (.bool true)], args := [d] }
  | _ => none }
def msgEncodesRow : OpenClaim := { program := "ytbnljfnmojendaa", sum := "839043bad51cc87fd654bf7c2871def45ff94eee76a072fbd210d656b61eefb6", func := "countersign/countersignlaw02.MsgEncodes", spec := "msgEncodes", inPlace := ["internal/abi.NoEscape"], apart := false }
def MsgEncodesSaid : Prop := msgEncodesRow.holds Try.pinned (OpenSpec.ofChange msgEncodesSpec)

/-- ITS FALSE NEIGHBOUR: 'it returns false'. Refute it at one input. -/
def msgEncodesWrong : ChangeSpec := { name := "msgEncodes", fn := fun _ => fun
  | [d] => { results := [.lit (.bool false)], args := [d] }
  | _ => none }
def MsgEncodesWrongFalsely : Prop := msgEncodesRow.holds Try.pinned (OpenSpec.ofChange msgEncodesWrong)

/-- 'countersignlaw02.MsgDecodes': WHATEVER THE INPUT: true; the input reads as it did. -/
def msgDecodesSpec : ChangeSpec := { name := "msgDecodes", fn := fun _ => fun
  | [d] => { results := [.lit (.bool true)], args := [d] }
  | _ => none }
def msgDecodesRow : OpenClaim := { program := "ytbnljfnmojendaa", sum := "839043bad51cc87fd654bf7c2871def45ff94eee76a072fbd210d656b61eefb6", func := "countersign/countersignlaw02.MsgDecodes", spec := "msgDecodes", inPlace := ["internal/abi.NoEscape"], apart := false }
def MsgDecodesSaid : Prop := msgDecodesRow.holds Try.pinned (OpenSpec.ofChange msgDecodesSpec)

/-- ITS FALSE NEIGHBOUR: 'it returns false'. Refute it at one input. -/
def msgDecodesWrong : ChangeSpec := { name := "msgDecodes", fn := fun _ => fun
  | [d] => { results := [.lit (.bool false)], args := [d] }
  | _ => none }
def MsgDecodesWrongFalsely : Prop := msgDecodesRow.holds Try.pinned (OpenSpec.ofChange msgDecodesWrong)

/-- 'countersignlaw02.MsgBack': WHATEVER THE INPUT: true; the input reads as it did. -/
def msgBackSpec : ChangeSpec := { name := "msgBack", fn := fun _ => fun
  | [d1, d2] => { results := [.lit (.bool true)], args := [d1, d2] }
  | _ => none }
def msgBackRow : OpenClaim := { program := "ytbnljfnmojendaa", sum := "839043bad51cc87fd654bf7c2871def45ff94eee76a072fbd210d656b61eefb6", func := "countersign/countersignlaw02.MsgBack", spec := "msgBack", inPlace := ["internal/abi.NoEscape"], apart := false }
def MsgBackSaid : Prop := msgBackRow.holds Try.pinned (OpenSpec.ofChange msgBackSpec)

/-- ITS FALSE NEIGHBOUR: 'it returns false'. Refute it at one input. -/
def msgBackWrong : ChangeSpec := { name := "msgBack", fn := fun _ => fun
  | [d1, d2] => { results := [.lit (.bool false)], args := [d1, d2] }
  | _ => none }
def MsgBackWrongFalsely : Prop := msgBackRow.holds Try.pinned (OpenSpec.ofChange msgBackWrong)

/-- 'countersignlaw02.MsgOnce': WHATEVER THE INPUT: true; the input reads as it did. -/
def msgOnceSpec : ChangeSpec := { name := "msgOnce", fn := fun _ => fun
  | [d1, d2] => { results := [.lit (.bool true)], args := [d1, d2] }
  | _ => none }
def msgOnceRow : OpenClaim := { program := "ytbnljfnmojendaa", sum := "839043bad51cc87fd654bf7c2871def45ff94eee76a072fbd210d656b61eefb6", func := "countersign/countersignlaw02.MsgOnce", spec := "msgOnce", inPlace := ["internal/abi.NoEscape"], apart := false }
def MsgOnceSaid : Prop := msgOnceRow.holds Try.pinned (OpenSpec.ofChange msgOnceSpec)

/-- ITS FALSE NEIGHBOUR: 'it returns false'. Refute it at one input. -/
def msgOnceWrong : ChangeSpec := { name := "msgOnce", fn := fun _ => fun
  | [d1, d2] => { results := [.lit (.bool false)], args := [d1, d2] }
  | _ => none }
def MsgOnceWrongFalsely : Prop := msgOnceRow.holds Try.pinned (OpenSpec.ofChange msgOnceWrong)

/-- 'countersignlaw02.MsgShort': WHATEVER THE INPUT: true; the input reads as it did. -/
def msgShortSpec : ChangeSpec := { name := "msgShort", fn := fun _ => fun
  | [d1, d2] => { results := [.lit (.bool true)], args := [d1, d2] }
  | _ => none }
def msgShortRow : OpenClaim := { program := "ytbnljfnmojendaa", sum := "839043bad51cc87fd654bf7c2871def45ff94eee76a072fbd210d656b61eefb6", func := "countersign/countersignlaw02.MsgShort", spec := "msgShort", inPlace := ["internal/abi.NoEscape"], apart := false }
def MsgShortSaid : Prop := msgShortRow.holds Try.pinned (OpenSpec.ofChange msgShortSpec)

/-- ITS FALSE NEIGHBOUR: 'it returns false'. Refute it at one input. -/
def msgShortWrong : ChangeSpec := { name := "msgShort", fn := fun _ => fun
  | [d1, d2] => { results := [.lit (.bool false)], args := [d1, d2] }
  | _ => none }
def MsgShortWrongFalsely : Prop := msgShortRow.holds Try.pinned (OpenSpec.ofChange msgShortWrong)

/- THE SECOND FORM. 'bulk': how many values and letters a reading holds, each counted each time it is reached (what is shared counts as often as it is met; a slice's spare places count too). A statement '..UptoSaid' is the law's where the arguments, and the package variables that the reading takes, are together of bulk at most 1048576: NARROWER than '..Said'. Prove '..Said' where nothing that the law and all that it calls make is longer than what came in: it says more and counts as full. Else prove '..UptoSaid'. A law counts once. -/
mutual
def uptoBulk {H : Type} : DataW H → Nat
  | .lit (.string bytes) => bytes.length + 1
  | .lit _ => 1
  | .nil => 1
  | .ptr d => uptoBulk d + 1
  | .slice elems spare => uptoBulkAll elems + uptoBulkAll spare + 1
  | .agg parts => uptoBulkAll parts + 1
  | .iface _ d => uptoBulk d + 1
  | .map entries => uptoBulkEntries entries + 1
  | .held _ => 1
def uptoBulkAll {H : Type} : List (DataW H) → Nat
  | [] => 0
  | d :: r => uptoBulk d + uptoBulkAll r
def uptoBulkEntries {H : Type} : List (Lit × DataW H) → Nat
  | [] => 0
  | x :: r => uptoBulkEntry x + uptoBulkEntries r
def uptoBulkEntry {H : Type} : Lit × DataW H → Nat
  | (.string bytes, d) => bytes.length + uptoBulk d + 1
  | (_, d) => uptoBulk d + 1
 end
def uptoSmall : (H : Type) → List (DataW H) → Bool := fun _ ds => decide (uptoBulkAll ds ≤ 1048576)
def OpenSpec.upto (s : _root_.Go.ChangeSpec) : _root_.Go.OpenSpec := { _root_.Go.OpenSpec.ofChange s with cond := some uptoSmall }

/-- 'countersignlaw02.MsgEncodes', WHERE WHAT IT READS IS OF BULK AT MOST 1048576: true; the input reads as it did. -/
def msgEncodesUptoRow : OpenClaim := { program := "ytbnljfnmojendaa", sum := "839043bad51cc87fd654bf7c2871def45ff94eee76a072fbd210d656b61eefb6", func := "countersign/countersignlaw02.MsgEncodes", spec := "msgEncodes", inPlace := ["internal/abi.NoEscape"], apart := false, narrowed := true }
def MsgEncodesUptoSaid : Prop := msgEncodesUptoRow.holds Try.pinned (OpenSpec.upto msgEncodesSpec)

/-- 'countersignlaw02.MsgDecodes', WHERE WHAT IT READS IS OF BULK AT MOST 1048576: true; the input reads as it did. -/
def msgDecodesUptoRow : OpenClaim := { program := "ytbnljfnmojendaa", sum := "839043bad51cc87fd654bf7c2871def45ff94eee76a072fbd210d656b61eefb6", func := "countersign/countersignlaw02.MsgDecodes", spec := "msgDecodes", inPlace := ["internal/abi.NoEscape"], apart := false, narrowed := true }
def MsgDecodesUptoSaid : Prop := msgDecodesUptoRow.holds Try.pinned (OpenSpec.upto msgDecodesSpec)

/-- 'countersignlaw02.MsgBack', WHERE WHAT IT READS IS OF BULK AT MOST 1048576: true; the input reads as it did. -/
def msgBackUptoRow : OpenClaim := { program := "ytbnljfnmojendaa", sum := "839043bad51cc87fd654bf7c2871def45ff94eee76a072fbd210d656b61eefb6", func := "countersign/countersignlaw02.MsgBack", spec := "msgBack", inPlace := ["internal/abi.NoEscape"], apart := false, narrowed := true }
def MsgBackUptoSaid : Prop := msgBackUptoRow.holds Try.pinned (OpenSpec.upto msgBackSpec)

/-- 'countersignlaw02.MsgOnce', WHERE WHAT IT READS IS OF BULK AT MOST 1048576: true; the input reads as it did. -/
def msgOnceUptoRow : OpenClaim := { program := "ytbnljfnmojendaa", sum := "839043bad51cc87fd654bf7c2871def45ff94eee76a072fbd210d656b61eefb6", func := "countersign/countersignlaw02.MsgOnce", spec := "msgOnce", inPlace := ["internal/abi.NoEscape"], apart := false, narrowed := true }
def MsgOnceUptoSaid : Prop := msgOnceUptoRow.holds Try.pinned (OpenSpec.upto msgOnceSpec)

/-- 'countersignlaw02.MsgShort', WHERE WHAT IT READS IS OF BULK AT MOST 1048576: true; the input reads as it did. -/
def msgShortUptoRow : OpenClaim := { program := "ytbnljfnmojendaa", sum := "839043bad51cc87fd654bf7c2871def45ff94eee76a072fbd210d656b61eefb6", func := "countersign/countersignlaw02.MsgShort", spec := "msgShort", inPlace := ["internal/abi.NoEscape"], apart := false, narrowed := true }
def MsgShortUptoSaid : Prop := msgShortUptoRow.holds Try.pinned (OpenSpec.upto msgShortSpec)

end Rows
end Go.Proofs.Ytbnljfnmojendaa
