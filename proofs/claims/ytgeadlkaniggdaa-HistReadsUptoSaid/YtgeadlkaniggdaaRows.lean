/-
  No cell of these rows narrows 'for every input' (looked for: loops, veiled, ifaces, maps, wideKeys, modest, calm, conditions, laid).
  DERIVED. THE GIVEN ROWS OF THIS SEAT. 5 by the template 'for every input the law returns true; each argument reads behind the call as it read before'; 0 by the template 'total and deterministic' (their statements: YtgeadlkaniggdaaTotals.lean).
  GIVEN WITH THE SEED: the statements are not yours to turn. If you find one false, say at which input.
  Laid BY PROGRAM, IN A SANDBOX (cutbox-rows.mjs): the forced cells as the released guide's own fill.sh prints them over the translation 815aaf431094c97d… (all of the seat's roots in one cut). By AI agents, Wed Nov 11 2026. No macro, syntax, notation, axiom, sorry.
-/
import Derived.Test.YtgeadlkaniggdaaChecked
import GoSem.Claim
import GoSem.ClaimJoined
import GoSem.ClaimMapViews
import Derived.JoinedTies
import Derived.KernelRfl
namespace Go.Proofs.Ytgeadlkaniggdaa
/- THE CELL 'sum', in the pinned program and in every row, IS THE sha256 OF THE DUMP (.gsa) THAT YtgeadlkaniggdaaProg.lean LOADS. Nothing in Lean hashes anything: it is a label: what it is worth is what the hold of that sum in a sandbox is worth. -/
noncomputable def Try.pinned : Pinned := { name := "ytgeadlkaniggdaa", sum := "815aaf431094c97d1ba8e925896c1447f73e86269ac51fda12ce582b3bd2196a", checked := Try.checked }
namespace Rows
def none {H : Type} : Left H := { results := [], args := [] }

/-- 'countersignlaw24.HistOrders': WHATEVER THE INPUT: true; the input reads as it did. -/
def histOrdersSpec : ChangeSpec := { name := "histOrders", fn := fun _ => fun
  | [d] => { results := [.lit (.bool true)], args := [d] }
  | _ => none }
def histOrdersRow : OpenClaim := { program := "ytgeadlkaniggdaa", sum := "815aaf431094c97d1ba8e925896c1447f73e86269ac51fda12ce582b3bd2196a", func := "countersign/countersignlaw24.HistOrders", spec := "histOrders", recurses := true, plainKeys := false, apart := false }
def HistOrdersSaid : Prop := histOrdersRow.holds Try.pinned (OpenSpec.ofChange histOrdersSpec)

/-- ITS FALSE NEIGHBOUR: 'it returns false'. Refute it at one input. -/
def histOrdersWrong : ChangeSpec := { name := "histOrders", fn := fun _ => fun
  | [d] => { results := [.lit (.bool false)], args := [d] }
  | _ => none }
def HistOrdersWrongFalsely : Prop := histOrdersRow.holds Try.pinned (OpenSpec.ofChange histOrdersWrong)

/-- 'countersignlaw24.HistRight': WHATEVER THE INPUT: true; the input reads as it did. -/
def histRightSpec : ChangeSpec := { name := "histRight", fn := fun _ => fun
  | [d] => { results := [.lit (.bool true)], args := [d] }
  | _ => none }
def histRightRow : OpenClaim := { program := "ytgeadlkaniggdaa", sum := "815aaf431094c97d1ba8e925896c1447f73e86269ac51fda12ce582b3bd2196a", func := "countersign/countersignlaw24.HistRight", spec := "histRight", recurses := true, plainKeys := false, apart := false }
def HistRightSaid : Prop := histRightRow.holds Try.pinned (OpenSpec.ofChange histRightSpec)

/-- ITS FALSE NEIGHBOUR: 'it returns false'. Refute it at one input. -/
def histRightWrong : ChangeSpec := { name := "histRight", fn := fun _ => fun
  | [d] => { results := [.lit (.bool false)], args := [d] }
  | _ => none }
def HistRightWrongFalsely : Prop := histRightRow.holds Try.pinned (OpenSpec.ofChange histRightWrong)

/-- 'countersignlaw24.HistTurns': WHATEVER THE INPUT: true; the input reads as it did. -/
def histTurnsSpec : ChangeSpec := { name := "histTurns", fn := fun _ => fun
  | [d1, d2] => { results := [.lit (.bool true)], args := [d1, d2] }
  | _ => none }
def histTurnsRow : OpenClaim := { program := "ytgeadlkaniggdaa", sum := "815aaf431094c97d1ba8e925896c1447f73e86269ac51fda12ce582b3bd2196a", func := "countersign/countersignlaw24.HistTurns", spec := "histTurns", recurses := true, plainKeys := false, apart := false }
def HistTurnsSaid : Prop := histTurnsRow.holds Try.pinned (OpenSpec.ofChange histTurnsSpec)

/-- ITS FALSE NEIGHBOUR: 'it returns false'. Refute it at one input. -/
def histTurnsWrong : ChangeSpec := { name := "histTurns", fn := fun _ => fun
  | [d1, d2] => { results := [.lit (.bool false)], args := [d1, d2] }
  | _ => none }
def HistTurnsWrongFalsely : Prop := histTurnsRow.holds Try.pinned (OpenSpec.ofChange histTurnsWrong)

/-- 'countersignlaw24.HistWider': WHATEVER THE INPUT: true; the input reads as it did. -/
def histWiderSpec : ChangeSpec := { name := "histWider", fn := fun _ => fun
  | [d1, d2] => { results := [.lit (.bool true)], args := [d1, d2] }
  | _ => none }
def histWiderRow : OpenClaim := { program := "ytgeadlkaniggdaa", sum := "815aaf431094c97d1ba8e925896c1447f73e86269ac51fda12ce582b3bd2196a", func := "countersign/countersignlaw24.HistWider", spec := "histWider", recurses := true, plainKeys := false, apart := false }
def HistWiderSaid : Prop := histWiderRow.holds Try.pinned (OpenSpec.ofChange histWiderSpec)

/-- ITS FALSE NEIGHBOUR: 'it returns false'. Refute it at one input. -/
def histWiderWrong : ChangeSpec := { name := "histWider", fn := fun _ => fun
  | [d1, d2] => { results := [.lit (.bool false)], args := [d1, d2] }
  | _ => none }
def HistWiderWrongFalsely : Prop := histWiderRow.holds Try.pinned (OpenSpec.ofChange histWiderWrong)

/-- 'countersignlaw24.HistReads': WHATEVER THE INPUT: true; the input reads as it did. -/
def histReadsSpec : ChangeSpec := { name := "histReads", fn := fun _ => fun
  | [d1, d2] => { results := [.lit (.bool true)], args := [d1, d2] }
  | _ => none }
def histReadsRow : OpenClaim := { program := "ytgeadlkaniggdaa", sum := "815aaf431094c97d1ba8e925896c1447f73e86269ac51fda12ce582b3bd2196a", func := "countersign/countersignlaw24.HistReads", spec := "histReads", recurses := true, plainKeys := false, apart := false }
def HistReadsSaid : Prop := histReadsRow.holds Try.pinned (OpenSpec.ofChange histReadsSpec)

/-- ITS FALSE NEIGHBOUR: 'it returns false'. Refute it at one input. -/
def histReadsWrong : ChangeSpec := { name := "histReads", fn := fun _ => fun
  | [d1, d2] => { results := [.lit (.bool false)], args := [d1, d2] }
  | _ => none }
def HistReadsWrongFalsely : Prop := histReadsRow.holds Try.pinned (OpenSpec.ofChange histReadsWrong)

/- THE SECOND FORM. 'bulk': how many values and letters a reading holds, each counted each time it is reached (what is shared counts as often as it is met; a slice's spare places count too). A statement '..UptoSaid' is the law's where the arguments, and the package variables that the reading takes, are together of bulk at most 1048576: NARROWER than '..Said'. Prove '..Said' where nothing that the law and all that it calls make is longer than what came in: it says more and counts as full. Else prove '..UptoSaid'. A law counts once. -/
mutual
def uptoBulk {H : Type} : DataW H → Nat
  | .lit (.string bytes) => bytes.length + 1
  | .lit _ => 1
  | .nil => 1
  | .ptr d => uptoBulk d + 1
  | .slice elems spare => uptoBulkAll elems + uptoBulkAll spare + 1
  | .agg parts => uptoBulkAll parts + 1
  | .iface _ d => uptoBulk d + 1
  | .map entries => uptoBulkEntries entries + 1
  | .held _ => 1
def uptoBulkAll {H : Type} : List (DataW H) → Nat
  | [] => 0
  | d :: r => uptoBulk d + uptoBulkAll r
def uptoBulkEntries {H : Type} : List (Lit × DataW H) → Nat
  | [] => 0
  | x :: r => uptoBulkEntry x + uptoBulkEntries r
def uptoBulkEntry {H : Type} : Lit × DataW H → Nat
  | (.string bytes, d) => bytes.length + uptoBulk d + 1
  | (_, d) => uptoBulk d + 1
 end
def uptoSmall : (H : Type) → List (DataW H) → Bool := fun _ ds => decide (uptoBulkAll ds ≤ 1048576)
def OpenSpec.upto (s : _root_.Go.ChangeSpec) : _root_.Go.OpenSpec := { _root_.Go.OpenSpec.ofChange s with cond := some uptoSmall }

/-- 'countersignlaw24.HistOrders', WHERE WHAT IT READS IS OF BULK AT MOST 1048576: true; the input reads as it did. -/
def histOrdersUptoRow : OpenClaim := { program := "ytgeadlkaniggdaa", sum := "815aaf431094c97d1ba8e925896c1447f73e86269ac51fda12ce582b3bd2196a", func := "countersign/countersignlaw24.HistOrders", spec := "histOrders", recurses := true, plainKeys := false, apart := false, narrowed := true }
def HistOrdersUptoSaid : Prop := histOrdersUptoRow.holds Try.pinned (OpenSpec.upto histOrdersSpec)

/-- 'countersignlaw24.HistRight', WHERE WHAT IT READS IS OF BULK AT MOST 1048576: true; the input reads as it did. -/
def histRightUptoRow : OpenClaim := { program := "ytgeadlkaniggdaa", sum := "815aaf431094c97d1ba8e925896c1447f73e86269ac51fda12ce582b3bd2196a", func := "countersign/countersignlaw24.HistRight", spec := "histRight", recurses := true, plainKeys := false, apart := false, narrowed := true }
def HistRightUptoSaid : Prop := histRightUptoRow.holds Try.pinned (OpenSpec.upto histRightSpec)

/-- 'countersignlaw24.HistTurns', WHERE WHAT IT READS IS OF BULK AT MOST 1048576: true; the input reads as it did. -/
def histTurnsUptoRow : OpenClaim := { program := "ytgeadlkaniggdaa", sum := "815aaf431094c97d1ba8e925896c1447f73e86269ac51fda12ce582b3bd2196a", func := "countersign/countersignlaw24.HistTurns", spec := "histTurns", recurses := true, plainKeys := false, apart := false, narrowed := true }
def HistTurnsUptoSaid : Prop := histTurnsUptoRow.holds Try.pinned (OpenSpec.upto histTurnsSpec)

/-- 'countersignlaw24.HistWider', WHERE WHAT IT READS IS OF BULK AT MOST 1048576: true; the input reads as it did. -/
def histWiderUptoRow : OpenClaim := { program := "ytgeadlkaniggdaa", sum := "815aaf431094c97d1ba8e925896c1447f73e86269ac51fda12ce582b3bd2196a", func := "countersign/countersignlaw24.HistWider", spec := "histWider", recurses := true, plainKeys := false, apart := false, narrowed := true }
def HistWiderUptoSaid : Prop := histWiderUptoRow.holds Try.pinned (OpenSpec.upto histWiderSpec)

/-- 'countersignlaw24.HistReads', WHERE WHAT IT READS IS OF BULK AT MOST 1048576: true; the input reads as it did. -/
def histReadsUptoRow : OpenClaim := { program := "ytgeadlkaniggdaa", sum := "815aaf431094c97d1ba8e925896c1447f73e86269ac51fda12ce582b3bd2196a", func := "countersign/countersignlaw24.HistReads", spec := "histReads", recurses := true, plainKeys := false, apart := false, narrowed := true }
def HistReadsUptoSaid : Prop := histReadsUptoRow.holds Try.pinned (OpenSpec.upto histReadsSpec)

end Rows
end Go.Proofs.Ytgeadlkaniggdaa
