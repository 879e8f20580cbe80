/-
  No cell of these rows narrows 'for every input' (looked for: loops, veiled, ifaces, maps, wideKeys, modest, calm, conditions, laid).
  DERIVED. THE GIVEN ROWS OF THIS SEAT. 4 by the template 'for every input the law returns true; each argument reads behind the call as it read before'; 0 by the template 'total and deterministic' (their statements: YtamdokgbenbndaaTotals.lean).
  GIVEN WITH THE SEED: the statements are not yours to turn. If you find one false, say at which input.
  Laid BY PROGRAM, IN A SANDBOX (cutbox-rows.mjs): the forced cells as the released guide's own fill.sh prints them over the translation 89a6ae679a2cf14e… (all of the seat's roots in one cut). By AI agents, Wed Nov 11 2026. No macro, syntax, notation, axiom, sorry.
-/
import Derived.Test.YtamdokgbenbndaaChecked
import GoSem.Claim
import GoSem.ClaimJoined
import GoSem.ClaimMapViews
import Derived.JoinedTies
import Derived.KernelRfl
namespace Go.Proofs.Ytamdokgbenbndaa
/- THE CELL 'sum', in the pinned program and in every row, IS THE sha256 OF THE DUMP (.gsa) THAT YtamdokgbenbndaaProg.lean LOADS. Nothing in Lean hashes anything: it is a label: what it is worth is what the hold of that sum in a sandbox is worth. -/
noncomputable def Try.pinned : Pinned := { name := "ytamdokgbenbndaa", sum := "89a6ae679a2cf14ea6b2b936a82df7602e7213649f707ca02b6128c540036b8e", checked := Try.checked }
namespace Rows
def none {H : Type} : Left H := { results := [], args := [] }

/-- 'countersignlaw20.TimerOrders': WHATEVER THE INPUT: true; the input reads as it did. -/
def timerOrdersSpec : ChangeSpec := { name := "timerOrders", fn := fun _ => fun
  | [d1, d2] => { results := [.lit (.bool true)], args := [d1, d2] }
  | _ => none }
def timerOrdersRow : OpenClaim := { program := "ytamdokgbenbndaa", sum := "89a6ae679a2cf14ea6b2b936a82df7602e7213649f707ca02b6128c540036b8e", func := "countersign/countersignlaw20.TimerOrders", spec := "timerOrders", unfollowed := true, recurses := true, apart := false }
def TimerOrdersSaid : Prop := timerOrdersRow.holds Try.pinned (OpenSpec.ofChange timerOrdersSpec)

/-- ITS FALSE NEIGHBOUR: 'it returns false'. Refute it at one input. -/
def timerOrdersWrong : ChangeSpec := { name := "timerOrders", fn := fun _ => fun
  | [d1, d2] => { results := [.lit (.bool false)], args := [d1, d2] }
  | _ => none }
def TimerOrdersWrongFalsely : Prop := timerOrdersRow.holds Try.pinned (OpenSpec.ofChange timerOrdersWrong)

/-- 'countersignlaw20.TimerNext': WHATEVER THE INPUT: true; the input reads as it did. -/
def timerNextSpec : ChangeSpec := { name := "timerNext", fn := fun _ => fun
  | [d] => { results := [.lit (.bool true)], args := [d] }
  | _ => none }
def timerNextRow : OpenClaim := { program := "ytamdokgbenbndaa", sum := "89a6ae679a2cf14ea6b2b936a82df7602e7213649f707ca02b6128c540036b8e", func := "countersign/countersignlaw20.TimerNext", spec := "timerNext", unfollowed := true, recurses := true, apart := false }
def TimerNextSaid : Prop := timerNextRow.holds Try.pinned (OpenSpec.ofChange timerNextSpec)

/-- ITS FALSE NEIGHBOUR: 'it returns false'. Refute it at one input. -/
def timerNextWrong : ChangeSpec := { name := "timerNext", fn := fun _ => fun
  | [d] => { results := [.lit (.bool false)], args := [d] }
  | _ => none }
def TimerNextWrongFalsely : Prop := timerNextRow.holds Try.pinned (OpenSpec.ofChange timerNextWrong)

/-- 'countersignlaw20.TimerPlays': WHATEVER THE INPUT: true; the input reads as it did. -/
def timerPlaysSpec : ChangeSpec := { name := "timerPlays", fn := fun _ => fun
  | [d] => { results := [.lit (.bool true)], args := [d] }
  | _ => none }
def timerPlaysRow : OpenClaim := { program := "ytamdokgbenbndaa", sum := "89a6ae679a2cf14ea6b2b936a82df7602e7213649f707ca02b6128c540036b8e", func := "countersign/countersignlaw20.TimerPlays", spec := "timerPlays", unfollowed := true, recurses := true, apart := false }
def TimerPlaysSaid : Prop := timerPlaysRow.holds Try.pinned (OpenSpec.ofChange timerPlaysSpec)

/-- ITS FALSE NEIGHBOUR: 'it returns false'. Refute it at one input. -/
def timerPlaysWrong : ChangeSpec := { name := "timerPlays", fn := fun _ => fun
  | [d] => { results := [.lit (.bool false)], args := [d] }
  | _ => none }
def TimerPlaysWrongFalsely : Prop := timerPlaysRow.holds Try.pinned (OpenSpec.ofChange timerPlaysWrong)

/-- 'countersignlaw20.TimerDrops': WHATEVER THE INPUT: true; the input reads as it did. -/
def timerDropsSpec : ChangeSpec := { name := "timerDrops", fn := fun _ => fun
  | [d1, d2, d3] => { results := [.lit (.bool true)], args := [d1, d2, d3] }
  | _ => none }
def timerDropsRow : OpenClaim := { program := "ytamdokgbenbndaa", sum := "89a6ae679a2cf14ea6b2b936a82df7602e7213649f707ca02b6128c540036b8e", func := "countersign/countersignlaw20.TimerDrops", spec := "timerDrops", unfollowed := true, recurses := true, apart := false }
def TimerDropsSaid : Prop := timerDropsRow.holds Try.pinned (OpenSpec.ofChange timerDropsSpec)

/-- ITS FALSE NEIGHBOUR: 'it returns false'. Refute it at one input. -/
def timerDropsWrong : ChangeSpec := { name := "timerDrops", fn := fun _ => fun
  | [d1, d2, d3] => { results := [.lit (.bool false)], args := [d1, d2, d3] }
  | _ => none }
def TimerDropsWrongFalsely : Prop := timerDropsRow.holds Try.pinned (OpenSpec.ofChange timerDropsWrong)

/- THE SECOND FORM. 'bulk': how many values and letters a reading holds, each counted each time it is reached (what is shared counts as often as it is met; a slice's spare places count too). A statement '..UptoSaid' is the law's where the arguments, and the package variables that the reading takes, are together of bulk at most 1048576: NARROWER than '..Said'. Prove '..Said' where nothing that the law and all that it calls make is longer than what came in: it says more and counts as full. Else prove '..UptoSaid'. A law counts once. -/
mutual
def uptoBulk {H : Type} : DataW H → Nat
  | .lit (.string bytes) => bytes.length + 1
  | .lit _ => 1
  | .nil => 1
  | .ptr d => uptoBulk d + 1
  | .slice elems spare => uptoBulkAll elems + uptoBulkAll spare + 1
  | .agg parts => uptoBulkAll parts + 1
  | .iface _ d => uptoBulk d + 1
  | .map entries => uptoBulkEntries entries + 1
  | .held _ => 1
def uptoBulkAll {H : Type} : List (DataW H) → Nat
  | [] => 0
  | d :: r => uptoBulk d + uptoBulkAll r
def uptoBulkEntries {H : Type} : List (Lit × DataW H) → Nat
  | [] => 0
  | x :: r => uptoBulkEntry x + uptoBulkEntries r
def uptoBulkEntry {H : Type} : Lit × DataW H → Nat
  | (.string bytes, d) => bytes.length + uptoBulk d + 1
  | (_, d) => uptoBulk d + 1
 end
def uptoSmall : (H : Type) → List (DataW H) → Bool := fun _ ds => decide (uptoBulkAll ds ≤ 1048576)
def OpenSpec.upto (s : _root_.Go.ChangeSpec) : _root_.Go.OpenSpec := { _root_.Go.OpenSpec.ofChange s with cond := some uptoSmall }

/-- 'countersignlaw20.TimerOrders', WHERE WHAT IT READS IS OF BULK AT MOST 1048576: true; the input reads as it did. -/
def timerOrdersUptoRow : OpenClaim := { program := "ytamdokgbenbndaa", sum := "89a6ae679a2cf14ea6b2b936a82df7602e7213649f707ca02b6128c540036b8e", func := "countersign/countersignlaw20.TimerOrders", spec := "timerOrders", unfollowed := true, recurses := true, apart := false, narrowed := true }
def TimerOrdersUptoSaid : Prop := timerOrdersUptoRow.holds Try.pinned (OpenSpec.upto timerOrdersSpec)

/-- 'countersignlaw20.TimerNext', WHERE WHAT IT READS IS OF BULK AT MOST 1048576: true; the input reads as it did. -/
def timerNextUptoRow : OpenClaim := { program := "ytamdokgbenbndaa", sum := "89a6ae679a2cf14ea6b2b936a82df7602e7213649f707ca02b6128c540036b8e", func := "countersign/countersignlaw20.TimerNext", spec := "timerNext", unfollowed := true, recurses := true, apart := false, narrowed := true }
def TimerNextUptoSaid : Prop := timerNextUptoRow.holds Try.pinned (OpenSpec.upto timerNextSpec)

/-- 'countersignlaw20.TimerPlays', WHERE WHAT IT READS IS OF BULK AT MOST 1048576: true; the input reads as it did. -/
def timerPlaysUptoRow : OpenClaim := { program := "ytamdokgbenbndaa", sum := "89a6ae679a2cf14ea6b2b936a82df7602e7213649f707ca02b6128c540036b8e", func := "countersign/countersignlaw20.TimerPlays", spec := "timerPlays", unfollowed := true, recurses := true, apart := false, narrowed := true }
def TimerPlaysUptoSaid : Prop := timerPlaysUptoRow.holds Try.pinned (OpenSpec.upto timerPlaysSpec)

/-- 'countersignlaw20.TimerDrops', WHERE WHAT IT READS IS OF BULK AT MOST 1048576: true; the input reads as it did. -/
def timerDropsUptoRow : OpenClaim := { program := "ytamdokgbenbndaa", sum := "89a6ae679a2cf14ea6b2b936a82df7602e7213649f707ca02b6128c540036b8e", func := "countersign/countersignlaw20.TimerDrops", spec := "timerDrops", unfollowed := true, recurses := true, apart := false, narrowed := true }
def TimerDropsUptoSaid : Prop := timerDropsUptoRow.holds Try.pinned (OpenSpec.upto timerDropsSpec)

end Rows
end Go.Proofs.Ytamdokgbenbndaa
