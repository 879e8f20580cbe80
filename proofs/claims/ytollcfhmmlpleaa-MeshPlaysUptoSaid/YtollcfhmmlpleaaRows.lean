/-
  No cell of these rows narrows 'for every input' (looked for: loops, veiled, ifaces, maps, wideKeys, modest, calm, conditions, laid).
  DERIVED. THE GIVEN ROWS OF THIS SEAT. 4 by the template 'for every input the law returns true; each argument reads behind the call as it read before'; 0 by the template 'total and deterministic' (their statements: YtollcfhmmlpleaaTotals.lean).
  GIVEN WITH THE SEED: the statements are not yours to turn. If you find one false, say at which input.
  Laid BY PROGRAM, IN A SANDBOX (cutbox-rows.mjs): the forced cells as the released guide's own fill.sh prints them over the translation f7447889121b83c1… (all of the seat's roots in one cut). By AI agents, Wed Nov 11 2026. No macro, syntax, notation, axiom, sorry.
-/
import Derived.Test.YtollcfhmmlpleaaChecked
import GoSem.Claim
import GoSem.ClaimJoined
import GoSem.ClaimMapViews
import Derived.JoinedTies
import Derived.KernelRfl
namespace Go.Proofs.Ytollcfhmmlpleaa
/- THE CELL 'sum', in the pinned program and in every row, IS THE sha256 OF THE DUMP (.gsa) THAT YtollcfhmmlpleaaProg.lean LOADS. Nothing in Lean hashes anything: it is a label: what it is worth is what the hold of that sum in a sandbox is worth. -/
noncomputable def Try.pinned : Pinned := { name := "ytollcfhmmlpleaa", sum := "f7447889121b83c12ce38e5d5c719dca5460b24cec062a2194a4a3a129b1a246", checked := Try.checked }
namespace Rows
def none {H : Type} : Left H := { results := [], args := [] }

/-- 'countersignlaw19.MeshOnce': WHATEVER THE INPUT: true; the input reads as it did. -/
def meshOnceSpec : ChangeSpec := { name := "meshOnce", fn := fun _ => fun
  | [d1, d2] => { results := [.lit (.bool true)], args := [d1, d2] }
  | _ => none }
def meshOnceRow : OpenClaim := { program := "ytollcfhmmlpleaa", sum := "f7447889121b83c12ce38e5d5c719dca5460b24cec062a2194a4a3a129b1a246", func := "countersign/countersignlaw19.MeshOnce", spec := "meshOnce", apart := false }
def MeshOnceSaid : Prop := meshOnceRow.holds Try.pinned (OpenSpec.ofChange meshOnceSpec)

/-- ITS FALSE NEIGHBOUR: 'it returns false'. Refute it at one input. -/
def meshOnceWrong : ChangeSpec := { name := "meshOnce", fn := fun _ => fun
  | [d1, d2] => { results := [.lit (.bool false)], args := [d1, d2] }
  | _ => none }
def MeshOnceWrongFalsely : Prop := meshOnceRow.holds Try.pinned (OpenSpec.ofChange meshOnceWrong)

/-- 'countersignlaw19.MeshFull': WHATEVER THE INPUT: true; the input reads as it did. -/
def meshFullSpec : ChangeSpec := { name := "meshFull", fn := fun _ => fun
  | [d1, d2] => { results := [.lit (.bool true)], args := [d1, d2] }
  | _ => none }
def meshFullRow : OpenClaim := { program := "ytollcfhmmlpleaa", sum := "f7447889121b83c12ce38e5d5c719dca5460b24cec062a2194a4a3a129b1a246", func := "countersign/countersignlaw19.MeshFull", spec := "meshFull", apart := false }
def MeshFullSaid : Prop := meshFullRow.holds Try.pinned (OpenSpec.ofChange meshFullSpec)

/-- ITS FALSE NEIGHBOUR: 'it returns false'. Refute it at one input. -/
def meshFullWrong : ChangeSpec := { name := "meshFull", fn := fun _ => fun
  | [d1, d2] => { results := [.lit (.bool false)], args := [d1, d2] }
  | _ => none }
def MeshFullWrongFalsely : Prop := meshFullRow.holds Try.pinned (OpenSpec.ofChange meshFullWrong)

/-- 'countersignlaw19.MeshOrders': WHATEVER THE INPUT: true; the input reads as it did. -/
def meshOrdersSpec : ChangeSpec := { name := "meshOrders", fn := fun _ => fun
  | [d1, d2, d3] => { results := [.lit (.bool true)], args := [d1, d2, d3] }
  | _ => none }
def meshOrdersRow : OpenClaim := { program := "ytollcfhmmlpleaa", sum := "f7447889121b83c12ce38e5d5c719dca5460b24cec062a2194a4a3a129b1a246", func := "countersign/countersignlaw19.MeshOrders", spec := "meshOrders", unfollowed := true, recurses := true, apart := false }
def MeshOrdersSaid : Prop := meshOrdersRow.holds Try.pinned (OpenSpec.ofChange meshOrdersSpec)

/-- ITS FALSE NEIGHBOUR: 'it returns false'. Refute it at one input. -/
def meshOrdersWrong : ChangeSpec := { name := "meshOrders", fn := fun _ => fun
  | [d1, d2, d3] => { results := [.lit (.bool false)], args := [d1, d2, d3] }
  | _ => none }
def MeshOrdersWrongFalsely : Prop := meshOrdersRow.holds Try.pinned (OpenSpec.ofChange meshOrdersWrong)

/-- 'countersignlaw19.MeshPlays': WHATEVER THE INPUT: true; the input reads as it did. -/
def meshPlaysSpec : ChangeSpec := { name := "meshPlays", fn := fun _ => fun
  | [d] => { results := [.lit (.bool true)], args := [d] }
  | _ => none }
def meshPlaysRow : OpenClaim := { program := "ytollcfhmmlpleaa", sum := "f7447889121b83c12ce38e5d5c719dca5460b24cec062a2194a4a3a129b1a246", func := "countersign/countersignlaw19.MeshPlays", spec := "meshPlays", unfollowed := true, recurses := true, apart := false }
def MeshPlaysSaid : Prop := meshPlaysRow.holds Try.pinned (OpenSpec.ofChange meshPlaysSpec)

/-- ITS FALSE NEIGHBOUR: 'it returns false'. Refute it at one input. -/
def meshPlaysWrong : ChangeSpec := { name := "meshPlays", fn := fun _ => fun
  | [d] => { results := [.lit (.bool false)], args := [d] }
  | _ => none }
def MeshPlaysWrongFalsely : Prop := meshPlaysRow.holds Try.pinned (OpenSpec.ofChange meshPlaysWrong)

/- THE SECOND FORM. 'bulk': how many values and letters a reading holds, each counted each time it is reached (what is shared counts as often as it is met; a slice's spare places count too). A statement '..UptoSaid' is the law's where the arguments, and the package variables that the reading takes, are together of bulk at most 1048576: NARROWER than '..Said'. Prove '..Said' where nothing that the law and all that it calls make is longer than what came in: it says more and counts as full. Else prove '..UptoSaid'. A law counts once. -/
mutual
def uptoBulk {H : Type} : DataW H → Nat
  | .lit (.string bytes) => bytes.length + 1
  | .lit _ => 1
  | .nil => 1
  | .ptr d => uptoBulk d + 1
  | .slice elems spare => uptoBulkAll elems + uptoBulkAll spare + 1
  | .agg parts => uptoBulkAll parts + 1
  | .iface _ d => uptoBulk d + 1
  | .map entries => uptoBulkEntries entries + 1
  | .held _ => 1
def uptoBulkAll {H : Type} : List (DataW H) → Nat
  | [] => 0
  | d :: r => uptoBulk d + uptoBulkAll r
def uptoBulkEntries {H : Type} : List (Lit × DataW H) → Nat
  | [] => 0
  | x :: r => uptoBulkEntry x + uptoBulkEntries r
def uptoBulkEntry {H : Type} : Lit × DataW H → Nat
  | (.string bytes, d) => bytes.length + uptoBulk d + 1
  | (_, d) => uptoBulk d + 1
 end
def uptoSmall : (H : Type) → List (DataW H) → Bool := fun _ ds => decide (uptoBulkAll ds ≤ 1048576)
def OpenSpec.upto (s : _root_.Go.ChangeSpec) : _root_.Go.OpenSpec := { _root_.Go.OpenSpec.ofChange s with cond := some uptoSmall }

/-- 'countersignlaw19.MeshOnce', WHERE WHAT IT READS IS OF BULK AT MOST 1048576: true; the input reads as it did. -/
def meshOnceUptoRow : OpenClaim := { program := "ytollcfhmmlpleaa", sum := "f7447889121b83c12ce38e5d5c719dca5460b24cec062a2194a4a3a129b1a246", func := "countersign/countersignlaw19.MeshOnce", spec := "meshOnce", apart := false, narrowed := true }
def MeshOnceUptoSaid : Prop := meshOnceUptoRow.holds Try.pinned (OpenSpec.upto meshOnceSpec)

/-- 'countersignlaw19.MeshFull', WHERE WHAT IT READS IS OF BULK AT MOST 1048576: true; the input reads as it did. -/
def meshFullUptoRow : OpenClaim := { program := "ytollcfhmmlpleaa", sum := "f7447889121b83c12ce38e5d5c719dca5460b24cec062a2194a4a3a129b1a246", func := "countersign/countersignlaw19.MeshFull", spec := "meshFull", apart := false, narrowed := true }
def MeshFullUptoSaid : Prop := meshFullUptoRow.holds Try.pinned (OpenSpec.upto meshFullSpec)

/-- 'countersignlaw19.MeshOrders', WHERE WHAT IT READS IS OF BULK AT MOST 1048576: true; the input reads as it did. -/
def meshOrdersUptoRow : OpenClaim := { program := "ytollcfhmmlpleaa", sum := "f7447889121b83c12ce38e5d5c719dca5460b24cec062a2194a4a3a129b1a246", func := "countersign/countersignlaw19.MeshOrders", spec := "meshOrders", unfollowed := true, recurses := true, apart := false, narrowed := true }
def MeshOrdersUptoSaid : Prop := meshOrdersUptoRow.holds Try.pinned (OpenSpec.upto meshOrdersSpec)

/-- 'countersignlaw19.MeshPlays', WHERE WHAT IT READS IS OF BULK AT MOST 1048576: true; the input reads as it did. -/
def meshPlaysUptoRow : OpenClaim := { program := "ytollcfhmmlpleaa", sum := "f7447889121b83c12ce38e5d5c719dca5460b24cec062a2194a4a3a129b1a246", func := "countersign/countersignlaw19.MeshPlays", spec := "meshPlays", unfollowed := true, recurses := true, apart := false, narrowed := true }
def MeshPlaysUptoSaid : Prop := meshPlaysUptoRow.holds Try.pinned (OpenSpec.upto meshPlaysSpec)

end Rows
end Go.Proofs.Ytollcfhmmlpleaa
