/-
  No cell of these rows narrows 'for every input' (looked for: loops, veiled, ifaces, maps, wideKeys, modest, calm, conditions, laid).
  DERIVED. THE GIVEN ROWS OF THIS SEAT. 6 by the template 'for every input the law returns true; each argument reads behind the call as it read before'; 0 by the template 'total and deterministic' (their statements: YtcihdjdcmahacaaTotals.lean).
  GIVEN WITH THE SEED: the statements are not yours to turn. If you find one false, say at which input.
  Laid BY PROGRAM, IN A SANDBOX (cutbox-rows.mjs): the forced cells as the released guide's own fill.sh prints them over the translation 347b3d44cf5b65cd… (all of the seat's roots in one cut). By AI agents, Wed Nov 11 2026. No macro, syntax, notation, axiom, sorry.
-/
import Derived.Test.YtcihdjdcmahacaaChecked
import GoSem.Claim
import GoSem.ClaimJoined
import GoSem.ClaimMapViews
import Derived.JoinedTies
import Derived.KernelRfl
namespace Go.Proofs.Ytcihdjdcmahacaa
/- THE CELL 'sum', in the pinned program and in every row, IS THE sha256 OF THE DUMP (.gsa) THAT YtcihdjdcmahacaaProg.lean LOADS. Nothing in Lean hashes anything: it is a label: what it is worth is what the hold of that sum in a sandbox is worth. -/
noncomputable def Try.pinned : Pinned := { name := "ytcihdjdcmahacaa", sum := "347b3d44cf5b65cd783f6e355bd576903684248268168fc2551cc530e9c35ecb", checked := Try.checked }
namespace Rows
def none {H : Type} : Left H := { results := [], args := [] }

/-- 'countersignlaw05.SealTexts': WHATEVER THE INPUT: true; the input reads as it did. -/
def sealTextsSpec : ChangeSpec := { name := "sealTexts", fn := fun _ => fun
  | [d1, d2] => { results := [.lit (.bool true)], args := [d1, d2] }
  | _ => none }
def sealTextsRow : OpenClaim := { program := "ytcihdjdcmahacaa", sum := "347b3d44cf5b65cd783f6e355bd576903684248268168fc2551cc530e9c35ecb", func := "countersign/countersignlaw05.SealTexts", spec := "sealTexts", plainKeys := false, apart := false }
def SealTextsSaid : Prop := sealTextsRow.holds Try.pinned (OpenSpec.ofChange sealTextsSpec)

/-- ITS FALSE NEIGHBOUR: 'it returns false'. Refute it at one input. -/
def sealTextsWrong : ChangeSpec := { name := "sealTexts", fn := fun _ => fun
  | [d1, d2] => { results := [.lit (.bool false)], args := [d1, d2] }
  | _ => none }
def SealTextsWrongFalsely : Prop := sealTextsRow.holds Try.pinned (OpenSpec.ofChange sealTextsWrong)

/-- 'countersignlaw05.SealFresh': WHATEVER THE INPUT: true; the input reads as it did. -/
def sealFreshSpec : ChangeSpec := { name := "sealFresh", fn := fun _ => fun
  | [d1, d2] => { results := [.lit (.bool true)], args := [d1, d2] }
  | _ => none }
def sealFreshRow : OpenClaim := { program := "ytcihdjdcmahacaa", sum := "347b3d44cf5b65cd783f6e355bd576903684248268168fc2551cc530e9c35ecb", func := "countersign/countersignlaw05.SealFresh", spec := "sealFresh", plainKeys := false, apart := false }
def SealFreshSaid : Prop := sealFreshRow.holds Try.pinned (OpenSpec.ofChange sealFreshSpec)

/-- ITS FALSE NEIGHBOUR: 'it returns false'. Refute it at one input. -/
def sealFreshWrong : ChangeSpec := { name := "sealFresh", fn := fun _ => fun
  | [d1, d2] => { results := [.lit (.bool false)], args := [d1, d2] }
  | _ => none }
def SealFreshWrongFalsely : Prop := sealFreshRow.holds Try.pinned (OpenSpec.ofChange sealFreshWrong)

/-- 'countersignlaw05.SealOpens': WHATEVER THE INPUT: true; the input reads as it did. -/
def sealOpensSpec : ChangeSpec := { name := "sealOpens", fn := fun _ => fun
  | [d] => { results := [.lit (.bool true)], args := [d] }
  | _ => none }
def sealOpensRow : OpenClaim := { program := "ytcihdjdcmahacaa", sum := "347b3d44cf5b65cd783f6e355bd576903684248268168fc2551cc530e9c35ecb", func := "countersign/countersignlaw05.SealOpens", spec := "sealOpens", plainKeys := false, apart := false }
def SealOpensSaid : Prop := sealOpensRow.holds Try.pinned (OpenSpec.ofChange sealOpensSpec)

/-- ITS FALSE NEIGHBOUR: 'it returns false'. Refute it at one input. -/
def sealOpensWrong : ChangeSpec := { name := "sealOpens", fn := fun _ => fun
  | [d] => { results := [.lit (.bool false)], args := [d] }
  | _ => none }
def SealOpensWrongFalsely : Prop := sealOpensRow.holds Try.pinned (OpenSpec.ofChange sealOpensWrong)

/-- 'countersignlaw05.SealBinds': WHATEVER THE INPUT: true; the input reads as it did. -/
def sealBindsSpec : ChangeSpec := { name := "sealBinds", fn := fun _ => fun
  | [d1, d2] => { results := [.lit (.bool true)], args := [d1, d2] }
  | _ => none }
def sealBindsRow : OpenClaim := { program := "ytcihdjdcmahacaa", sum := "347b3d44cf5b65cd783f6e355bd576903684248268168fc2551cc530e9c35ecb", func := "countersign/countersignlaw05.SealBinds", spec := "sealBinds", plainKeys := false, apart := false }
def SealBindsSaid : Prop := sealBindsRow.holds Try.pinned (OpenSpec.ofChange sealBindsSpec)

/-- ITS FALSE NEIGHBOUR: 'it returns false'. Refute it at one input. -/
def sealBindsWrong : ChangeSpec := { name := "sealBinds", fn := fun _ => fun
  | [d1, d2] => { results := [.lit (.bool false)], args := [d1, d2] }
  | _ => none }
def SealBindsWrongFalsely : Prop := sealBindsRow.holds Try.pinned (OpenSpec.ofChange sealBindsWrong)

/-- 'countersignlaw05.SealKeeps': WHATEVER THE INPUT: true; the input reads as it did. -/
def sealKeepsSpec : ChangeSpec := { name := "sealKeeps", fn := fun _ => fun
  | [d1, d2] => { results := [.lit (.bool true)], args := [d1, d2] }
  | _ => none }
def sealKeepsRow : OpenClaim := { program := "ytcihdjdcmahacaa", sum := "347b3d44cf5b65cd783f6e355bd576903684248268168fc2551cc530e9c35ecb", func := "countersign/countersignlaw05.SealKeeps", spec := "sealKeeps", plainKeys := false, apart := false }
def SealKeepsSaid : Prop := sealKeepsRow.holds Try.pinned (OpenSpec.ofChange sealKeepsSpec)

/-- ITS FALSE NEIGHBOUR: 'it returns false'. Refute it at one input. -/
def sealKeepsWrong : ChangeSpec := { name := "sealKeeps", fn := fun _ => fun
  | [d1, d2] => { results := [.lit (.bool false)], args := [d1, d2] }
  | _ => none }
def SealKeepsWrongFalsely : Prop := sealKeepsRow.holds Try.pinned (OpenSpec.ofChange sealKeepsWrong)

/-- 'countersignlaw05.SealLocks': WHATEVER THE INPUT: true; the input reads as it did. -/
def sealLocksSpec : ChangeSpec := { name := "sealLocks", fn := fun _ => fun
  | [d1, d2] => { results := [.lit (.bool true)], args := [d1, d2] }
  | _ => none }
def sealLocksRow : OpenClaim := { program := "ytcihdjdcmahacaa", sum := "347b3d44cf5b65cd783f6e355bd576903684248268168fc2551cc530e9c35ecb", func := "countersign/countersignlaw05.SealLocks", spec := "sealLocks", plainKeys := false, apart := false }
def SealLocksSaid : Prop := sealLocksRow.holds Try.pinned (OpenSpec.ofChange sealLocksSpec)

/-- ITS FALSE NEIGHBOUR: 'it returns false'. Refute it at one input. -/
def sealLocksWrong : ChangeSpec := { name := "sealLocks", fn := fun _ => fun
  | [d1, d2] => { results := [.lit (.bool false)], args := [d1, d2] }
  | _ => none }
def SealLocksWrongFalsely : Prop := sealLocksRow.holds Try.pinned (OpenSpec.ofChange sealLocksWrong)

/- THE SECOND FORM. 'bulk': how many values and letters a reading holds, each counted each time it is reached (what is shared counts as often as it is met; a slice's spare places count too). A statement '..UptoSaid' is the law's where the arguments, and the package variables that the reading takes, are together of bulk at most 1048576: NARROWER than '..Said'. Prove '..Said' where nothing that the law and all that it calls make is longer than what came in: it says more and counts as full. Else prove '..UptoSaid'. A law counts once. -/
mutual
def uptoBulk {H : Type} : DataW H → Nat
  | .lit (.string bytes) => bytes.length + 1
  | .lit _ => 1
  | .nil => 1
  | .ptr d => uptoBulk d + 1
  | .slice elems spare => uptoBulkAll elems + uptoBulkAll spare + 1
  | .agg parts => uptoBulkAll parts + 1
  | .iface _ d => uptoBulk d + 1
  | .map entries => uptoBulkEntries entries + 1
  | .held _ => 1
def uptoBulkAll {H : Type} : List (DataW H) → Nat
  | [] => 0
  | d :: r => uptoBulk d + uptoBulkAll r
def uptoBulkEntries {H : Type} : List (Lit × DataW H) → Nat
  | [] => 0
  | x :: r => uptoBulkEntry x + uptoBulkEntries r
def uptoBulkEntry {H : Type} : Lit × DataW H → Nat
  | (.string bytes, d) => bytes.length + uptoBulk d + 1
  | (_, d) => uptoBulk d + 1
 end
def uptoSmall : (H : Type) → List (DataW H) → Bool := fun _ ds => decide (uptoBulkAll ds ≤ 1048576)
def OpenSpec.upto (s : _root_.Go.ChangeSpec) : _root_.Go.OpenSpec := { _root_.Go.OpenSpec.ofChange s with cond := some uptoSmall }

/-- 'countersignlaw05.SealTexts', WHERE WHAT IT READS IS OF BULK AT MOST 1048576: true; the input reads as it did. -/
def sealTextsUptoRow : OpenClaim := { program := "ytcihdjdcmahacaa", sum := "347b3d44cf5b65cd783f6e355bd576903684248268168fc2551cc530e9c35ecb", func := "countersign/countersignlaw05.SealTexts", spec := "sealTexts", plainKeys := false, apart := false, narrowed := true }
def SealTextsUptoSaid : Prop := sealTextsUptoRow.holds Try.pinned (OpenSpec.upto sealTextsSpec)

/-- 'countersignlaw05.SealFresh', WHERE WHAT IT READS IS OF BULK AT MOST 1048576: true; the input reads as it did. -/
def sealFreshUptoRow : OpenClaim := { program := "ytcihdjdcmahacaa", sum := "347b3d44cf5b65cd783f6e355bd576903684248268168fc2551cc530e9c35ecb", func := "countersign/countersignlaw05.SealFresh", spec := "sealFresh", plainKeys := false, apart := false, narrowed := true }
def SealFreshUptoSaid : Prop := sealFreshUptoRow.holds Try.pinned (OpenSpec.upto sealFreshSpec)

/-- 'countersignlaw05.SealOpens', WHERE WHAT IT READS IS OF BULK AT MOST 1048576: true; the input reads as it did. -/
def sealOpensUptoRow : OpenClaim := { program := "ytcihdjdcmahacaa", sum := "347b3d44cf5b65cd783f6e355bd576903684248268168fc2551cc530e9c35ecb", func := "countersign/countersignlaw05.SealOpens", spec := "sealOpens", plainKeys := false, apart := false, narrowed := true }
def SealOpensUptoSaid : Prop := sealOpensUptoRow.holds Try.pinned (OpenSpec.upto sealOpensSpec)

/-- 'countersignlaw05.SealBinds', WHERE WHAT IT READS IS OF BULK AT MOST 1048576: true; the input reads as it did. -/
def sealBindsUptoRow : OpenClaim := { program := "ytcihdjdcmahacaa", sum := "347b3d44cf5b65cd783f6e355bd576903684248268168fc2551cc530e9c35ecb", func := "countersign/countersignlaw05.SealBinds", spec := "sealBinds", plainKeys := false, apart := false, narrowed := true }
def SealBindsUptoSaid : Prop := sealBindsUptoRow.holds Try.pinned (OpenSpec.upto sealBindsSpec)

/-- 'countersignlaw05.SealKeeps', WHERE WHAT IT READS IS OF BULK AT MOST 1048576: true; the input reads as it did. -/
def sealKeepsUptoRow : OpenClaim := { program := "ytcihdjdcmahacaa", sum := "347b3d44cf5b65cd783f6e355bd576903684248268168fc2551cc530e9c35ecb", func := "countersign/countersignlaw05.SealKeeps", spec := "sealKeeps", plainKeys := false, apart := false, narrowed := true }
def SealKeepsUptoSaid : Prop := sealKeepsUptoRow.holds Try.pinned (OpenSpec.upto sealKeepsSpec)

/-- 'countersignlaw05.SealLocks', WHERE WHAT IT READS IS OF BULK AT MOST 1048576: true; the input reads as it did. -/
def sealLocksUptoRow : OpenClaim := { program := "ytcihdjdcmahacaa", sum := "347b3d44cf5b65cd783f6e355bd576903684248268168fc2551cc530e9c35ecb", func := "countersign/countersignlaw05.SealLocks", spec := "sealLocks", plainKeys := false, apart := false, narrowed := true }
def SealLocksUptoSaid : Prop := sealLocksUptoRow.holds Try.pinned (OpenSpec.upto sealLocksSpec)

end Rows
end Go.Proofs.Ytcihdjdcmahacaa
