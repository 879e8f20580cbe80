-- Written by a program of this claim's (gprint.py, over the kit's printer)
import Derived.Test.YtkjlbmdcaehgiaaProg
import Derived.Below
import Derived.Deep.Draws
import Derived.Deep.AppendLies
import Derived.Maps.AppendAt
import Derived.OwnWalk
import Derived.Laws.BytesArg
import Derived.Laws.MakeOwn
import Derived.Laws.OwnMore
import Derived.Deep.OwnRows
import Derived.Tactics
import Derived.Lib.ConvBytes
import Derived.Laws.Slices
import Derived.WalkKit
import Derived.KernelRfl
import Derived.RowKit3
import Derived.Deep.LoopGhost
import Derived.Deep.QuietTactic
import Derived.BigQuiet
import Derived.WideLaws
import Derived.Deep.DeepCutAuto
import Derived.Deep.CutBlock
import Derived.Deep.RegionHeld3
import Derived.Laws.Rows
import Derived.Lib.AppendStr
import Derived.ArgAppend
import Derived.Laws.IdiomCopy
import Derived.OrdersHeld
import Derived.Laws.BitsLemmas
import Derived.RowKit
import Derived.Test.YtkjlbmdcaehgiaaWWords
import Derived.Test.YtkjlbmdcaehgiaaWLast
import Derived.Test.YtkjlbmdcaehgiaaWTab
import Derived.Test.YtkjlbmdcaehgiaaWFour
import Derived.Test.YtkjlbmdcaehgiaaWQPut
import Derived.Test.YtkjlbmdcaehgiaaWApart
import Derived.Test.YtkjlbmdcaehgiaaWArr
import Derived.Test.YtkjlbmdcaehgiaaWZeros
import Derived.Test.YtkjlbmdcaehgiaaWFoot
import Derived.Test.YtkjlbmdcaehgiaaWKept
import Derived.Test.YtkjlbmdcaehgiaaWShare
import Derived.Test.YtkjlbmdcaehgiaaWN
import Derived.Test.YtkjlbmdcaehgiaaWFootNe
import Derived.Test.YtkjlbmdcaehgiaaWAt
import Derived.Test.YtkjlbmdcaehgiaaWEqStruct
import Derived.Test.YtkjlbmdcaehgiaaWRepsOne
import Derived.Test.YtkjlbmdcaehgiaaWInv
import Derived.Test.YtkjlbmdcaehgiaaWInvWords
import Derived.Test.YtkjlbmdcaehgiaaWGuard
import Derived.Test.YtkjlbmdcaehgiaaWNEv
import Derived.Test.YtkjlbmdcaehgiaaWMore
import Derived.Test.YtkjlbmdcaehgiaaHBuild
namespace Go.Proofs.Ytkjlbmdcaehgiaa.PAll
open Go.RowKit Go.Proofs.YtkjlbmdcaehgiaaW.PrintWords Go.Proofs.YtkjlbmdcaehgiaaW.PrintLast Go.Proofs.YtkjlbmdcaehgiaaW.PrintMore
attribute [local go_sem] max2_int min2_int max_two min_two max_three min_three max_four min_four   -- for this text's walks alone
set_option linter.unusedVariables false
set_option linter.unusedSimpArgs false



def errW : Option Int → Value
  | none => .nilIface
  | some c => .iface 0 (.int .i64 c)
theorem errW_none : errW none = .nilIface := rfl
theorem errW_some (c : Int) : errW (some c) = .iface 0 (.int .i64 c) := rfl

theorem info5 : (Try.prog.info? 5).map (fun i => (i.zero, i.size, i.bytes)) = some (some (.int .u8 0), 1, 1) := by kernel_rfl
theorem info9 : (Try.prog.info? 9).map (fun i => (i.zero, i.size, i.bytes)) = some (some (.string ⟨#[]⟩), 1, 16) := by kernel_rfl
theorem info22 : (Try.prog.info? 22).map (fun i => (i.zero, i.size, i.bytes)) = some (some (.int .u64 0), 1, 8) := by kernel_rfl
-- the values' own types

end Go.Proofs.Ytkjlbmdcaehgiaa.PAll
