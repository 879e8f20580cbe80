/- Layer 07: TokenChecks for every argument. -/
import Derived.Test.YtoljfmghcfdbpaaTK5
import Derived.Test.YtoljfmghcfdbpaaTK7
set_option linter.unusedVariables false
namespace Go.Proofs.Ytoljfmghcfdbpaa.X
open Go Go.RowKit
theorem TokenChecks_true (a0 : Us) (n0 : Nat) (q0 : Us.Q a0 n0) (a1 : As) (n1 : Nat) (q1 : As.Q a1 n1) (hb : n0 + (n1 + (0)) ≤ 1048576) :
    CW cfg [] 7 [Us.enc a0, As.enc a1] (fun _ => none) (fun v _ => v = .bool true) :=
  lawChecks a0 a1 (Us.good_of q0 (by omega)) (Tk.ok (As.ok q1).1) (As.ok q1).2.2.2 rfl
end Go.Proofs.Ytoljfmghcfdbpaa.X
