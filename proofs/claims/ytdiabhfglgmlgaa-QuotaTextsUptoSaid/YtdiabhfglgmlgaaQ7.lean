/- Layer 12: QuotaTexts for every argument. -/
import Derived.Test.YtdiabhfglgmlgaaI
import Derived.Test.YtdiabhfglgmlgaaQ5
import Derived.Test.YtdiabhfglgmlgaaQ6
set_option linter.unusedVariables false
namespace Go.Proofs.Ytdiabhfglgmlgaa.X
open Go Go.RowKit
theorem QuotaTexts_true (a0 : (List Qu)) (n0 : Nat) (q0 : (Open.QSl Qu.Q) a0 n0) (a1 : ByteArray) (n1 : Nat) (q1 : Open.QStr a1 n1) (hb : n0 + (n1 + (0)) ≤ 1048576) :
    CW cfg [] 7 [AVal.lst (a0.map Qu.enc), AVal.str a1] (fun _ => none) (fun v _ => v = .bool true) := by
  have h0 := qsl_len q0 (fun _ _ h => h.pos); have h1 := q1.2
  exact lawTextsQ a0 a1 (by omega) (by omega) (fit_of q0) rfl
end Go.Proofs.Ytdiabhfglgmlgaa.X
