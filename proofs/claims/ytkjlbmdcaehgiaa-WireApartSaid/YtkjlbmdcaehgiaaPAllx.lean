-- Written by a program of this claim's (gprint.py, over the kit's printer)
import Derived.Test.YtkjlbmdcaehgiaaPAllx0
import Derived.Test.YtkjlbmdcaehgiaaPAllx1
import Derived.Test.YtkjlbmdcaehgiaaPAllx2
import Derived.Test.YtkjlbmdcaehgiaaPAllx3
import Derived.Test.YtkjlbmdcaehgiaaPAllx4
import Derived.Test.YtkjlbmdcaehgiaaPAllx5
namespace Go.Proofs.Ytkjlbmdcaehgiaa.PAll
open Go.RowKit Go.Proofs.YtkjlbmdcaehgiaaW.PrintWords Go.Proofs.YtkjlbmdcaehgiaaW.PrintLast Go.Proofs.YtkjlbmdcaehgiaaW.PrintMore
attribute [local go_sem] max2_int min2_int max_two min_two max_three min_three max_four min_four   -- for this text's walks alone
set_option linter.unusedVariables false
set_option linter.unusedSimpArgs false

end Go.Proofs.Ytkjlbmdcaehgiaa.PAll
