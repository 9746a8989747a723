-- Written by a program of this session (wip/tools/printx.py) over the kit's printer and texts of its own; it is no print of print.sh.
import Derived.Test.YtoajoklpbfehiaaGCompsLimitsx0
import Derived.Test.YtoajoklpbfehiaaGCompsLimitsx1
import Derived.Test.YtoajoklpbfehiaaGCompsLimitsx2
import Derived.Test.YtoajoklpbfehiaaGCompsLimitsx3
namespace Go.Proofs.Ytoajoklpbfehiaa.GCompsLimits
open Go.RowKit Go.Proofs.YtoajoklpbfehiaaW.PrintWords Go.Proofs.YtoajoklpbfehiaaW.PrintLast Go.Proofs.YtoajoklpbfehiaaW.PrintMore
attribute [local go_sem] max2_int min2_int max_two min_two max_three min_three max_four min_four   -- for this text's walks alone
set_option linter.unusedVariables false
set_option linter.unusedSimpArgs false

end Go.Proofs.Ytoajoklpbfehiaa.GCompsLimits
