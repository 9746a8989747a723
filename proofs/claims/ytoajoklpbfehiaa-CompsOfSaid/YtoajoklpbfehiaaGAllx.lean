-- Written by a program of this session (wip/tools/printx.py) over the kit's printer and texts of its own; it is no print of print.sh.
import Derived.Test.YtoajoklpbfehiaaGAllx0
import Derived.Test.YtoajoklpbfehiaaGAllx1
import Derived.Test.YtoajoklpbfehiaaGAllx2
import Derived.Test.YtoajoklpbfehiaaGAllx3
import Derived.Test.YtoajoklpbfehiaaGAllx4
import Derived.Test.YtoajoklpbfehiaaGAllx5
import Derived.Test.YtoajoklpbfehiaaGAllx6
import Derived.Test.YtoajoklpbfehiaaGAllx7
import Derived.Test.YtoajoklpbfehiaaGAllx8
import Derived.Test.YtoajoklpbfehiaaGAllx9
import Derived.Test.YtoajoklpbfehiaaGAllx10
import Derived.Test.YtoajoklpbfehiaaGAllx11
import Derived.Test.YtoajoklpbfehiaaGAllx12
import Derived.Test.YtoajoklpbfehiaaGAllx13
import Derived.Test.YtoajoklpbfehiaaGAllx14
namespace Go.Proofs.Ytoajoklpbfehiaa.GAll
open Go.RowKit Go.Proofs.YtoajoklpbfehiaaW.PrintWords Go.Proofs.YtoajoklpbfehiaaW.PrintLast Go.Proofs.YtoajoklpbfehiaaW.PrintMore
attribute [local go_sem] max2_int min2_int max_two min_two max_three min_three max_four min_four   -- for this text's walks alone
set_option linter.unusedVariables false
set_option linter.unusedSimpArgs false

end Go.Proofs.Ytoajoklpbfehiaa.GAll
