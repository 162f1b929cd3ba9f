/- The Go functions that this seat's statements reach: each with the plain function that it computes, for every input at which that function answers. Written by a program of the session (wip/tools/hprint.py) over the kit's printer; contracts that the printer does not take are proved by hand among them. -/
import Derived.Test.YtlfjebbcmngihaaPTrx0
import Derived.Test.YtlfjebbcmngihaaPTrx1
import Derived.Test.YtlfjebbcmngihaaPTrx2
import Derived.Test.YtlfjebbcmngihaaPTrx3
import Derived.Test.YtlfjebbcmngihaaPTrx4
import Derived.Test.YtlfjebbcmngihaaPTrx5
import Derived.Test.YtlfjebbcmngihaaPTrx6
import Derived.Test.YtlfjebbcmngihaaPTrx7
import Derived.Test.YtlfjebbcmngihaaPTrx8
import Derived.Test.YtlfjebbcmngihaaPTrx9
namespace Go.Proofs.Ytlfjebbcmngihaa.PTr
open Go.RowKit Go.Proofs.YtlfjebbcmngihaaW.PrintWords Go.Proofs.YtlfjebbcmngihaaW.PrintLast Go.Proofs.YtlfjebbcmngihaaW.PrintMore
attribute [local go_sem] max2_int min2_int max_two min_two max_three min_three max_four min_four   -- for this text's walks alone
set_option linter.unusedVariables false
set_option linter.unusedSimpArgs false

end Go.Proofs.Ytlfjebbcmngihaa.PTr
