-- Printed by a program of this session's (wip/pr.py) with contracts of its own; not the kit's print.
import Derived.Test.YtnfcohpljgmaiaaQDx0
import Derived.Test.YtnfcohpljgmaiaaQDx1
import Derived.Test.YtnfcohpljgmaiaaQDx2
import Derived.Test.YtnfcohpljgmaiaaQDx3
import Derived.Test.YtnfcohpljgmaiaaQDx4
import Derived.Test.YtnfcohpljgmaiaaQDx5
namespace Go.Proofs.Ytnfcohpljgmaiaa.QD
open Go.RowKit Go.Proofs.YtnfcohpljgmaiaaW.PrintWords Go.Proofs.YtnfcohpljgmaiaaW.PrintLast Go.Proofs.YtnfcohpljgmaiaaW.PrintMore
attribute [local go_sem] max2_int min2_int max_two min_two max_three min_three max_four min_four   -- for this text's walks alone
set_option linter.unusedVariables false
set_option linter.unusedSimpArgs false

end Go.Proofs.Ytnfcohpljgmaiaa.QD
